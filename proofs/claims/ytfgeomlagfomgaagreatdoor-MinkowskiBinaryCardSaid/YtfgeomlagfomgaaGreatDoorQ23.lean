/-
  Part 24 of a proof (walks and plain facts).
-/
import Derived.Test.YtfgeomlagfomgaaGreatDoorQ22
set_option linter.all false
set_option maxRecDepth 100000
set_option maxHeartbeats 64000000
open Nat renaming reduceAdd → aa
open Nat renaming reduceEqDiff → ab
open List renaming replicate → ae
open Nat renaming reduceBEq → af
open Nat renaming reduceLeDiff → ah
open List renaming getElem?_eq_none → aq
open List renaming getElem?_eq_getElem → ar
open List renaming mem_of_getElem? → au
namespace Go.Proofs.YtfgeomlagfomgaaGreatDoor
open Go.RowKit
theorem RO {n:Nat} {X:Nat->Int} (h: ∀j,j<n->X j=0):lc fI (bE n X)=ae n [.p (.raw (.int .i64 0))]:=by
 have e:bE n X=ae n 0:=by
  apply List.ext_getElem?;intro j;by_cases hj:j<n
  ·rw[aU _ hj,List.getElem?_replicate,if_pos hj,h j hj]
  rw[aq (by rw[bv];omega),aq (by simp;omega)]
 rw[e,lc,List.map_replicate];rfl
def Gh (M:List (List Int)) (n:Nat):Prop:=M.length=n/\ ∀q∈M,q.length=n
structure Ry (M:List (List Int)) (n:Nat) where
 i:Nat
 hi:i<=M.length
 ok: ∀a,a<i-> ∀q,M[a]?=some q->q.length=n
theorem P2 {M:List (List Int)} {n:Nat} (h: ∀a,a<M.length-> ∀q,M[a]?=some q->q.length=n): ∀q∈M,q.length=n:=fun q hq=>by
 obtain⟨a,ha⟩:=List.mem_iff_getElem?.1 hq;exact h a (List.getElem?_eq_some_iff.1 ha).1 q ha
structure R5 (x y:List Int) where
 i:Nat
 hi:i<=x.length
 ok: ∀a,a<i->x[a]?=y[a]?
structure R6 (x y:List (List Int)) where
 i:Nat
 hi:i<=x.length
 ok: ∀a,a<i->x[a]?=y[a]?
theorem JB {α:Type} {x y:List α} (hl:x.length=y.length) (h: ∀a,a<x.length->x[a]?=y[a]?):x=y:=by
 apply List.ext_getElem?;intro a;by_cases ha:a<x.length
 ·exact h a ha
 rw[aq (by omega),aq (by omega)]
theorem ku (M:List (List Int)) (n:Nat) (r:Bool) (hr:r=true↔Gh M n) (hb:M.length<=1000000):CallC Tryz.prog 70 [bx M,.raw (.int .i64 (n:Int))] ⟨[],.raw (.bool r)⟩:=by
 refine aI Tryz.func70 rfl (by kernel_rfl) ?_;rw[Tryz.ntmps70];refine aD fun _ K=>?_;simp only[kd,bx,aa,ae];apply K
 refine aF (aD fun _ K=>?_);simp only[kd,aa];apply K;refine aY (G:=Ry M n) (fun g=>⟨(bx M::rN n::j4 (jk::bx M::rN M.length::rN g.i::j4 (j4 (j4 ([]))))),Hm []⟩) (fun g=>M.length-g.i) ⟨0,by omega,fun a ha=>by omega⟩ ?_ ?_
 ·refine aE trivial ?_;simp[wk]
 rintro⟨i,hi,ok⟩;simp only;by_cases hm:i<M.length
 ·obtain⟨q,hq⟩: ∃q,M[i]?=some q:=⟨M[i],ar hm⟩;refine aD fun _ K=>?_;simp(disch:=omega) only[kd,km,bx];apply K
  refine bG rfl ?_;refine aF (aK ?_);refine aD fun _ K=>?_;simp(disch:=omega) only[kd,km,aa,hq,fR];apply K
  by_cases hql:q.length=n
  ·refine aD fun _ K=>?_;simp(disch:=omega) only[kd,km,aa,hql];apply K
   refine aR rfl (aM ?_);show bo _ _ _ _;refine aL fun _ K=>?_;simp(disch:=omega) only[kd,km,aP];apply K
   refine⟨⟨i+1,by omega,fun a ha q' hq'=>?_⟩,by simp only;omega,aE trivial ?_⟩
   ·by_cases e:a=i
    ·subst e;rw[hq]at hq';injection hq' with hq'
     rw[<- hq'];exact hql
    exact ok a (by omega) q' hq'
   simp[wk]
  have hr0:r=false:=by
   cases r with
   |false=>rfl
   |true=>exact absurd ((hr.1 rfl).2 q (au hq)) hql
  subst hr0;refine aD fun _ K=>?_;simp(disch:=omega) only[kd,km,aa];apply K
  refine aX rfl ?_;refine aD fun _ K=>?_;simp only[kd];apply K
  (refine aH ⟨.inr rfl,aJ rfl ?_ rfl⟩;simp(disch:=omega) only[kd,km,Tryz.results70])
 have hall:=P2 fun a ha=>ok a (by omega)
 have hd:r=decide ((M.length:Int)=(n:Int)):=by
  cases r with
  |true=>rw[decide_eq_true (by have:=(hr.1 rfl).1;omega)]
  |false=>
   rw[decide_eq_false];intro h;have:=hr.2 ⟨by omega,hall⟩;cases this
 rw[hd];refine aD fun _ K=>?_;simp(disch:=omega) only[kd,km,bx];apply K
 refine bT rfl ?_;show bo _ _ _ _;refine aD fun _ K=>?_;simp only[kd,aa];apply K
 (refine aH ⟨.inr rfl,aJ rfl ?_ rfl⟩;simp(disch:=omega) only[kd,km,Tryz.results70])
theorem Ff (x y:List Int) (r:Bool) (hr:r=true↔x=y) (hb:x.length<=1000000):CallC Tryz.prog 73 [jW x,jW y] ⟨[],.raw (.bool r)⟩:=by
 by_cases hl:x.length=y.length
 ·have hl':(x.length:Int)=(y.length:Int):=by omega
  refine aI Tryz.func73 rfl (by kernel_rfl) ?_;rw[Tryz.ntmps73];refine aD fun _ K=>?_;simp only[kd,jW,aa,ae];apply K
  refine aF (aD fun _ K=>?_);simp(disch:=omega) only[kd,km,aa];apply K;refine aR rfl (aM ?_);show bo _ _ _ _;refine aF (aD fun _ K=>?_);simp only[kd,aa];apply K;refine aY (G:=R5 x y) (fun g=>⟨(jW x::jW y::j4 (j4 (jk::jk::rN x.length::rN g.i::j4 (j4 (j4 ([])))))),Hm []⟩) (fun g=>x.length-g.i) ⟨0,by omega,fun a ha=>by omega⟩ ?_ ?_
  ·refine aE trivial ?_;simp[wk]
  rintro⟨i,hi,ok⟩;simp only;by_cases hm:i<x.length
  ·obtain⟨p,hp⟩: ∃p,x[i]?=some p:=⟨x[i],ar hm⟩;obtain⟨q,hq⟩: ∃q,y[i]?=some q:=⟨y[i]'(by omega),ar (by omega)⟩;have hm2:i<y.length:=by omega
   by_cases e:p=q
   ·refine aD fun _ K=>?_;simp(disch:=omega) only[kd,km,jW];apply K
    refine bG rfl ?_;refine aF (aK ?_);refine aD fun _ K=>?_;simp only[kd];apply K
    refine ch be (by kernel_rfl) fun _ K=>?_;simp(disch:=omega) only[kd,km,aa,hp,hq];apply K
    refine aR rfl (aM ?_);show bo _ _ _ _;refine aL fun _ K=>?_;simp(disch:=omega) only[kd,km,aP];apply K
    refine⟨⟨i+1,by omega,fun a ha=>?_⟩,by simp only;omega,aE trivial ?_⟩
    ·by_cases e2:a=i
     ·subst e2;rw[hp,hq,e]
     exact ok a (by omega)
    simp[wk]
   have hr0:r=false:=by
    cases r with
    |false=>rfl
    |true=>
     have:=hr.1 rfl;subst this;rw[hp]at hq;injection hq with hq
     exact absurd hq e
   subst hr0;refine aD fun _ K=>?_;simp(disch:=omega) only[kd,km,jW];apply K
   refine bG rfl ?_;refine aF (aK ?_);refine aD fun _ K=>?_;simp only[kd];apply K
   refine ch be (by kernel_rfl) fun _ K=>?_;simp(disch:=omega) only[kd,km,aa,hp,hq];apply K
   refine aX rfl ?_;refine aD fun _ K=>?_;simp only[kd];apply K
   (refine aH ⟨.inr rfl,aJ rfl ?_ rfl⟩;simp(disch:=omega) only[kd,km,Tryz.results73])
  have hr1:r=true:=hr.2 (JB hl fun a ha=>ok a (by omega));subst hr1;refine aD fun _ K=>?_;simp(disch:=omega) only[kd,km,jW];apply K
  refine bT rfl ?_;show bo _ _ _ _;refine aD fun _ K=>?_;simp only[kd];apply K
  (refine aH ⟨.inr rfl,aJ rfl ?_ rfl⟩;simp(disch:=omega) only[kd,km,Tryz.results73])
 have hr0:r=false:=by
  cases r with
  |false=>rfl
  |true=>exact absurd (congrArg List.length (hr.1 rfl)) hl
 subst hr0;refine aI Tryz.func73 rfl (by kernel_rfl) ?_;rw[Tryz.ntmps73];refine aD fun _ K=>?_;simp only[kd,jW,aa,ae];apply K
 refine aF (aD fun _ K=>?_);simp(disch:=omega) only[kd,km,aa];apply K;refine aX rfl ?_;refine aD fun _ K=>?_;simp only[kd];apply K
 (refine aH ⟨.inr rfl,aJ rfl ?_ rfl⟩;simp(disch:=omega) only[kd,km,Tryz.results73])
abbrev QL:TV:= .raw (.func (.func 73) #[] #[])
theorem Bb (x y:List (List Int)) (r:Bool) (hr:r=true↔x=y) (hb:x.length<=1000000) (hb2: ∀p∈x,p.length<=1000000):CallC Tryz.prog 72 [bx x,bx y,QL] ⟨[],.raw (.bool r)⟩:=by
 by_cases hl:x.length=y.length
 ·have hl':(x.length:Int)=(y.length:Int):=by omega
  refine aI Tryz.func72 rfl (by kernel_rfl) ?_;rw[Tryz.ntmps72];refine aD fun _ K=>?_;simp only[kd,bx,aa,ae];apply K
  refine aF (aD fun _ K=>?_);simp(disch:=omega) only[kd,km,aa];apply K;refine aR rfl (aM ?_);show bo _ _ _ _;refine aF (aD fun _ K=>?_);simp only[kd,aa];apply K;refine aY (G:=R6 x y) (fun g=>⟨(bx x::bx y::QL::j4 (j4 (j4 (bx x::rN x.length::rN g.i::j4 (j4 (j4 (jk::jk::[]))))))),Hm []⟩) (fun g=>x.length-g.i) ⟨0,by omega,fun a ha=>by omega⟩ ?_ ?_
  ·refine aE trivial ?_;simp[wk]
  rintro⟨i,hi,ok⟩;simp only;by_cases hm:i<x.length
  ·obtain⟨p,hp⟩: ∃p,x[i]?=some p:=⟨x[i],ar hm⟩;obtain⟨q,hq⟩: ∃q,y[i]?=some q:=⟨y[i]'(by omega),ar (by omega)⟩;have hm2:i<y.length:=by omega
   by_cases e:p=q
   ·have cE:=Ff p q true (by simp[e]) (hb2 p (au hp));refine aD fun _ K=>?_;simp(disch:=omega) only[kd,km,bx];apply K
    refine bG rfl ?_;refine aF (aK ?_);refine aD fun _ K=>?_;simp(disch:=omega) only[kd,km,aa,hp,fR];apply K
    refine aD fun _ K=>?_;simp(disch:=omega) only[kd,km,aa,hq,fR];apply K
    refine aG [⟨3,_,_,_,cE⟩] [] fun _ K=>?_;simp(disch:=omega) only[kd,km,jW,aa,Array.isEmpty,Array.size];apply K
    refine aR rfl (aM ?_);show bo _ _ _ _;refine aL fun _ K=>?_;simp(disch:=omega) only[kd,km,aP];apply K
    refine⟨⟨i+1,by omega,fun a ha=>?_⟩,by simp only;omega,aE trivial ?_⟩
    ·by_cases e2:a=i
     ·subst e2;rw[hp,hq,e]
     exact ok a (by omega)
    simp[wk]
   have hr0:r=false:=by
    cases r with
    |false=>rfl
    |true=>
     have:=hr.1 rfl;subst this;rw[hp]at hq;injection hq with hq
     exact absurd hq e
   subst hr0;have cE:=Ff p q false (by simp[e]) (hb2 p (au hp));refine aD fun _ K=>?_;simp(disch:=omega) only[kd,km,bx];apply K
   refine bG rfl ?_;refine aF (aK ?_);refine aD fun _ K=>?_;simp(disch:=omega) only[kd,km,aa,hp,fR];apply K
   refine aD fun _ K=>?_;simp(disch:=omega) only[kd,km,aa,hq,fR];apply K
   refine aG [⟨3,_,_,_,cE⟩] [] fun _ K=>?_;simp(disch:=omega) only[kd,km,jW,aa,Array.isEmpty,Array.size];apply K
   refine aX rfl ?_;refine aD fun _ K=>?_;simp only[kd];apply K
   (refine aH ⟨.inr rfl,aJ rfl ?_ rfl⟩;simp(disch:=omega) only[kd,km,Tryz.results72])
  have hr1:r=true:=hr.2 (JB hl fun a ha=>ok a (by omega));subst hr1;refine aD fun _ K=>?_;simp(disch:=omega) only[kd,km,bx];apply K
  refine bT rfl ?_;show bo _ _ _ _;refine aD fun _ K=>?_;simp only[kd];apply K
  (refine aH ⟨.inr rfl,aJ rfl ?_ rfl⟩;simp(disch:=omega) only[kd,km,Tryz.results72])
 have hr0:r=false:=by
  cases r with
  |false=>rfl
  |true=>exact absurd (congrArg List.length (hr.1 rfl)) hl
 subst hr0;refine aI Tryz.func72 rfl (by kernel_rfl) ?_;rw[Tryz.ntmps72];refine aD fun _ K=>?_;simp only[kd,bx,aa,ae];apply K
 refine aF (aD fun _ K=>?_);simp(disch:=omega) only[kd,km,aa];apply K;refine aX rfl ?_;refine aD fun _ K=>?_;simp only[kd];apply K
 (refine aH ⟨.inr rfl,aJ rfl ?_ rfl⟩;simp(disch:=omega) only[kd,km,Tryz.results72])
abbrev LS (d:List Int) (e:Int):TV:= .tup [(false,[.p (.sl (ls fI d))]),(false,[.p (.raw (.int .i64 e))])]
def My (g:FF) (i:Nat):Nat->Int:=fun j=>if j<i then g j j else 0
theorem Jp (g:FF) (i:Nat):(fun b=>if b=i then g i i else My g i b)=My g (i+1):=by
 funext b;unfold My;by_cases h:b=i
 ·subst h;rw[if_pos rfl,if_pos (by omega)]
 by_cases h2:b<i
 ·rw[if_neg h,if_pos h2,if_pos (by omega)]
 rw[if_neg h,if_neg h2,if_neg (by omega)]
theorem Mz (n:Nat) (g:FF):bE n (My g n)=bE n (fun i=>g i i):=fc fun j hj=>if_pos hj
theorem qy (M T:List (List Int)) (n:Nat) (g:FF) (hn:n<=4) (cR:CallG Tryz.prog 0 138 18 [bx M] iA ⟨[],CG (bs n n g) T 0⟩):
  CallG Tryz.prog 0 138 29 [bx M] iA ⟨[],LS (bE n (fun i=>g i i)) 0⟩:=by
 have hml:=aW n n g;refine dB Tryz.func29 rfl (by kernel_rfl) ?_;rw[Tryz.ntmps29];refine aN fun _ K=>?_;simp only[kd,bx,ae];apply K
 refine bz [⟨1,_,_,_,cR,rfl⟩] [] [] fun _ K=>?_;simp(disch:=omega) only[kd,km,bx,CG,da.a,aa];apply K
 refine bH (aN fun _ K=>?_);simp(disch:=omega) only[kd,km];apply K;refine eh rfl (eK ?_);show d7 _ _ _ _ _ _ _;refine aN fun _ K=>?_;simp(disch:=omega) only[kd,km,aa,hml];apply K
 refine d7.weak (aE (tm:=(jk::jk::jk::.raw (.int .i64 0)::bx (bs n n g)::jk::jk::.one (.sl 21 0 0 n)::j16 (j4 (j4 (j4 (jk::jk::[])))))) (l:=[(21,[⟨2,1,lc fI (bE n (My g 0))⟩])]) ⟨?_,trivial⟩ (by simp[wk])) ?_
 ·rw[RO (X:=My g 0) fun j _=>if_neg (by omega)];rfl
 refine bH (aN fun _ K=>?_);simp only[kd,aa,bx,hml];apply K;refine fA (G:=j6 n) (fun q=>⟨(jk::jk::jk::.raw (.int .i64 0)::jk::jk::jk::.one (.sl 21 0 0 n)::j4 (j4 (j4 (jk::jk::bx (bs n n g)::rN n::rN q.i::j4 (j4 (j4 (jk::[]))))))),Hm [(21,[⟨2,1,lc fI (bE n (My g q.i))⟩])]⟩) (fun _=>iA) (fun q=>n-q.i) ⟨0,by omega⟩ ?_ rfl ?_
 ·refine aE ⟨rfl,trivial⟩ ?_;simp[wk]
 rintro⟨i,hi⟩;simp only;by_cases hm:i<n
 ·have hr:=bC n g hm;have hii:=aU (g i) hm;have g2:=aU (m:=n) (My g i) (j:=i) hm;have s1:=Fv n i (My g i) (g i i);rw[Jp]at s1;refine aN fun _ K=>?_;simp(disch:=omega) only[kd,km,bx];apply K
  refine iG rfl ?_;refine bH (cK ?_);refine aN fun _ K=>?_;simp(disch:=omega) only[kd,km,aa,hr,fR];apply K
  refine dn fun _ K=>?_;simp(disch:=omega) only[kd,km,aa,hii,g2,s1];apply K
  show d7 _ _ _ _ _ _ _;refine dn fun _ K=>?_;simp(disch:=omega) only[kd,km,aP];apply K
  refine⟨⟨i+1,by omega⟩,by simp only;omega,aE ⟨rfl,trivial⟩ ?_,rfl⟩;simp[wk]
 have hin:i=n:=by omega
 subst hin;refine aN fun _ K=>?_;simp(disch:=omega) only[kd,km,bx];apply K
 refine kH rfl ?_;show d7 _ _ _ _ _ _ _;rw[Mz];refine aN fun _ K=>?_;simp only[kd,aa];apply K
 refine dj ⟨.inr rfl,rfl,kS 21 (dc rfl) ?_ rfl⟩;simp(disch:=omega) only[kd,km,Tryz.results29,oV,LS]
/-! awake -/
abbrev CC:List (List Int):=[[2,-1],[-1,3]]
abbrev RW:List (List Int):=[[2,-1],[-1,2]]
abbrev Rb:List (List Int):=[[2,1],[1,3]]
theorem O5:b6 CC=true:=by decide+kernel
def QH:Nat->Nat->Int:=fun a b=>if a=b then(if a=0 then 1 else -1)else 0
theorem EJ:CC=bs 2 2 (ent CC):=rfl
theorem Mg:Rb=bs 2 2 (cngF 2 (ent CC) QH):=by decide+kernel
theorem yL:RedR (ent CC) 2:=by
 have h:=(ik _).1 O5;rw[EJ]at h;have:=((Az (by omega)).1 h).2.2;exact this
theorem I3:MinkP (cngF 2 (ent CC) QH) 2:=by
 refine⟨fun i hi=>?_,fun i hi=>?_⟩
 ·obtain rfl:i=0:=by omega
  decide
 rintro⟨c,h1,h2⟩
 match i,hi with
 |0,_=>
  obtain rfl:c=0:=by simpa using h1
  revert h2;decide
 |1,_=>
  have hc:c=0\/c=1\/c=2:=by omega
  rcases hc with rfl|rfl|rfl<;>revert h2<;>decide
theorem QI: ¬Ax RW:=fun h=>by
 have:=(h.2.1 0 (by decide)).2
 revert this;decide
theorem Mh:yz 2 QH:=⟨fun v i=>if i=0 then v 0 else-v 1,fun v j hj=>by
 have:j=0\/j=1:=by omega
 rcases this with rfl|rfl
 ·simp[mV,bY,QH]
 simp[mV,bY,QH]⟩
theorem RD {R:FF} (hR:RchB 2 (ent CC) idF R):bs 2 2 (gmB 2 (ent CC) (j7 (gmB 2 (ent CC) R) R))=Rb:=by
 have hr:=yL;have h1:InB2 2 (ent CC) 262144 idF:=InB2.one (by omega) (by omega) hr;obtain⟨e1,e2,e3⟩:=vV hR h1;have hm:=BG e2 e3;have one:gB 2 (trF idF):=gB.one.congr fun i j _ _=>by
  show(if j=i then(1:Int)else 0)=if i=j then 1 else 0
  by_cases e:i=j<;>simp[e,eq_comm]
 have hs:=zV (g:=gmB 2 (ent CC) R) (vW hR one);have hd:=(e1.sg (gmB 2 (ent CC) R)).dt;rw[qp]at hm⊢;rw[Mg];exact eg fun i j hi hj=>vy hr.pd hm I3 hs.rinv Mh hd (by rw[kN];decide) hi hj
theorem tD:CallG Tryz.prog 0 138 13 [] iA ⟨[],.raw (.bool true)⟩:=by
 obtain⟨R,hR,_⟩:=s7 (h:=ent CC) (n:=2) (by omega) (by omega) yL;have cR:=vu 2 (ent CC) R (by omega) (by omega) yL hR;have hTl:=aW 2 2 (trF (j7 (gmB 2 (ent CC) R) R));rw[RD hR,<- EJ]at cR;generalize bs 2 2 (trF (j7 (gmB 2 (ent CC) R) R))=T at*
 have hTi:(T.length:Int)=2:=by omega
 have cS:=zR Rb Rb;rw[decide_eq_true rfl]at cS;have cI:=mu RW false (by simp[QI]);simp only[bx,ls,fR,fI,List.map_cons,List.map_nil]at cR cS cI;refine dB Tryz.func13 rfl (by kernel_rfl) ?_;rw[Tryz.ntmps13];refine aN fun _ K=>?_;simp only[kd,ae];apply K
 refine bz [⟨3,_,_,_,cR,rfl⟩] [] [] fun _ K=>?_;simp(disch:=omega) only[kd,km,CG,da.a,aa,Nat.reduceMul,ah];apply K
 refine bz [⟨18,_,_,_,cI,rfl⟩] [⟨12,_,_,_,cS⟩] [] fun _ K=>?_;simp(disch:=omega) only[kd,km,da.a,aa,ls,fR,hTi,Nat.reduceMul,ah,af];apply K
 (refine dj ⟨.inr rfl,rfl,aJ rfl ?_ rfl⟩;simp(disch:=omega) only[kd,km,Tryz.results13])
theorem M1 {n c i:Nat} (g:FF) (h:Nat->Int):((bs n c g).map mY).set i ⟨42,2,lc fZ (bE c h)⟩=(bs n c (fun r=>if r=i then h else g r)).map mY:=by
 rw[<- zp,List.map_set];rfl
theorem Hz (f:FF) (i a b:Nat):(fun r=>if r=i then f i else part f i 0 r) a b=part f (i+1) 0 a b:=by
 by_cases e:a=i
 ·subst e;simp[part]
 by_cases h:a<i
 ·simp[part,e,h,show a<i+1 by omega]
 simp[part,e,h,show ¬a<i+1 by omega]
theorem vP (n:Nat) (f:FF) (hn1:1<=n) (hn:n<=16) (hf: ∀i j,i<n->j<n->Sz (f i j) 1024):
  CallC Tryz.prog 160 [bJ (bs n n f)] ⟨[],tZ (detF n f)⟩:=by
 have hml:=aW n n f;refine aI Tryz.func160 rfl (by kernel_rfl) ?_;rw[Tryz.ntmps160];refine aD fun _ K=>?_;simp(disch:=omega) only[kd,km,bJ,ae,aa];apply K
 refine aD fun _ K=>?_;simp only[kd,aa,hml];apply K
 refine aD fun _ K=>?_;simp(disch:=omega) only[kd,km,aa,ab];apply K
 refine aF (aD fun _ K=>?_);simp only[kd,aa,hml];apply K;refine aY (G:=j6 n) (fun g=>⟨(jk::jk::.one (.ptr 2 0 0 0)::rN n::.one (.sl 18 0 0 n)::j4 (j4 (j4 (jk::jk::bJ (bs n n f)::rN n::rN g.i::j16 (j16 (j16 (j16 (j16 (j16 (j16 (j4 (j4 (j4 (jk::jk::jk::[])))))))))))))),Hm [(2,rO),(18,CD 18 n n g.i (part f g.i 0))]⟩) (fun g=>n-g.i) ⟨0,by omega⟩ ?_ ?_
 ·refine(fo 18).trans (aE ⟨rfl,xC 18 n n _,trivial⟩ ?_);simp[wk]
 rintro⟨i,hi⟩;simp only;by_cases hm:i<n
 ·have hr:=bC n f hm;have hg:=Am (d:=18) (c:=n) hm;refine aD fun _ K=>?_;simp(disch:=omega) only[kd,km,bJ];apply K
  refine bG rfl ?_;refine aF (aK ?_);refine aD fun _ K=>?_;simp(disch:=omega) only[kd,km,aa,hr,fR];apply K
  simp only[CD];refine aD fun _ K=>?_;simp(disch:=omega) only[kd,km,aa,ab,hg,ah,List.length_replicate,List.all_replicate,aW,af];apply K
  refine bo.weak ((fo 18).trans (aE (tm:=(jk::jk::.one (.ptr 2 0 0 0)::rN n::.one (.sl 18 0 0 n)::rN i::.one (.p (.sl (ls fZ (bE n (f i)))))::j4 (j4 (j4 (bJ (bs n n f)::rN n::rN i::j16 (j16 (j16 (j16 (j16 (j16 (j16 (j4 (j4 (j4 (jk::jk::jk::[]))))))))))))))) (l:=[(2,rO),(18,CD 18 n n (i+1) (part f i 0))]) ⟨rfl,AY (part f i 0) hm (fun b _=>by simp[part]),trivial⟩ (by simp[wk]))) ?_;have a1:=EL (d:=18) (n:=n) (c:=n) (show i<i+1 by omega);have a2:=EM (d:=18) (n:=n) (c:=n) (show i+1<=n by omega);have a3:=eE (n:=i+1) n (part f i 0) (show i<i+1 by omega);simp only[CD];refine Gl 5 84 42 (.one (.p (.sl (ls fZ (bE n (f i)))))) n 18 (i+1) ⟨42,2,lc fZ (bE n (part f i 0 i))⟩ (lc fZ (bE n (f i))) [] [] (by simp only[wO]) (by simp only[rq]) (by omega) (by simp[vr,bv]) (by intro e he;obtain⟨z,_,rfl⟩:=List.mem_map.1 he;rfl) (by simp[wk]) (by decide) fun K hK=>?_
  simp(disch:=omega) only[kd,km,aa,bJ,ab,a1];apply hK;clear hK K;refine⟨⟨rfl,a3,by simp[newsOf,JY],by simp[vr,bv]⟩,by simp,?_⟩;intro K hK;simp only[kd,aa,Jk,cwD,ab];apply hK;clear hK K;show bo _ _ _ _;refine aL fun _ K=>?_;simp(disch:=omega) only[kd,km,aP];apply K
  refine⟨⟨i+1,by omega⟩,by simp only;omega,aE ⟨rfl,?_,trivial⟩ ?_⟩
  ·show _::_=_::_;rw[M1,cL fun a b _ _=>Hz f i a b]
  simp[wk]
 have hin:i=n:=by omega
 subst i;have hS:=vj 1 (by omega) (by omega);rw[AX];have e:gZ 18 n n (part f n 0)=gZ 18 n n f:=by
  show _::_=_::_;rw[cL fun a b ha _=>jS f a b ha]
 rw[e];refine aD fun _ K=>?_;simp(disch:=omega) only[kd,km,bJ];apply K
 refine bT rfl ?_;show bo _ _ _ _;refine aD fun _ K=>?_;simp only[kd];apply K
 refine aG [⟨0,_,_,_,hS⟩] [] fun _ K=>?_;simp(disch:=omega) only[kd,km,tZ,aa,ab];apply K
 refine aF (aD fun _ K=>?_);simp only[kd];apply K;refine aY (G:=RQ n f) (fun g=>⟨(jk::jk::.one (.ptr 2 0 0 0)::rN n::.one (.sl 18 0 0 n)::jk::jk::.raw (.bool g.neg)::.one (.ptr 8 0 0 0)::j16 (j4 (j4 (j4 (jk::jk::rN n::rN g.k::j16 (j16 (j16 (j16 (j16 (j16 (j4 (j4 (j4 ([])))))))))))))),Hm [(2,rO),(8,rA g.last),(18,gZ 18 n n g.g)]⟩) (fun g=>n-g.k) ⟨0,f,1,false,1024,by omega,rfl,by omega,by omega,hf,oc (by omega)⟩ ?_ ?_
 ·refine aE ⟨rfl,rfl,rfl,trivial⟩ ?_;simp[wk]
 rintro⟨k,g,last,neg,b,hk,hv,hl,hb,sgz,slz⟩;simp only;by_cases hm:k<n
 ·have h2k:=iO (k:=k) (by omega);have hbb:b<=67174400:=by omega
  have hvk:detG n k g last neg=if piv g n k k=n then 0 else detG n (k+1) (Kd k last (LU n k g)) (LU n k g k k) (neg !=decide (k<piv g n k k)):=by rw[detG,if_pos hm]
  refine aD fun _ K=>?_;simp(disch:=omega) only[kd,km];apply K
  refine bG rfl ?_;refine aF (aK ?_);refine aD fun _ K=>?_;simp only[kd];apply K
  refine aD fun _ K=>?_;simp only[kd];apply K
  refine aF (ki (S:=⟨(jk::jk::.one (.ptr 2 0 0 0)::rN n::.one (.sl 18 0 0 n)::jk::jk::.raw (.bool neg)::.one (.ptr 8 0 0 0)::rN k::.raw (.int .i64 ((piv g n k k:Nat):Int))::j16 (j4 (j4 (j4 (.raw (.int .i64 (n:Int))::rN k::j16 (j16 (j16 (j16 (j16 (j16 (j4 (j4 (j4 ([])))))))))))))),Hm [(2,rO),(8,rA last),(18,gZ 18 n n g)]⟩) ?_ ?_)
  ·refine aY (G:=RS n k g) (fun q=>⟨(jk::jk::.one (.ptr 2 0 0 0)::rN n::.one (.sl 18 0 0 n)::jk::jk::.raw (.bool neg)::.one (.ptr 8 0 0 0)::rN k::rN q.p::j16 (j4 (j4 (j4 (.raw (.int .i64 (n:Int))::rN k::j16 (j16 (j16 (j16 (j16 (j16 (j4 (j4 (j4 ([])))))))))))))),Hm [(2,rO),(8,rA last),(18,gZ 18 n n g)]⟩) (fun q=>n-q.p) ⟨k,by omega,by omega,rfl⟩ ?_ ?_
   ·refine aE ⟨rfl,rfl,rfl,trivial⟩ ?_;simp[wk]
   rintro⟨p,hkp,hp,hpv⟩;simp only;by_cases hpn:p<n
   ·have g1:=bO (n:=n) (i:=p) 18 n hpn;have g2:=eE n g hpn;have g3:=aU (g p) hm;have hSg:=qu (g p k) ((sgz p k hpn hm).mono (by omega));by_cases h0:g p k=0
    ·rw[h0]at hSg g3;refine aF (aG [⟨11,_,_,_,hSg⟩] [] fun _ K=>?_);simp(disch:=omega) only[kd,km,tZ,tX,aa,ab,g1,g2,fZ,g3];apply K;refine aX rfl (aM ?_);refine aK ?_;refine aL fun _ K=>?_;simp(disch:=omega) only[kd,km,aa,aP];apply K
     refine⟨⟨p+1,by omega,by omega,?_⟩,by simp only;omega,aE ⟨rfl,rfl,rfl,trivial⟩ ?_⟩
     ·rw[<- hpv,sc hpn h0]
     simp[wk]
    have hs0:=FT h0;refine aF (aG [⟨11,_,_,_,hSg⟩] [] fun _ K=>?_);simp(disch:=omega) only[kd,km,tZ,aa,ab,g1,g2,fZ,g3];apply K;refine aR rfl (bN ?_);show ce _ _;have hpe:piv g n k k=p:=by rw[<- hpv,r9 hpn h0]
    refine aE ⟨rfl,rfl,rfl,trivial⟩ ?_;simp[wk,hpe]
   have hpe:piv g n k k=p:=by rw[<- hpv,oP hpn];omega
   refine aF (aD fun _ K=>?_);simp(disch:=omega) only[kd,km,aa];apply K;refine aR rfl (bN ?_);show ce _ _;refine aE ⟨rfl,rfl,rfl,trivial⟩ ?_;simp[wk,hpe]
  have hpl:=zF (f:=g) (n:=n) (k:=k) (n-k) k rfl;have hpn':=DT (f:=g) (n:=n) (k:=k) (n-k) k rfl;generalize hpp:piv g n k k=p at*
  by_cases hpn:p=n
  ·rw[if_pos hpn]at hvk;refine aF (aD fun _ K=>?_);simp(disch:=omega) only[kd,km,aa];apply K;refine aX rfl ?_;refine aD fun _ K=>?_;simp(disch:=omega) only[kd,km,ab,aa];apply K
   refine bo.weak (fo 2) ?_;refine aH ⟨.inr rfl,aJ rfl ?_ rfl⟩;rw[<- hv,hvk];simp(disch:=omega) only[kd,km,Tryz.results160,zH,ab,zO,Ar,CA,aa,tZ];simp[cH,ls]
  rw[if_neg hpn]at hvk;obtain⟨hkp,hpk0⟩:=hpn' (by omega);refine aF (aD fun _ K=>?_);simp(disch:=omega) only[kd,km,aa];apply K;refine aR rfl (aM ?_);show bo _ _ _ _;refine aF (aD fun _ K=>?_);simp only[kd,aa];apply K;refine ki (S:=⟨(jk::jk::.one (.ptr 2 0 0 0)::rN n::.one (.sl 18 0 0 n)::jk::jk::.raw (.bool (neg !=decide (k<p)))::.one (.ptr 8 0 0 0)::rN k::j16 (j4 (j4 (j4 (jk::rN n::rN k::j16 (j16 (j16 (j16 (j16 (j16 (j4 (j4 (j4 ([])))))))))))))),Hm [(2,rO),(8,rA last),(18,gZ 18 n n (swp p k g))]⟩) ?_ ?_
  ·by_cases hlt:k<p
   ·have g1:=bO (n:=n) (i:=p) 18 n (by omega);have g2:=bO (n:=n) (i:=k) 18 n (by omega);refine bW rfl (fun _=>?_) (fun h=>by simp at h<;>omega);have g4:((gC 18 (ae n n)).set k [.sl 18 (p+1) 0 n])[p]?=some [.sl 18 (p+1) 0 n]:=by
     rw[List.getElem?_set_ne (by omega),g1]
    have hsw:=zu (d:=18) g (by omega:p<n) hm (by omega);rw[List.set_comm _ _ (by omega:p≠k)]at hsw;refine ch be (by kernel_rfl) fun _ K=>?_;simp(disch:=omega) only[kd,km,aa,ab,g1,g2,g4,ah,reduceCtorEq];apply K
    refine aL fun _ K=>?_;simp only[kd,aa];apply K
    refine(qa 18 (p+1) (k+1) (gZ 18 n n (swp p k g)) hsw).trans (aE ⟨rfl,rfl,rfl,trivial⟩ ?_);simp[wk,Ee,jY,o6,sw,hlt]
   have hpk:p=k:=by omega
   subst hpk;refine bW rfl (fun h=>by simp at h<;>omega) (fun _=>aM ?_);show ce _ _;rw[rj];refine aE ⟨rfl,rfl,rfl,trivial⟩ ?_;simp[wk]
  rw[LU,hpp]at hvk;have hkk:swp p k g k k≠0:=by
   unfold swp;by_cases h:k=p
   ·subst h;rw[if_pos rfl];exact hpk0
   rw[if_neg h,if_pos rfl];exact hpk0
  have hsz: ∀i j,i<n->j<n->Sz (swp p k g i j) b:=fun i j hi hj=>by
   unfold swp;split
   ·exact sgz k j hm hj
   split
   ·exact sgz p j (by omega) hj
   exact sgz i j hi hj
  generalize swp p k g=g' at*
  generalize(neg !=decide (k<p))=neg' at*
  have b2:=bO (n:=n) (i:=k) 18 n hm;have b4:=eE n g' hm;have b5:=aU (g' k) hm;refine aD fun _ K=>?_;simp(disch:=omega) only[kd,km,aa,ab,b2,b4,fZ,b5];apply K
  refine aF (aD fun _ K=>?_);simp(disch:=omega) only[kd,km,aa,aP];apply K;refine aY (G:=Q7 n k) (fun q=>⟨(jk::jk::.one (.ptr 2 0 0 0)::rN n::.one (.sl 18 0 0 n)::jk::jk::.raw (.bool neg')::.one (.ptr 8 0 0 0)::rN k::jk::.one (.ptr 11 0 0 0)::rN q.i::j16 (j4 (j4 (jk::jk::rN n::rN k::j16 (j16 (j16 (j16 (j16 (j16 (j4 (j4 (j4 ([]))))))))))))),Hm [(2,rO),(8,rA last),(11,rA (g' k k)),(18,gZ 18 n n (ea k last g' q.i (k+1)))]⟩) (fun q=>n-q.i) ⟨k+1,by omega,by omega⟩ ?_ ?_
  ·rw[FE];refine aE ⟨rfl,rfl,rfl,rfl,trivial⟩ ?_;simp[wk]
  rintro⟨i,hki,hin⟩;simp only;by_cases hi:i<n
  ·refine aF (aD fun _ K=>?_);simp(disch:=omega) only[kd,km,aa];apply K;refine aX rfl (aM ?_);refine aF (aK ?_);refine aD fun _ K=>?_;simp(disch:=omega) only[kd,km,aa,aP];apply K
   refine aY (G:=Q7 n k) (fun q=>⟨(jk::jk::.one (.ptr 2 0 0 0)::rN n::.one (.sl 18 0 0 n)::jk::jk::.raw (.bool neg')::.one (.ptr 8 0 0 0)::rN k::jk::.one (.ptr 11 0 0 0)::rN i::rN q.i::j16 (j4 (j4 (jk::rN n::rN k::j16 (j16 (j16 (j16 (j16 (j16 (j4 (j4 (j4 ([]))))))))))))),Hm [(2,rO),(8,rA last),(11,rA (g' k k)),(18,gZ 18 n n (ea k last g' i q.i))]⟩) (fun q=>n-q.i) ⟨k+1,by omega,by omega⟩ ?_ ?_
   ·refine aE ⟨rfl,rfl,rfl,rfl,trivial⟩ ?_;simp[wk]
   rintro⟨j,hkj,hjn⟩;simp only;by_cases hj:j<n
   ·have a1:=bO (n:=n) (i:=i) 18 n hi;have a2:=bO (n:=n) (i:=k) 18 n hm;have a3:=eE n (ea k last g' i j) hi;have a4:=eE n (ea k last g' i j) hm;have a5:(bE n (ea k last g' i j k))[k]?=some (g' k k):=by rw[aU _ hm,iV _ _ (by omega)]
    have a6:(bE n (ea k last g' i j i))[j]?=some (g' i j):=by rw[aU _ hj,iV _ _ (by omega)]
    have a7:(bE n (ea k last g' i j i))[k]?=some (g' i k):=by rw[aU _ hm,iV _ _ (by omega)]
    have a8:(bE n (ea k last g' i j k))[j]?=some (g' k j):=by rw[aU _ hj,iV _ _ (by omega)]
    have z1:=hsz k k hm hm;have z2:=hsz i j hi hj;have z3:=hsz i k hi hm;have z4:=hsz k j hm hj;have c1:=y8 (g' k k) (g' i j) (z1.mono (by omega)) (z2.mono (by omega));have c2:=y8 (g' i k) (g' k j) (z3.mono (by omega)) (z4.mono (by omega));have c3:=JM (g' k k*g' i j) (g' i k*g' k j) ((z1.mul z2).mono (by omega)) ((z3.mul z4).mono (by omega));have c4:=xN (g' k k*g' i j-g' i k*g' k j) last hl (((z1.mul z2).sub (z3.mul z4)).mono (by omega)) (slz.mono (by omega));refine aF (aD fun _ K=>?_);simp(disch:=omega) only[kd,km,aa];apply K;refine aX rfl (aM ?_);refine aF (aK ?_);refine bu be [⟨8,_,_,_,c1⟩,⟨23,_,_,_,c2⟩,⟨24,_,_,_,c3⟩] [] (by kernel_rfl) fun _ K=>?_;simp(disch:=omega) only[kd,km,tZ,aa,ab,a1,a3,fZ,a6,a7,a2,a4,a8,af];apply K
    refine ef be [⟨7,_,_,_,c4⟩] [] (by kernel_rfl) fun _ K=>?_;simp(disch:=omega) only[kd,km,tZ,cZ,aa,ab,a1,a3,fZ,a6,kx];apply K
    show bo _ _ _ _;refine aL fun _ K=>?_;simp(disch:=omega) only[kd,km,aa,aP];apply K
    refine⟨⟨j+1,by omega,by omega⟩,by simp only;omega,aE ⟨rfl,rfl,rfl,?_,trivial⟩ ?_⟩
    ·show _::_=_::_;rw[cL fun a b _ _=>FD last g' hki hkj a b]
    simp[wk]
   have hjn':j=n:=by omega
   subst hjn';refine aF (aD fun _ K=>?_);simp(disch:=omega) only[kd,km,aa];apply K;refine aR rfl (bN ?_);show bo _ _ _ _;refine aL fun _ K=>?_;simp(disch:=omega) only[kd,km,aa,aP];apply K
   refine⟨⟨i+1,by omega,by omega⟩,by simp only;omega,aE ⟨rfl,rfl,rfl,?_,trivial⟩ ?_⟩
   ·show _::_=_::_;rw[cL fun a b _ hb=>Kc last g' i a b hb]
   simp[wk]
  have hin':i=n:=by omega
  subst hin';have a2:=bO (n:=i) (i:=k) 18 i hm;have a4:=eE i (ea k last g' i (k+1)) hm;have a5:(bE i (ea k last g' i (k+1) k))[k]?=some (g' k k):=by rw[aU _ hm,iV _ _ (by omega)]
  refine aF (aD fun _ K=>?_);simp(disch:=omega) only[kd,km,aa];apply K;refine aR rfl (bN ?_);show bo _ _ _ _;refine aL fun _ K=>?_;simp(disch:=omega) only[kd,km,ab,aa];apply K
  show bo _ _ _ _;refine aL fun _ K=>?_;simp(disch:=omega) only[kd,km,aP];apply K
  refine⟨⟨k+1,Kd k last g',g' k k,neg',2*b+1,by omega,by rw[<- hvk,hv],hkk,by rw[Nat.pow_succ];omega,fun x y hx hy=>?_,(hsz k k hm hm).mono (by omega)⟩,by simp only;omega,aE ⟨rfl,rfl,?_,trivial⟩ ?_⟩
  ·unfold Kd;split
   ·exact((((hsz k k hm hm).mul (hsz x y hx hy)).sub ((hsz x k hx hm).mul (hsz k y hm hy))).ediv last).mono (by omega)
   exact(hsz x y hx hy).mono (by omega)
  ·show _::_=_::_;rw[cL fun a b ha _=>Kb last g' a b ha]
  simp[wk]
 have hkn:k=n:=by omega
 subst hkn;rw[detG,if_neg hm]at hv;have h2k:=iO (k:=k) hn;have hN:=Pt last (slz.mono (by omega));have hNo:=qs last (slz.mono (by omega));refine aD fun _ K=>?_;simp(disch:=omega) only[kd,km];apply K
 refine bT rfl ?_;show bo _ _ _ _;refine aF (aD fun _ K=>?_);simp only[kd];apply K;cases neg with
 |true=>
  rw[if_pos rfl]at hv;refine aX rfl ?_;refine aG [⟨1,_,_,_,hN⟩] [] fun _ K=>?_;simp(disch:=omega) only[kd,km,tZ,aa,ab];apply K
  rw[<- hv]
  (refine aH ⟨.inr rfl,aJ rfl ?_ rfl⟩;simp(disch:=omega) only[kd,km,Tryz.results160,ab,aa,tZ])
 |false=>
  rw[if_neg (by simp)]at hv;refine aR rfl (aM ?_);show bo _ _ _ _;refine aG [⟨1,_,_,_,hNo⟩] [] fun _ K=>?_;simp(disch:=omega) only[kd,km,tZ,aa,ab];apply K
  rw[<- hv]
  (refine aH ⟨.inr rfl,aJ rfl ?_ rfl⟩;simp(disch:=omega) only[kd,km,Tryz.results160,ab,aa,tZ])
abbrev yX (z:Int) (b:Bool):TV:= .tup [(true,cZ z),(false,[.p (.raw (.bool b))])]
theorem Ml:cZ 0=[.p (.raw (.bool false)),.p (.sl [])]:=by unfold cZ;rw[show(0:Int).natAbs=0 from rfl,cH];rfl
theorem Py (n:Nat) (f:FF) (hn1:1<=n) (hn:n<=16) (hf: ∀i j,i<n->j<n->Sz (f i j) 1024):
  CallC Tryz.prog 139 [bJ (bs n n f)] ⟨[],yX (detF n f) true⟩:=by
 have hS:=wv (bs n n f);rw[iv (kw f hn1 hn hn1 hn),aW,fV f hn1]at hS;have hD:=vP n f hn1 hn hf;generalize detF n f=d at*
 refine aI Tryz.func139 rfl (by kernel_rfl) ?_;rw[Tryz.ntmps139];refine aD fun _ K=>?_;simp(disch:=omega) only[kd,km,bJ,ae,aa];apply K
 refine aG [⟨1,_,_,_,hS⟩] [] fun _ K=>?_;simp only[kd,bJ,aa];apply K
 refine aF (aD fun _ K=>?_);simp(disch:=omega) only[kd,km,aa];apply K;refine aR rfl (aM ?_);show bo _ _ _ _;refine aG [⟨1,_,_,_,hD⟩] [] fun _ K=>?_;simp(disch:=omega) only[kd,km,bJ,tZ,aa];apply K
 (refine aH ⟨.inr rfl,aJ rfl ?_ rfl⟩;simp(disch:=omega) only[kd,km,Tryz.results139,aa,yX,cZ])
theorem MX (n c:Nat) (f:FF) (hn1:1<=n) (hn:n<=16) (hc1:1<=c) (hc:c<=16) (hne:n≠c):
  CallC Tryz.prog 139 [bJ (bs n c f)] ⟨[],yX 0 false⟩:=by
 have hS:=wv (bs n c f);rw[iv (kw f hn1 hn hc1 hc),aW,fV f hn1]at hS;rw[yX,Ml];refine aI Tryz.func139 rfl (by kernel_rfl) ?_;rw[Tryz.ntmps139];refine aD fun _ K=>?_;simp(disch:=omega) only[kd,km,bJ,ae,aa];apply K
 refine aG [⟨1,_,_,_,hS⟩] [] fun _ K=>?_;simp only[kd,bJ,aa];apply K
 refine aF (aD fun _ K=>?_);simp(disch:=omega) only[kd,km,aa];apply K;refine aX rfl ?_;refine aD fun _ K=>?_;simp(disch:=omega) only[kd,km,aa];apply K
 refine bo.weak (fo 2) ?_;refine aH ⟨.inr rfl,aJ rfl ?_ rfl⟩;simp(disch:=omega) only[kd,km,Tryz.results139,zH,zO,Ar,CA,aa]
theorem LG {n:Nat} (f:FF) (hn1:1<=n) (hn:n<=8):Ah (bs n n f)=decide ((detF n f).natAbs=1):=by
 rw[Jl];by_cases h:(dk f n).natAbs=1
 ·rw[Cx ((un f hn1 hn).2 h)];simp[h]
 rw[rt (fun h'=>h ((un f hn1 hn).1 h'))];simp[h]
theorem LF {n c:Nat} (f:FF) (hn:8<n):Ah (bs n c f)=false:=rt fun h=>by
 have:=h.2.2.1;rw[aW]at this;omega
theorem Oc {n c:Nat} (f:FF) (hn1:1<=n) (hn:n≠c):Ah (bs n c f)=false:=rt fun h=>by
 have:=h.2.1;rw[aW,fV f hn1]at this;omega
theorem Ku (n c:Nat) (f:FF) (hn1:1<=n) (hn:n<=16) (hc1:1<=c) (hc:c<=16) (hf: ∀i j,EB (f i j)):
  CallC Tryz.prog 111 [bx (bs n c f)] ⟨[],.raw (.bool (Ah (bs n c f)))⟩:=by
 have hF:=s9 n c f hn1 hn hc1 hc (fun i j _ _=>hf i j);have hml:=aW n c f;by_cases h8:8<n
 ·rw[LF f h8];refine aI Tryz.func111 rfl (by kernel_rfl) ?_;rw[Tryz.ntmps111];refine aD fun _ K=>?_;simp only[kd,bx,ae];apply K
  refine aG [⟨1,_,_,_,hF⟩] [] fun _ K=>?_;simp only[kd,bx,Iy,aa];apply K
  refine aF (aD fun _ K=>?_);simp(disch:=omega) only[kd,km,aa,hml];apply K;refine aX rfl ?_;refine aD fun _ K=>?_;simp only[kd];apply K
  (refine aH ⟨.inr rfl,aJ rfl ?_ rfl⟩;simp(disch:=omega) only[kd,km,Tryz.results111])
 by_cases hnc:n=c
 ·subst hnc;have hD:=Py n f hn1 hn (fun i j _ _=>(hf i j).sz (by omega));have hsz:=oy hn (fun i j _ _=>(hf i j).sz (k:=1024) (by omega));rw[LG f hn1 (by omega)];generalize detF n f=d at*
  have hI:=Bj d (hsz.mono (by omega));unfold jm at hI;by_cases hd1:d=1
  ·subst hd1;rw[if_pos (by omega)]at hI;refine aI Tryz.func111 rfl (by kernel_rfl) ?_;rw[Tryz.ntmps111];refine aD fun _ K=>?_;simp only[kd,bx,ae];apply K
   refine aG [⟨1,_,_,_,hF⟩] [] fun _ K=>?_;simp only[kd,bx,Iy,aa];apply K
   refine aF (aD fun _ K=>?_);simp(disch:=omega) only[kd,km,aa,hml];apply K;refine aR rfl (aM ?_);show bo _ _ _ _;refine aG [⟨1,_,_,_,hD⟩] [] fun _ K=>?_;simp(disch:=omega) only[kd,km,bJ,yX,cZ,aa];apply K
   refine aG [⟨1,_,_,_,hI⟩] [] fun _ K=>?_;simp(disch:=omega) only[kd,km,tZ,aa];apply K
   refine aD fun _ K=>?_;simp(disch:=omega) only[kd,km,aa,reduceCtorEq];apply K
   (refine aH ⟨.inr rfl,aJ rfl ?_ rfl⟩;simp(disch:=omega) only[kd,km,Tryz.results111])
  by_cases hd2:d= -1
  ·subst hd2;rw[if_pos (by omega)]at hI;refine aI Tryz.func111 rfl (by kernel_rfl) ?_;rw[Tryz.ntmps111];refine aD fun _ K=>?_;simp only[kd,bx,ae];apply K
   refine aG [⟨1,_,_,_,hF⟩] [] fun _ K=>?_;simp only[kd,bx,Iy,aa];apply K
   refine aF (aD fun _ K=>?_);simp(disch:=omega) only[kd,km,aa,hml];apply K;refine aR rfl (aM ?_);show bo _ _ _ _;refine aG [⟨1,_,_,_,hD⟩] [] fun _ K=>?_;simp(disch:=omega) only[kd,km,bJ,yX,cZ,aa];apply K
   refine aG [⟨1,_,_,_,hI⟩] [] fun _ K=>?_;simp(disch:=omega) only[kd,km,tZ,aa];apply K
   refine aD fun _ K=>?_;simp(disch:=omega) only[kd,km,aa,reduceCtorEq];apply K
   (refine aH ⟨.inr rfl,aJ rfl ?_ rfl⟩;simp(disch:=omega) only[kd,km,Tryz.results111])
  have hno:decide (d.natAbs=1)=false:=decide_eq_false (by omega);rw[hno];by_cases hfit: -9223372036854775808<=d/\d<=9223372036854775807
  ·rw[if_pos hfit]at hI;refine aI Tryz.func111 rfl (by kernel_rfl) ?_;rw[Tryz.ntmps111];refine aD fun _ K=>?_;simp only[kd,bx,ae];apply K
   refine aG [⟨1,_,_,_,hF⟩] [] fun _ K=>?_;simp only[kd,bx,Iy,aa];apply K
   refine aF (aD fun _ K=>?_);simp(disch:=omega) only[kd,km,aa,hml];apply K;refine aR rfl (aM ?_);show bo _ _ _ _;refine aG [⟨1,_,_,_,hD⟩] [] fun _ K=>?_;simp(disch:=omega) only[kd,km,bJ,yX,cZ,aa];apply K
   refine aG [⟨1,_,_,_,hI⟩] [] fun _ K=>?_;simp(disch:=omega) only[kd,km,tZ,aa];apply K
   refine aD fun _ K=>?_;simp(disch:=omega) only[kd,km,aa];apply K
   (refine aH ⟨.inr rfl,aJ rfl ?_ rfl⟩;simp(disch:=omega) only[kd,km,Tryz.results111])
  rw[if_neg hfit]at hI;refine aI Tryz.func111 rfl (by kernel_rfl) ?_;rw[Tryz.ntmps111];refine aD fun _ K=>?_;simp only[kd,bx,ae];apply K
  refine aG [⟨1,_,_,_,hF⟩] [] fun _ K=>?_;simp only[kd,bx,Iy,aa];apply K
  refine aF (aD fun _ K=>?_);simp(disch:=omega) only[kd,km,aa,hml];apply K;refine aR rfl (aM ?_);show bo _ _ _ _;refine aG [⟨1,_,_,_,hD⟩] [] fun _ K=>?_;simp(disch:=omega) only[kd,km,bJ,yX,cZ,aa];apply K
  refine aG [⟨1,_,_,_,hI⟩] [] fun _ K=>?_;simp(disch:=omega) only[kd,km,tZ,aa];apply K
  refine aD fun _ K=>?_;simp(disch:=omega) only[kd,km,aa,reduceCtorEq];apply K
  (refine aH ⟨.inr rfl,aJ rfl ?_ rfl⟩;simp(disch:=omega) only[kd,km,Tryz.results111])
 rw[Oc f hn1 hnc];have hD:=MX n c f hn1 hn hc1 hc hnc;have hI:=Bj 0 ((tY 1).mono (by omega));rw[jm,if_pos (by omega)]at hI;refine aI Tryz.func111 rfl (by kernel_rfl) ?_;rw[Tryz.ntmps111];refine aD fun _ K=>?_;simp only[kd,bx,ae];apply K
 refine aG [⟨1,_,_,_,hF⟩] [] fun _ K=>?_;simp only[kd,bx,Iy,aa];apply K
 refine aF (aD fun _ K=>?_);simp(disch:=omega) only[kd,km,aa,hml];apply K;refine aR rfl (aM ?_);show bo _ _ _ _;refine aG [⟨1,_,_,_,hD⟩] [] fun _ K=>?_;simp(disch:=omega) only[kd,km,bJ,yX,cZ,aa];apply K
 refine aG [⟨1,_,_,_,hI⟩] [] fun _ K=>?_;simp(disch:=omega) only[kd,km,tZ,aa];apply K
 refine aD fun _ K=>?_;simp(disch:=omega) only[kd,km,aa];apply K
 (refine aH ⟨.inr rfl,aJ rfl ?_ rfl⟩;simp(disch:=omega) only[kd,km,Tryz.results111])
theorem PK (M:List (List Int)) (hM:MI M):CallC Tryz.prog 111 [bx M] ⟨[],.raw (.bool (Ah M))⟩:=by
 by_cases hs:CB M
 ·have e:=ED hs;have h1:=hs.1;have h2:=hs.2.1;have h3:=hs.2.2 _ (au (lw hs.1));have hf:=fun i j=>hM.ent i j
  rw[e];exact Ku _ _ _ h1 h2 h3.1 h3.2.1 hf
 have hF:=zD M hs;rw[rt (fun h=>hs h.1)];refine aI Tryz.func111 rfl (by kernel_rfl) ?_;rw[Tryz.ntmps111];refine aD fun _ K=>?_;simp only[kd,bx,ae];apply K
 refine aG [⟨1,_,_,_,hF⟩] [] fun _ K=>?_;simp only[kd,bx,RJ,aa];apply K
 refine aF (aD fun _ K=>?_);simp(disch:=omega) only[kd,km,aa,reduceCtorEq];apply K;refine aX rfl ?_;refine aD fun _ K=>?_;simp only[kd];apply K
 (refine aH ⟨.inr rfl,aJ rfl ?_ rfl⟩;simp(disch:=omega) only[kd,km,Tryz.results111])
open Classical in
noncomputable def Cs (M t:List (List Int)):CallRes:=if t.length=M.length/\rF t then vg M (li t)else⟨df 0 0 0 (fun _ _=>0),mj 0 false⟩
theorem wL {M t:List (List Int)} (h: ¬(t.length=M.length/\rF t)):Cs M t=⟨df 0 0 0 (fun _ _=>0),mj 0 false⟩:=if_neg h
theorem sH {M t:List (List Int)} (h:t.length=M.length/\rF t):Cs M t=vg M (li t):=if_pos h
theorem Dx (M l:List (List Int)): ∃k b F,vg M l=⟨df 0 k k F,mj k b⟩/\k<=l.length:=by
 by_cases h:Qj M l
 ·exact⟨_,_,_,oD h,Nat.le_refl _⟩
 exact⟨_,_,_,vh h,Nat.zero_le _⟩
theorem xF (t:List (List Int)):(li t).length=t.length:=aW _ _ _
theorem zE (M t:List (List Int)) (ht:MI t):CallC Tryz.prog 71 [bx M,bx t] (Cs M t):=by
 by_cases hlen:t.length=M.length
 ·have cU:=PK t ht;by_cases hu:rF t
  ·rw[Cx hu]at cU;have e:=hu.eq;have hcols:li t=bs t.length t.length (trF (ent t)):=rfl;have hn8:=hu.2.2.1;have hn1:=hu.1.1;have cG:=FK M (li t) (by rw[xF];omega);rw[sH ⟨hlen,hu⟩];obtain⟨k,bb,V,hk,_⟩:=Dx M (li t);rw[hk]at cG⊢;clear hk;rw[hcols]at cG;clear hcols hu;have hlM:=hlen.symm;generalize ent t=g at*
   generalize hnn:t.length=n at*
   clear ht;subst e;have hml:=aW n n g;refine aI Tryz.func71 rfl (by kernel_rfl) ?_;rw[Tryz.ntmps71];refine aD fun _ K=>?_;simp only[kd,bx,aa,ae];apply K
   refine aF (aG [⟨7,_,_,_,cU⟩] [] fun _ K=>?_);simp(disch:=omega) only[kd,km,bx,aa,hml,hlM];apply K;refine aR rfl (aM ?_);show bo _ _ _ _;refine aD fun _ K=>?_;simp(disch:=omega) only[kd,km,aa,hml];apply K
   refine aF (aD fun _ K=>?_);simp only[kd,aa];apply K;refine aY (G:=j6 n) (fun q=>⟨(bx M::bx (bs n n g)::j4 (.one (.sl 22 0 0 n)::j16 (jk::rN n::rN q.i::j16 (j4 (j4 (j4 ([]))))))),Hm [(22,kI 22 n n q.i (trF g))]⟩) (fun q=>n-q.i) ⟨0,by omega⟩ ?_ ?_
   ·refine aE ⟨?_,trivial⟩ ?_
    ·show[_]=_;simp[kI,gC,bs]
    simp[wk]
   rintro⟨i,hi⟩;simp only;by_cases hm:i<n
   ·have hmi:=aW i n (trF g);have hsl:(gC 22 (ae i n)).length=i:=by rw[cw,List.length_replicate]
    have hrl:((bs i n (trF g)).map jI).length=i:=by rw[List.length_map,hmi]
    refine aD fun _ K=>?_;simp(disch:=omega) only[kd,km,bx];apply K
    refine bG rfl ?_;refine aF (aK ?_);refine aD fun _ K=>?_;simp only[kd];apply K
    refine aD fun _ K=>?_;simp only[kd,aa,hml];apply K
    refine aY (G:=j6 n) (fun q=>⟨(bx M::bx (bs n n g)::j4 (.one (.sl 22 0 0 n)::rN i::j16 (.raw (.int .i64 (n:Int))::rN i::jk::jk::bx (bs n n g)::rN n::rN q.i::j16 (j4 (jk::jk::jk::[]))))),Hm [(22,Pr 22 n n (trF g) i q.i)]⟩) (fun q=>n-q.i) ⟨0,by omega⟩ ?_ ?_
    ·refine aE ⟨rfl,trivial⟩ ?_;simp[wk]
    rintro⟨j,hj⟩;simp only;by_cases hm2:j<n
    ·have hr:=bC n g hm2;have hjr:=aU (g j) hm;cases j with
     |zero=>
      rw[Pr,Fi (trF g) hm];refine aD fun _ K=>?_;simp(disch:=omega) only[kd,km,bx];apply K
      refine bG rfl ?_;refine aF (aK ?_);refine aD fun _ K=>?_;simp(disch:=omega) only[kd,km,aa,hr,fR];apply K
      refine iF be (by kernel_rfl) fun _ K=>?_;simp(disch:=omega) only[kd,km,aa,jy hsl,hjr,Nat.reduceMul,ah,ab,jz hsl,hmi,af];apply K
      show bo _ _ _ _;refine aL fun _ K=>?_;simp(disch:=omega) only[kd,km,aP];apply K
      refine⟨⟨1,by omega⟩,by simp only;omega,aE ⟨?_,trivial⟩ ?_⟩
      ·rfl
      simp[wk]
     |succ j=>
      have h01:(0==i+1)=false:=by simp
      rw[Pr,MM];refine aD fun _ K=>?_;simp(disch:=omega) only[kd,km,bx];apply K
      refine bG rfl ?_;refine aF (aK ?_);refine aD fun _ K=>?_;simp(disch:=omega) only[kd,km,aa,hr,fR];apply K
      refine iF be (by kernel_rfl) fun _ K=>?_;simp(disch:=omega) only[kd,km,aa,jI,jy hsl,hjr,Nat.reduceMul,ah,jy hrl,bv,List.map_append,wz,List.map_replicate,Cb,Bu,jz hrl,h01,jz hsl,reduceCtorEq,List.length_append,hrl];apply K
      show bo _ _ _ _;refine aL fun _ K=>?_;simp(disch:=omega) only[kd,km,aP];apply K
      refine⟨⟨j+1+1,by omega⟩,by simp only;omega,aE ⟨?_,trivial⟩ ?_⟩
      ·show _=MM 22 n n (trF g) i (j+1);rw[MM,jI,oU (j+1)];rfl
      simp[wk]
    have hjc:j=n:=by omega
    subst hjc;refine aD fun _ K=>?_;simp(disch:=omega) only[kd,km,bx];apply K
    refine bT rfl ?_;show bo _ _ _ _;rw[JK _ (by omega) hm];refine aL fun _ K=>?_;simp(disch:=omega) only[kd,km,aP];apply K
    refine⟨⟨i+1,by omega⟩,by simp only;omega,aE ⟨rfl,trivial⟩ ?_⟩;simp[wk]
   have hin:i=n:=by omega
   subst hin;refine aD fun _ K=>?_;simp(disch:=omega) only[kd,km,bx];apply K
   refine bT rfl ?_;show bo _ _ _ _;rw[mm];refine bo.weak ((bZ 22 (dG (d:=22) (n:=i) (c:=i) (f:=trF g) rfl)).trans (aE (tm:=(bx M::j4 (jk::bx (bs i i (trF g))::j16 (j16 (j4 (j4 (j4 (jk::jk::jk::[])))))))) (l:=[]) trivial (by simp[wk];exact⟨rfl,(mU (H:=Hm [(22,df 22 i i (trF g))]) (d:=22) (n:=i) (c:=i) (f:=trF g) rfl).symm⟩))) ?_;refine aG [⟨2,_,_,_,cG⟩] [] fun _ K=>?_;simp only[kd,bx,mj,aa];apply K
   refine aH ⟨.inr rfl,DZ (d:=51) (c:=k) (F:=V) ?_ ?_ (by decide)⟩
   ·exact cB 0 51 _ _ _
   simp(disch:=omega) only[kd,km,Tryz.results71]
  rw[rt hu]at cU;rw[wL (fun h=>hu h.2)];refine aI Tryz.func71 rfl (by kernel_rfl) ?_;rw[Tryz.ntmps71];refine aD fun _ K=>?_;simp only[kd,bx,aa,ae];apply K
  refine aF (aG [⟨7,_,_,_,cU⟩] [] fun _ K=>?_);simp(disch:=omega) only[kd,km,bx,aa,hlen];apply K;refine aX rfl ?_;refine aD fun _ K=>?_;simp only[kd];apply K
  refine aH ⟨.inr rfl,v8 rfl rfl ?_⟩;simp(disch:=omega) only[kd,km,Tryz.results71]
 rw[wL (fun h=>hlen h.1)];refine aI Tryz.func71 rfl (by kernel_rfl) ?_;rw[Tryz.ntmps71];refine aD fun _ K=>?_;simp only[kd,bx,aa,ae];apply K
 refine aF (aD fun _ K=>?_);simp(disch:=omega) only[kd,km,aa,reduceCtorEq];apply K;refine aX rfl ?_;refine aD fun _ K=>?_;simp only[kd];apply K
 refine aH ⟨.inr rfl,v8 rfl rfl ?_⟩;simp(disch:=omega) only[kd,km,Tryz.results71]
/-! Congruence of the conditions. -/
theorem MinkP.congr {f g:FF} {n:Nat} (h: ∀i j,i<n->j<n->f i j=g i j) (hm:MinkP f n):MinkP g n:=by
 refine⟨fun i hi=>?_,fun i hi hv=>hm.2 i hi ?_⟩
 ·rw[<- h i i (by omega) (by omega),<- h (i+1) (i+1) hi hi,<- h i (i+1) (by omega) hi];exact hm.1 i hi
 obtain⟨c,h1,h2⟩:=hv;refine⟨c,h1,?_⟩;rw[h i i hi hi];have e:nrm n f (lQ i c)=nrm n g (lQ i c):=eJ h (fun _ _=>rfl) (fun _ _=>rfl);rw[e];exact h2
theorem PD.congr {f g:FF} {n:Nat} (h: ∀i j,i<n->j<n->f i j=g i j) (hp:PD f n):PD g n:=by
 refine⟨fun i hi j hj=>?_,fun k hk=>?_⟩
 ·rw[<- h i j hi hj,<- h j i hj hi];exact hp.1 i hi j hj
 rw[<- ew (f:=f) fun i j hi hj=>h i j (by omega) (by omega)];exact hp.2 k hk
theorem J2 {g:FF} {n:Nat} (hn1:1<=n) (hn:n<=4) (hb: ∀i j,i<n->j<n-> -1125899906842624<=g i j/\g i j<=1125899906842624) (hp:PD g n) (hm:MinkP g n):Ax (bs n n g):=by
 have hl:=aW n n g;have he: ∀i j,i<n->j<n->g i j=ent (bs n n g) i j:=fun i j hi hj=>(oB g hi hj).symm
 refine⟨⟨by omega,fun q hq=>?_,by rw[hl];exact hp.congr he⟩,by rw[hl];exact hm.congr he⟩;rw[hl];obtain⟨i,hi,rfl⟩:=List.mem_map.1 hq;have hin:=List.mem_range.1 hi;refine⟨bv _ _,fun x hx=>?_⟩;obtain⟨j,hj,rfl⟩:=List.mem_map.1 hx;exact hb i j hin (List.mem_range.1 hj)
def QD (M t:List (List Int)):Prop:=t.length=M.length/\rF t/\Qj M (li t)
def QE (M Rm t:List (List Int)):Prop:=QD M t/\Ax Rm/\bs t.length t.length (vG M (li t))=Rm
open Classical in
noncomputable def Ev (M Rm t:List (List Int)):Int:=
 if b6 M=true then(if M.length<=4 then(if Gh Rm M.length/\Gh t M.length then(if QE M Rm t then 0 else 10)else 3)else 7)else 6
theorem Ii {M t:List (List Int)} (h:QD M t):Cs M t=⟨df 0 t.length t.length (vG M (li t)),mj t.length true⟩:=by
 rw[sH ⟨h.1,h.2.1⟩,oD h.2.2,xF]
theorem Ih {M t:List (List Int)} (h: ¬QD M t): ∃F,Cs M t=⟨df 0 0 0 F,mj 0 false⟩:=by
 by_cases h1:t.length=M.length/\rF t
 ·rw[sH h1,vh fun h2=>h ⟨h1.1,h1.2,h2⟩];exact⟨_,rfl⟩
 rw[wL h1];exact⟨_,rfl⟩
theorem G5 (M Rm t:List (List Int)) (ht:MI t) (hb1:Rm.length<=1000000) (hb2:t.length<=1000000):
  CallG Tryz.prog 0 138 33 [bx M,bx Rm,bx t] iA ⟨[],.raw (.int .i64 (Ev M Rm t))⟩:=by
 have c1:=mB M;by_cases h1:b6 M=true
 ·rw[h1]at c1;by_cases h2:M.length<=4
  ·by_cases h3:Gh Rm M.length
   ·have q1:=ku Rm M.length true (by simp[h3]) hb1;by_cases h4:Gh t M.length
    ·have q2:=ku t M.length true (by simp[h4]) hb2;have cT:=zE M t ht;have cMR:=fun(b:Bool) (hb:b=true↔Ax Rm)=>mu Rm b hb
     have cE:=fun F (b:Bool) (hb:b=true↔F=Rm)=>Bb F Rm b hb
     have eY:QE M Rm t->Ev M Rm t=0:=fun h=>by
      unfold Ev;rw[if_pos h1,if_pos h2,if_pos ⟨h3,h4⟩,if_pos h]
     have eN: ¬QE M Rm t->Ev M Rm t=10:=fun h=>by
      unfold Ev;rw[if_pos h1,if_pos h2,if_pos ⟨h3,h4⟩,if_neg h]
     refine dB Tryz.func33 rfl (by kernel_rfl) ?_;rw[Tryz.ntmps33];refine aN fun _ K=>?_;simp only[kd,bx,aa,ae];apply K
     refine bH (cK ?_);refine dL [⟨1,_,_,_,c1⟩] [] fun _ K=>?_;simp only[kd,bx,aa];apply K
     refine eh rfl ?_;refine aN fun _ K=>?_;simp(disch:=omega) only[kd,km,aa];apply K
     refine eh rfl ?_;refine bH (dL [⟨3,_,_,_,q1⟩] [] fun _ K=>?_);simp only[kd,bx,aa];apply K;refine eh rfl ?_;refine uv [⟨3,_,_,_,q2⟩] [] fun _ K=>?_;simp only[kd,bx,aa];apply K
     show d7 _ _ _ _ _ _ _;refine eh rfl (eK ?_);show d7 _ _ _ _ _ _ _;by_cases h5:QD M t
     ·rw[Ii h5]at cT;obtain⟨n,hn⟩: ∃n,n=t.length:=⟨_,rfl⟩;obtain⟨F,hF⟩: ∃F,F=vG M (li t):=⟨_,rfl⟩;rw[<- hn,<- hF]at cT;have eP:QE M Rm t↔Ax Rm/\bs n n F=Rm:=by
       unfold QE;rw[<- hn,<- hF];simp[h5]
      refine dL [⟨2,_,_,_,cT⟩] [] fun _ K=>?_;simp only[kd,bx,mj,aa];apply K
      refine d7.weak (aE (tm:=(jk::bx Rm::j4 (jk::.one (.sl 31 0 0 n)::.raw (.bool true)::j16 (j16 (j4 (jk::jk::[])))))) (l:=[(31,df 31 n n F)]) ⟨cB 0 31 _ _ _,trivial⟩ (by simp[wk])) ?_;refine d7.weak ((bZ 31 (dG (d:=31) (n:=n) (c:=n) (f:=F) rfl)).trans (aE (tm:=(jk::bx Rm::j4 (jk::bx (bs n n F)::.raw (.bool true)::j16 (j16 (j4 (jk::jk::[])))))) (l:=[]) trivial (by
       simp[wk]
       (repeat' apply And.intro)<;>first|rfl|exact(mU (H:=Hm [(31,df 31 n n F)]) (d:=31) (n:=n) (c:=n) (f:=F) rfl).symm))) ?_
      have fl:=aW n n F;have fr: ∀p∈bs n n F,p.length<=1000000:=fun p hp=>by
       obtain⟨i,_,rfl⟩:=List.mem_map.1 hp;rw[bv];omega
      generalize bs n n F=FM at*
      by_cases h6:Ax Rm
      ·have cI:=cMR true (by simp[h6]);by_cases h7:FM=Rm
       ·rw[eY (eP.2 ⟨h6,h7⟩)];have cQ:=cE FM true (by simp[h7]) (by omega) fr;refine bH (bz [⟨4,_,_,_,cI,rfl⟩] [⟨10,_,_,_,cQ⟩] [] fun _ K=>?_);simp(disch:=omega) only[kd,km,bx,da.a,aa,af];apply K;refine eh rfl (eK ?_);show d7 _ _ _ _ _ _ _;refine aN fun _ K=>?_;simp only[kd];apply K
        (refine dj ⟨.inr rfl,rfl,aJ rfl ?_ rfl⟩;simp(disch:=omega) only[kd,km,Tryz.results33])
       rw[eN fun h=>h7 (eP.1 h).2];have cQ:=cE FM false (by simp[h7]) (by omega) fr;refine bH (bz [⟨4,_,_,_,cI,rfl⟩] [⟨10,_,_,_,cQ⟩] [] fun _ K=>?_);simp(disch:=omega) only[kd,km,bx,da.a,aa,af];apply K;refine fO rfl ?_;refine aN fun _ K=>?_;simp only[kd];apply K
       (refine dj ⟨.inr rfl,rfl,aJ rfl ?_ rfl⟩;simp(disch:=omega) only[kd,km,Tryz.results33])
      rw[eN fun h=>h6 (eP.1 h).1];have cI:=cMR false (by simp[h6]);refine bH (bz [⟨4,_,_,_,cI,rfl⟩] [] [] fun _ K=>?_);simp(disch:=omega) only[kd,km,bx,da.a,aa,reduceCtorEq,af];apply K;refine fO rfl ?_;refine aN fun _ K=>?_;simp only[kd];apply K
      (refine dj ⟨.inr rfl,rfl,aJ rfl ?_ rfl⟩;simp(disch:=omega) only[kd,km,Tryz.results33])
     obtain⟨F,hF⟩:=Ih h5;rw[hF]at cT;rw[eN fun h=>h5 h.1];refine dL [⟨2,_,_,_,cT⟩] [] fun _ K=>?_;simp only[kd,bx,mj,aa];apply K
     refine d7.weak (aE (tm:=(jk::bx Rm::j4 (jk::jk::.raw (.bool false)::j16 (j16 (j4 (jk::jk::[])))))) (l:=[]) trivial (by simp[wk])) ?_;refine bH (aN fun _ K=>?_);simp only[kd,aa,bx,reduceCtorEq];apply K;refine fO rfl ?_;refine aN fun _ K=>?_;simp only[kd];apply K
     (refine dj ⟨.inr rfl,rfl,aJ rfl ?_ rfl⟩;simp(disch:=omega) only[kd,km,Tryz.results33])
    have q2:=ku t M.length false (by simp[h4]) hb2;have eV:Ev M Rm t=3:=by
     unfold Ev;rw[if_pos h1,if_pos h2,if_neg fun h=>h4 h.2]
    rw[eV];refine dB Tryz.func33 rfl (by kernel_rfl) ?_;rw[Tryz.ntmps33];refine aN fun _ K=>?_;simp only[kd,bx,aa,ae];apply K
    refine bH (cK ?_);refine dL [⟨1,_,_,_,c1⟩] [] fun _ K=>?_;simp only[kd,bx,aa];apply K
    refine eh rfl ?_;refine aN fun _ K=>?_;simp(disch:=omega) only[kd,km,aa];apply K
    refine eh rfl ?_;refine bH (dL [⟨3,_,_,_,q1⟩] [] fun _ K=>?_);simp only[kd,bx,aa];apply K;refine eh rfl ?_;refine uv [⟨3,_,_,_,q2⟩] [] fun _ K=>?_;simp only[kd,bx,aa];apply K
    show d7 _ _ _ _ _ _ _;refine fO rfl ?_;refine aN fun _ K=>?_;simp only[kd];apply K
    (refine dj ⟨.inr rfl,rfl,aJ rfl ?_ rfl⟩;simp(disch:=omega) only[kd,km,Tryz.results33])
   have q1:=ku Rm M.length false (by simp[h3]) hb1;have eV:Ev M Rm t=3:=by
    unfold Ev;rw[if_pos h1,if_pos h2,if_neg fun h=>h3 h.1]
   rw[eV];refine dB Tryz.func33 rfl (by kernel_rfl) ?_;rw[Tryz.ntmps33];refine aN fun _ K=>?_;simp only[kd,bx,aa,ae];apply K
   refine bH (cK ?_);refine dL [⟨1,_,_,_,c1⟩] [] fun _ K=>?_;simp only[kd,bx,aa];apply K
   refine eh rfl ?_;refine aN fun _ K=>?_;simp(disch:=omega) only[kd,km,aa];apply K
   refine eh rfl ?_;refine bH (dL [⟨3,_,_,_,q1⟩] [] fun _ K=>?_);simp only[kd,bx,aa];apply K;refine fO rfl (eK ?_);show d7 _ _ _ _ _ _ _;refine fO rfl ?_;refine aN fun _ K=>?_;simp only[kd];apply K
   (refine dj ⟨.inr rfl,rfl,aJ rfl ?_ rfl⟩;simp(disch:=omega) only[kd,km,Tryz.results33])
  have eV:Ev M Rm t=7:=by
   unfold Ev;rw[if_pos h1,if_neg h2]
  rw[eV];have h2':(4:Int)<(M.length:Int):=by omega
  refine dB Tryz.func33 rfl (by kernel_rfl) ?_;rw[Tryz.ntmps33];refine aN fun _ K=>?_;simp only[kd,bx,aa,ae];apply K
  refine bH (cK ?_);refine dL [⟨1,_,_,_,c1⟩] [] fun _ K=>?_;simp only[kd,bx,aa];apply K
  refine eh rfl ?_;refine aN fun _ K=>?_;simp(disch:=omega) only[kd,km,aa];apply K
  refine fO rfl ?_;refine aN fun _ K=>?_;simp only[kd];apply K
  (refine dj ⟨.inr rfl,rfl,aJ rfl ?_ rfl⟩;simp(disch:=omega) only[kd,km,Tryz.results33])
 have eV:Ev M Rm t=6:=by unfold Ev;rw[if_neg h1]
 rw[eV];rw[show b6 M=false by simpa using h1]at c1;refine dB Tryz.func33 rfl (by kernel_rfl) ?_;rw[Tryz.ntmps33];refine aN fun _ K=>?_;simp only[kd,bx,aa,ae];apply K
 refine bH (cK ?_);refine dL [⟨1,_,_,_,c1⟩] [] fun _ K=>?_;simp only[kd,bx,aa];apply K
 refine fO rfl ?_;refine aN fun _ K=>?_;simp only[kd];apply K
 (refine dj ⟨.inr rfl,rfl,aJ rfl ?_ rfl⟩;simp(disch:=omega) only[kd,km,Tryz.results33])
end Go.Proofs.YtfgeomlagfomgaaGreatDoor
