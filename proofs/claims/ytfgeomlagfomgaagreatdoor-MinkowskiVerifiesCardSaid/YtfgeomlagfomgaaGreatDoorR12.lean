/-
  Part 13 of a proof (walks and plain facts).
-/
import Derived.Test.YtfgeomlagfomgaaGreatDoorR11
set_option linter.all false
set_option maxRecDepth 100000
set_option maxHeartbeats 64000000
open Nat renaming reduceAdd → aa
open Nat renaming reduceEqDiff → ab
open List renaming replicate → ae
open Nat renaming reduceBEq → af
open Nat renaming reduceLeDiff → ah
open Int renaming reduceToNat → am
open List renaming getElem?_eq_none → aq
open List renaming length_replicate → aw
open List renaming getElem?_map → ax
namespace Go.Proofs.YtfgeomlagfomgaaGreatDoor
open Go.RowKit
theorem DF {a b:Nat} (h:b<=a):0<=f4 a b:=by unfold f4;split<;>(try split)<;>omega
theorem H8 {a b:Nat} (h:a<b):f4 a b<0:=by rw[nF h];decide
abbrev zN (a b:Nat):TV:= .tup [(false,[.p (.sl (ls fU (aQ (a/b))))]),(false,[.p (.sl (ls fU (aQ (a%b))))])]
theorem oX {a b:Nat} (h:a<=b):(aQ a).length<=(aQ b).length:=iQ (aV _) (ce _) (by rw[aP,aP];exact h)
theorem Ii (a b:Nat) (hb:0<b) (la:(aQ a).length<=536870912) (lb:(aQ b).length<=536870912):CallC Tryz.prog 129 [bA (aQ a),bA (aQ b)] ⟨[],zN a b⟩:=by
 by_cases hs:(aQ a).length<=2/\(aQ b).length<=2
 ·obtain⟨sa,sb⟩:=hs;have ua:=gI sa;have ub:=gI sb;have h1:=IT (aQ a) (aV _) (by omega);have h2:=IT (aQ b) (aV _) (by omega);rw[List.take_of_length_le sa,aP]at h1;rw[List.take_of_length_le sb,aP]at h2;have hq:a/b<=a:=Nat.div_le_self _ _;have hr:a%b<b:=Nat.mod_lt _ hb;have h3:=yU false (a/b) (by omega);have h4:=yU false (a%b) (by omega);rw[show f6 false (a/b)=((a/b:Nat):Int)from rfl]at h3;rw[show f6 false (a%b)=((a%b:Nat):Int)from rfl]at h4;have hb0:(b:Int)≠0:=by omega
  have e1:IntKind.u64.wrap (Int.tdiv (a:Int) (b:Int))=((a/b:Nat):Int):=by
   rw[Int.tdiv_eq_ediv_of_nonneg (by omega),<- Int.natCast_ediv];generalize a/b=q at*;rw[IntKind.wrap_u64];omega
  have e2:Int.tmod (a:Int) (b:Int)=((a%b:Nat):Int):=by
   rw[Int.tmod_eq_emod_of_nonneg (by omega),<- Int.natCast_emod]
  unfold zN;generalize a/b=q at*
  generalize a%b=r at*
  refine aI Tryz.func129 rfl (by kernel_rfl) ?_;rw[Tryz.ntmps129];refine aC fun _ K=>?_;simp only[kd,bA,aa,ae];apply K
  refine aD (aC fun _ K=>?_);simp(disch:=omega) only[kd,aa];apply K;refine aS rfl ?_;refine aF [⟨1,_,_,_,h1⟩,⟨3,_,_,_,h2⟩] [] fun _ K=>?_;simp only[kd,bA,aa,af];apply K
  refine bo aW [⟨3,_,_,_,h3⟩,⟨8,_,_,_,h4⟩] [] (by kernel_rfl) fun _ K=>?_;simp(disch:=omega) only[kd,tZ,Int.natAbs_natCast,aa,ne_eq,hb0,not_false_eq_true,e1,e2,af];apply K
  (refine aH ⟨.inr rfl,aG rfl ?_ rfl⟩;simp(disch:=omega) only[kd,Tryz.results129])
 refine aI Tryz.func129 rfl (by kernel_rfl) ?_;rw[Tryz.ntmps129];refine aC fun _ K=>?_;simp only[kd,bA,aa,ae];apply K
 by_cases h3:(aQ a).length<=2
 all_goals
  (first|refine aC fun _ K=>?_|refine aD (aC fun _ K=>?_)|refine aD (aD (aC fun _ K=>?_)));simp(disch:=omega) only[kd,aa];apply K
  first|refine aN rfl (aK ?_)|refine bP rfl (fun h=>by simp at h<;>omega) (fun _=>aK ?_)
  show bf _ _ _ _
  (first|refine aC fun _ K=>?_|refine aD (aC fun _ K=>?_)|refine aD (aD (aC fun _ K=>?_)));simp(disch:=omega) only[kd,aa,lP];apply K
  (first|refine aC fun _ K=>?_|refine aD (aC fun _ K=>?_)|refine aD (aD (aC fun _ K=>?_)));simp(disch:=omega) only[kd,aa,aO];apply K
  refine aT (G:=N6 a b (aQ a).length) (fun g=>⟨(bA (aQ a)::bA (aQ b)::jk::jk::.one (.sl 33 0 0 (aQ a).length)::bA (aQ (a/2^g.t%b))::jk::jk::.raw (.int .i64 ((g.t:Int)-1))::j16 (j16 (j16 (j16 (jk::jk::[]))))),Hm [(33,[⟨79,1,lc fU g.O⟩])]⟩) (fun g=>g.t) ⟨32*(aQ a).length,ae (aQ a).length 0,by omega,by simp,fun x hx=>by simp at hx;omega,by rw[uq,wB rfl];simp⟩ ?_ ?_
  ·refine(fp (k:=5) (d:=900) 79 1 (by omega) rfl rfl).trans ((bC 900 (cY (f:=fU) (l:=[]) rfl)).trans (aE ⟨rfl,trivial⟩ ?_));simp[wk,fD,eG,wB rfl,ci];rfl
  rintro⟨t,O,ht,len,lmb,val⟩;simp only;cases t with
  |zero=>
   have htr:=i7 O (by omega);rw[eI lmb,val]at htr;simp only[Nat.pow_zero,Nat.div_one,Nat.mul_one]at htr;simp only[Nat.pow_zero,Nat.div_one]
   (first|refine aC fun _ K=>?_|refine aD (aC fun _ K=>?_)|refine aD (aD (aC fun _ K=>?_)));simp(disch:=omega) only[kd,bA];apply K
   first|refine aN rfl (bE ?_)|refine bP rfl (fun h=>by simp at h<;>omega) (fun _=>bE ?_)
   show bf _ _ _ _;refine bf.weak (bC 33 (cY rfl)) ?_;have eT:List.take (aQ a).length O=O:=List.take_of_length_le (by omega);simp(disch:=omega) only[kd,eT]
   (first|refine aF [⟨1,_,_,_,htr⟩] [] fun _ K=>?_|refine aD (aF [⟨1,_,_,_,htr⟩] [] fun _ K=>?_)|refine aD (aD (aF [⟨1,_,_,_,htr⟩] [] fun _ K=>?_)));simp only[kd,bA,aa];apply K
   (refine aH ⟨.inr rfl,aG rfl ?_ rfl⟩;simp(disch:=omega) only[kd,Tryz.results129])
  |succ k=>
   have ek:((k+1:Nat):Int)-1=(k:Int):=by omega
   simp only[ek];have hki:k/32<(aQ a).length:=by omega
   obtain⟨x,hx⟩:=getElem?_of_lt hki;have hx':=cu (aV a) hx;obtain⟨y,hy⟩:=getElem?_of_lt (show k/32<O.length by omega);have hy':=cu lmb hy;have hbit:=Fc hx;have hq:IntKind.i64.wrap (Int.tdiv (k:Int) 32)=((k/32:Nat):Int):=by
    rw[Int.tdiv_eq_ediv_of_nonneg (by omega),IntKind.wrap_i64];omega
   have hr:Int.tmod (k:Int) 32=((k%32:Nat):Int):=by rw[Int.tmod_eq_emod_of_nonneg (by omega)];omega
   have hmin:min (k%32) IntKind.u32.bits=k%32:=by show min (k%32) 32=_;omega
   have e1:Int.fdiv (x:Int) (2^min (k%32) IntKind.u32.bits)=((x/2^(k%32):Nat):Int):=by
    rw[hmin,Int.fdiv_eq_ediv_of_nonneg _ (Int.pow_nonneg (by omega)),Int.natCast_ediv,Int.natCast_pow];rfl
   have hxl:x/2^(k%32)<=x:=Nat.div_le_self _ _;have e2:IntKind.u32.wrap (((BitVec.ofInt IntKind.u32.bits ((x/2^(k%32):Nat):Int)&&&BitVec.ofInt IntKind.u32.bits (1:Int)).toNat:Nat):Int)=((a/2^k%2:Nat):Int):=by
    rw[<- hbit,<- Nat.and_one_is_mod];exact P6 (x/2^(k%32)) 1 (by omega) (by omega)
   have hbl:a/2^k%2<2:=Nat.mod_lt _ (by omega);have hrb:a/2^(k+1)%b<b:=Nat.mod_lt _ hb;have lr:=oX (Nat.le_of_lt hrb);have h1:=Ik (aQ (a/2^(k+1)%b)) (a/2^k%2) (aV _) (by omega) (by omega);have h2:=i7 (dblL (aQ (a/2^(k+1)%b)) (a/2^k%2)) (by rw[zK];omega);rw[eI (Ak _ _ (aV _) (by omega)),wT _ _ (aV _) (by omega),aP]at h2;by_cases hge:b<=2*(a/2^(k+1)%b)+a/2^k%2
   ·obtain⟨g',q1,q2⟩:=LM hb ht len lmb val hge hy;have hrest:=(Ig hb hge).2;have lr':=jq (n:=2*(a/2^(k+1)%b)+a/2^k%2) (k:=(aQ b).length+1) (by
     have:=fP (aV b);rw[aP]at this;have hlt: ∀r e P:Nat,r<b->e<2->b<P->2*r+e<P*4294967296:=by intros;omega
     exact Nat.lt_of_lt_of_le (hlt _ _ _ hrb hbl this) (Nat.le_of_eq (Nat.pow_succ ..).symm))
    generalize 2*(a/2^(k+1)%b)+a/2^k%2=R at*
    have h3:=DI (aQ R) (aQ b) (aV _) (aV _) (ce _) (ce _) (by omega) (by omega);rw[aP,aP]at h3;have hc:=DF hge;have h4:=lI (aQ R) (aQ b) (aV _) (aV _) (by omega) (by omega);have h5:=i7 (diffL (aQ R) (aQ b) 0) (by rw[jp];omega);have hd:=io (aQ R) (aQ b) 0 (aV _) (aV _) (by omega) (oX hge) (by rw[aP,aP];exact hge);rw[aP,aP]at hd;rw[eI (jr _ _ _),show natV (diffL (aQ R) (aQ b) 0)=a/2^k%b by omega]at h5;have hp2:2^(k%32)<4294967296:=Nat.pow_lt_pow_right (a:=2) (n:=32) (by omega) (Nat.mod_lt _ (by omega));have e3:IntKind.u32.wrap (1*2^min (k%32) IntKind.u32.bits)=((2^(k%32):Nat):Int):=by
     rw[hmin,Int.one_mul,show((2:Int)^(k%32))=((2^(k%32):Nat):Int) by rw[Int.natCast_pow];rfl,sR,Nat.mod_eq_of_lt hp2]
    have e4:=Qn y (2^(k%32)) hy' hp2
    (first|refine aC fun _ K=>?_|refine aD (aC fun _ K=>?_)|refine aD (aD (aC fun _ K=>?_)));simp(disch:=omega) only[kd,bA];apply K
    first|refine aS rfl (aK ?_)|refine bP rfl (fun _=>aK ?_) (fun h=>by simp at h<;>omega)
    refine aD (aJ ?_)
    (first|refine aF [⟨10,_,_,_,h1⟩,⟨11,_,_,_,h2⟩] [] fun _ K=>?_|refine aD (aF [⟨10,_,_,_,h1⟩,⟨11,_,_,_,h2⟩] [] fun _ K=>?_)|refine aD (aD (aF [⟨10,_,_,_,h1⟩,⟨11,_,_,_,h2⟩] [] fun _ K=>?_)));simp(disch:=omega) only[kd,bA,aa,hq,hx,hr,e1,e2,af];apply K
    (first|refine aF [⟨2,_,_,_,h3⟩] [] fun _ K=>?_|refine aD (aF [⟨2,_,_,_,h3⟩] [] fun _ K=>?_)|refine aD (aD (aF [⟨2,_,_,_,h3⟩] [] fun _ K=>?_)));simp(disch:=omega) only[kd,bA,aa];apply K
    first|refine aS rfl ?_|refine bP rfl (fun _=>?_) (fun h=>by simp at h<;>omega)
    (first|refine aF [⟨2,_,_,_,h4⟩,⟨3,_,_,_,h5⟩] [] fun _ K=>?_|refine aD (aF [⟨2,_,_,_,h4⟩,⟨3,_,_,_,h5⟩] [] fun _ K=>?_)|refine aD (aD (aF [⟨2,_,_,_,h4⟩,⟨3,_,_,_,h5⟩] [] fun _ K=>?_)));simp only[kd,bA,aa,af];apply K
    refine fH aW (by kernel_rfl) fun _ K=>?_;simp(disch:=omega) only[kd,aa,hq,hy,hr,e3,e4,dG];apply K
    show bf _ _ _ _;refine aL fun _ K=>?_;simp(disch:=omega) only[kd,aa,aO];apply K
    refine⟨g',by omega,aE ⟨by rw[q2];rfl,trivial⟩ ?_⟩;simp[wk,q1]
   obtain⟨g',q1,q2⟩:=LN hb ht len lmb val (by omega);have hrest:=(Ih (a:=a) (k:=k) hb (by omega)).2;rw[<- hrest]at h2 hge;have lr':=oX (Nat.le_of_lt (Nat.mod_lt (a/2^k) hb));have h3:=DI (aQ (a/2^k%b)) (aQ b) (aV _) (aV _) (ce _) (ce _) (by omega) (by omega);rw[aP,aP]at h3;have hc:=H8 (a:=a/2^k%b) (b:=b) (by omega)
   (first|refine aC fun _ K=>?_|refine aD (aC fun _ K=>?_)|refine aD (aD (aC fun _ K=>?_)));simp(disch:=omega) only[kd,bA];apply K
   first|refine aS rfl (aK ?_)|refine bP rfl (fun _=>aK ?_) (fun h=>by simp at h<;>omega)
   refine aD (aJ ?_)
   (first|refine aF [⟨10,_,_,_,h1⟩,⟨11,_,_,_,h2⟩] [] fun _ K=>?_|refine aD (aF [⟨10,_,_,_,h1⟩,⟨11,_,_,_,h2⟩] [] fun _ K=>?_)|refine aD (aD (aF [⟨10,_,_,_,h1⟩,⟨11,_,_,_,h2⟩] [] fun _ K=>?_)));simp(disch:=omega) only[kd,bA,aa,hq,hx,hr,e1,e2,af];apply K
   (first|refine aF [⟨2,_,_,_,h3⟩] [] fun _ K=>?_|refine aD (aF [⟨2,_,_,_,h3⟩] [] fun _ K=>?_)|refine aD (aD (aF [⟨2,_,_,_,h3⟩] [] fun _ K=>?_)));simp(disch:=omega) only[kd,bA,aa];apply K
   first|refine aN rfl (aK ?_)|refine bP rfl (fun h=>by simp at h<;>omega) (fun _=>aK ?_)
   show bf _ _ _ _;refine aL fun _ K=>?_;simp(disch:=omega) only[kd,aa,aO];apply K
   refine⟨g',by omega,aE ⟨by rw[q2];rfl,trivial⟩ ?_⟩;simp[wk,q1]
theorem Ko {P:Program} {p q t n:Nat} (h:iV P t=some n) (hn:n≠1): ∀x∈[(p,q,t)],iV P x.2.2≠some 1:=fun x hx=>by
 have:x=(p,q,t):=by simpa using hx
 subst this;rw[h];intro h';injection h' with h'
 exact hn h'
theorem CS {s:AS} {p q t a r i j b r' i' j':Nat} (h1:s.tmps[p]?=some (.one (.ptr a r i j))) (h2:s.tmps[q]?=some (.one (.ptr b r' i' j'))) (hne:b≠a):zi [(p,q,t)] s:=fun x hx a2 r2 i2 j2 b2 r3 i3 j3 g1 g2=>by
 have:x=(p,q,t):=by simpa using hx
 subst this;simp only[h1]at g1;simp only[h2]at g2;injection g1 with g1;injection g1 with g1;injection g1 with g1
 injection g2 with g2;injection g2 with g2;injection g2 with g2
 subst g1 g2;exact hne
def tq (a b:Int):Int:=f6 (!(decide (a<0)==decide (b<0))) (a.natAbs/b.natAbs)
def tr (a b:Int):Int:=f6 (decide (a<0)) (a.natAbs%b.natAbs)
theorem Ks (a b:Int):tr a b+b*tq a b=a:=by
 have h:=Nat.div_add_mod a.natAbs b.natAbs;have h':(b.natAbs:Int)*((a.natAbs/b.natAbs:Nat):Int)+((a.natAbs%b.natAbs:Nat):Int)=(a.natAbs:Int):=by
  have:=congrArg (Nat.cast (R:=Int)) h;simpa using this
 unfold tq tr f6;generalize a.natAbs/b.natAbs=q at*
 generalize a.natAbs%b.natAbs=r at*
 by_cases ha:a<0<;>by_cases hb:b<0
 ·rw[decide_eq_true ha,decide_eq_true hb];show -(r:Int)+b*(q:Int)=a;rw[show(b.natAbs:Int)= -b by omega,show(a.natAbs:Int)= -a by omega,Int.neg_mul]at h';omega
 ·rw[decide_eq_true ha,decide_eq_false hb];show -(r:Int)+b* -(q:Int)=a;rw[show(b.natAbs:Int)=b by omega,show(a.natAbs:Int)= -a by omega]at h';rw[Int.mul_neg];omega
 ·rw[decide_eq_false ha,decide_eq_true hb];show(r:Int)+b* -(q:Int)=a;rw[show(b.natAbs:Int)= -b by omega,show(a.natAbs:Int)=a by omega,Int.neg_mul]at h';rw[Int.mul_neg];omega
 rw[decide_eq_false ha,decide_eq_false hb];show(r:Int)+b*(q:Int)=a;rw[show(b.natAbs:Int)=b by omega,show(a.natAbs:Int)=a by omega]at h';omega
theorem Kt (a b:Int):(tr a b).natAbs=a.natAbs%b.natAbs:=nf _ _
theorem Kr (a b:Int):(tq a b).natAbs=a.natAbs/b.natAbs:=nf _ _
theorem EM {a b:Int} (hb:b≠0):(tr a b).natAbs<b.natAbs:=by rw[Kt];exact Nat.mod_lt _ (by omega)
theorem BM {a b:Int} (hb:b≠0) (h:0<=tr a b):a/b=tq a b/\a%b=tr a b:=by
 have h1:=Ks a b;have h2:=EM (a:=a) hb;rcases Int.lt_or_gt_of_ne hb with hn|hp
 ·exact(Int.ediv_emod_unique' hn).2 ⟨h1,h,by omega⟩
 exact(Int.ediv_emod_unique hp).2 ⟨h1,h,by omega⟩
theorem DT {a b:Int} (hb:b<0) (h:tr a b<0):a/b=tq a b+1/\a%b=tr a b+b.natAbs:=by
 have h1:=Ks a b;have h2:=EM (a:=a) (b:=b) (by omega);refine(Int.ediv_emod_unique' hb).2 ⟨?_,by omega,by omega⟩;rw[Int.mul_add,Int.mul_one];omega
theorem DU {a b:Int} (hb:0<b) (h:tr a b<0):a/b=tq a b-1/\a%b=tr a b+b.natAbs:=by
 have h1:=Ks a b;have h2:=EM (a:=a) (b:=b) (by omega);refine(Int.ediv_emod_unique hb).2 ⟨?_,by omega,by omega⟩;rw[Int.mul_sub,Int.mul_one];omega
theorem Sz.le {x y:Int} {k:Nat} (h:Sz y k) (hx:x.natAbs<=y.natAbs):Sz x k:=Nat.lt_of_le_of_lt hx h
theorem l4 {k:Nat} (h:0<k):Sz 1 k:=by unfold Sz;exact Nat.one_lt_pow (by omega) (by decide)
theorem Hw:Bh 1:=l4 (by omega)
theorem Kd {z:Int} (h:z<0):sg z= -1:=by simp[sg,h]
theorem xf {z:Int} (h:0<=z):0<=sg z:=by unfold sg;split<;>(try split)<;>omega
theorem zc (a b:Int) (hb0:b≠0) (ha:Bh a) (hb:Bh b):CallC Tryz.prog 100 [tZ a,tZ b] ⟨[],.tup [(true,cZ (a/b)),(true,cZ (a%b)),(false,[.p (.raw (.bool true))])]⟩:=by
 have la:=ha.len;have lb:=hb.len;have t1:=i7 (aQ a.natAbs) ha.bg.len;have t2:=i7 (aQ b.natAbs) hb.bg.len;rw[fY]at t1 t2;have hl0:(aQ b.natAbs).length≠0:=fun h=>hb0 (by have:=fJ.1 h;omega)
 have hd:=Ii a.natAbs b.natAbs (by omega) la lb;have bq:Bh (tq a b):=ha.le (by rw[Kr];exact Nat.div_le_self _ _);have br:Bh (tr a b):=hb.le (Nat.le_of_lt (EM hb0));have hm1:=jE (!(decide (a<0)==decide (b<0))) (aQ (a.natAbs/b.natAbs)) (aV _) (by have:=bq.bg.len;rwa[Kr]at this);have hm2:=jE (decide (a<0)) (aQ (a.natAbs%b.natAbs)) (aV _) (by have:=br.bg.len;rwa[Kt]at this);rw[aP,show f6 _ _=tq a b from rfl]at hm1;rw[aP,show f6 _ _=tr a b from rfl]at hm2;have hs:=ng (tr a b) br.bg;have p0:= @BM a b hb0;have p1:= @DT a b;have p2:= @DU a b;generalize tq a b=Q at*
 generalize tr a b=R at*
 by_cases hR:R<0
 ·have hm3:=jE false (aQ b.natAbs) (aV _) (by omega);rw[aP,show f6 false b.natAbs=((b.natAbs:Nat):Int)from rfl]at hm3;have hA:=v6 R (b.natAbs:Int) br (by unfold Bh Sz;rw[Int.natAbs_natCast];exact hb);have hs2:=ng b hb.bg;have h1:=fX 1 (by omega) (by omega);rw[Kd hR]at hs;by_cases hbn:b<0
  ·obtain⟨e1,e2⟩:=p1 hbn hR;rw[e1,e2];rw[Kd hbn]at hs2;have hA2:=v6 Q 1 bq Hw;refine aI Tryz.func100 rfl (by kernel_rfl) ?_;rw[Tryz.ntmps100];refine aC fun _ K=>?_;simp(disch:=omega) only[kd,aa,tZ,ae,ab];apply K
   refine bo aW [⟨2,_,_,_,t1⟩,⟨5,_,_,_,t2⟩] [] (by kernel_rfl) fun _ K=>?_;simp(disch:=omega) only[kd,bA,aa,ab,af];apply K
   refine aD (aC fun _ K=>?_);simp(disch:=omega) only[kd,aa];apply K;refine aN rfl (aK ?_);show bf _ _ _ _;refine aF [⟨2,_,_,_,hd⟩] [] fun _ K=>?_;simp only[kd,bA,aa];apply K
   refine bo aW [⟨6,_,_,_,hm1⟩,⟨10,_,_,_,hm2⟩] [] (by kernel_rfl) fun _ K=>?_;simp(disch:=omega) only[kd,bA,tZ,aa,ab,af];apply K
   refine bf.weak (aE (tm:=(jk::jk::.one (.ptr 2 0 0 0)::.one (.ptr 3 0 0 0)::.one (.ptr 4 0 0 0)::.one (.ptr 5 0 0 0)::.raw (.bool false)::jk::bA (aQ b.natAbs)::jk::jk::.one (.ptr 11 0 0 0)::.one (.ptr 12 0 0 0)::j16 (j16 (j16 ([]))))) (l:=[(2,yX (decide (a<0)) (aQ a.natAbs)),(3,yX true (aQ b.natAbs)),(4,qL),(5,qL),(11,yX (decide (Q<0)) (aQ Q.natAbs)),(12,yX true (aQ R.natAbs))]) ⟨rfl,rfl,rfl,rfl,rfl,rfl,trivial⟩ (by simp[wk])) ?_;refine aD (aF [⟨1,_,_,_,hs⟩] [] fun _ K=>?_);simp(disch:=omega) only[kd,tZ,aa,bA,ab];apply K;refine aS rfl ?_;refine bo aW [⟨2,_,_,_,hm3⟩,⟨3,_,_,_,hA⟩] [] (by kernel_rfl) fun _ K=>?_;simp(disch:=omega) only[kd,bA,tZ,aa,ab,af];apply K
   refine aD (aF [⟨1,_,_,_,hs2⟩] [] fun _ K=>?_);simp(disch:=omega) only[kd,tZ,aa,ab];apply K;refine aS rfl ?_;refine s9 [(12,4,42)] aW [⟨1,_,_,_,h1⟩,⟨2,_,_,_,hA2⟩] [] (by kernel_rfl) (Ko (n:=2) (by simp only[qx,qu,ou,l6,sQ,qt,l7,vD,qw,l5,yR,sP,qv]) (by decide)) (CS rfl rfl (by decide)) fun _ K=>?_;simp(disch:=omega) only[kd,tZ,aa,ab,af];apply K
   (refine aH ⟨.inr rfl,aG rfl ?_ rfl⟩;simp(disch:=omega) only[kd,Tryz.results100,ab,aa,cZ])
  obtain⟨e1,e2⟩:=p2 (by omega) hR;rw[e1,e2];have hs3:=xf (z:=b) (by omega);have hA2:=NH Q 1 bq Hw;refine aI Tryz.func100 rfl (by kernel_rfl) ?_;rw[Tryz.ntmps100];refine aC fun _ K=>?_;simp(disch:=omega) only[kd,aa,tZ,ae,ab];apply K
  refine bo aW [⟨2,_,_,_,t1⟩,⟨5,_,_,_,t2⟩] [] (by kernel_rfl) fun _ K=>?_;simp(disch:=omega) only[kd,bA,aa,ab,af];apply K
  refine aD (aC fun _ K=>?_);simp(disch:=omega) only[kd,aa];apply K;refine aN rfl (aK ?_);show bf _ _ _ _;refine aF [⟨2,_,_,_,hd⟩] [] fun _ K=>?_;simp only[kd,bA,aa];apply K
  refine bo aW [⟨6,_,_,_,hm1⟩,⟨10,_,_,_,hm2⟩] [] (by kernel_rfl) fun _ K=>?_;simp(disch:=omega) only[kd,bA,tZ,aa,ab,af];apply K
  refine bf.weak (aE (tm:=(jk::jk::.one (.ptr 2 0 0 0)::.one (.ptr 3 0 0 0)::.one (.ptr 4 0 0 0)::.one (.ptr 5 0 0 0)::.raw (.bool false)::jk::bA (aQ b.natAbs)::jk::jk::.one (.ptr 11 0 0 0)::.one (.ptr 12 0 0 0)::j16 (j16 (j16 ([]))))) (l:=[(2,yX (decide (a<0)) (aQ a.natAbs)),(3,yX false (aQ b.natAbs)),(4,qL),(5,qL),(11,yX (decide (Q<0)) (aQ Q.natAbs)),(12,yX true (aQ R.natAbs))]) ⟨rfl,rfl,rfl,rfl,rfl,rfl,trivial⟩ (by simp[wk])) ?_;refine aD (aF [⟨1,_,_,_,hs⟩] [] fun _ K=>?_);simp(disch:=omega) only[kd,tZ,aa,bA,ab];apply K;refine aS rfl ?_;refine bo aW [⟨2,_,_,_,hm3⟩,⟨3,_,_,_,hA⟩] [] (by kernel_rfl) fun _ K=>?_;simp(disch:=omega) only[kd,bA,tZ,aa,ab,af];apply K
  refine aD (aF [⟨1,_,_,_,hs2⟩] [] fun _ K=>?_);simp(disch:=omega) only[kd,tZ,aa,ab];apply K;refine aN rfl (aK ?_);show bf _ _ _ _;refine s9 [(12,4,42)] aW [⟨1,_,_,_,h1⟩,⟨2,_,_,_,hA2⟩] [] (by kernel_rfl) (Ko (n:=2) (by simp only[qx,qu,ou,l6,sQ,qt,l7,vD,qw,l5,yR,sP,qv]) (by decide)) (CS rfl rfl (by decide)) fun _ K=>?_;simp(disch:=omega) only[kd,tZ,aa,ab,af];apply K
  (refine aH ⟨.inr rfl,aG rfl ?_ rfl⟩;simp(disch:=omega) only[kd,Tryz.results100,ab,aa,cZ])
 obtain⟨e1,e2⟩:=p0 (by omega);rw[e1,e2];have hs3:=xf (z:=R) (by omega);refine aI Tryz.func100 rfl (by kernel_rfl) ?_;rw[Tryz.ntmps100];refine aC fun _ K=>?_;simp(disch:=omega) only[kd,aa,tZ,ae,ab];apply K
 refine bo aW [⟨2,_,_,_,t1⟩,⟨5,_,_,_,t2⟩] [] (by kernel_rfl) fun _ K=>?_;simp(disch:=omega) only[kd,bA,aa,ab,af];apply K
 refine aD (aC fun _ K=>?_);simp(disch:=omega) only[kd,aa];apply K;refine aN rfl (aK ?_);show bf _ _ _ _;refine aF [⟨2,_,_,_,hd⟩] [] fun _ K=>?_;simp only[kd,bA,aa];apply K
 refine bo aW [⟨6,_,_,_,hm1⟩,⟨10,_,_,_,hm2⟩] [] (by kernel_rfl) fun _ K=>?_;simp(disch:=omega) only[kd,bA,tZ,aa,ab,af];apply K
 refine bf.weak (aE (tm:=(jk::jk::.one (.ptr 2 0 0 0)::.one (.ptr 3 0 0 0)::.one (.ptr 4 0 0 0)::.one (.ptr 5 0 0 0)::.raw (.bool false)::jk::bA (aQ b.natAbs)::jk::jk::.one (.ptr 11 0 0 0)::.one (.ptr 12 0 0 0)::j16 (j16 (j16 ([]))))) (l:=[(2,yX (decide (a<0)) (aQ a.natAbs)),(3,yX (decide (b<0)) (aQ b.natAbs)),(4,qL),(5,qL),(11,yX (decide (Q<0)) (aQ Q.natAbs)),(12,yX false (aQ R.natAbs))]) ⟨rfl,rfl,rfl,rfl,rfl,rfl,trivial⟩ (by simp[wk])) ?_;refine aD (aF [⟨1,_,_,_,hs⟩] [] fun _ K=>?_);simp(disch:=omega) only[kd,tZ,aa,bA,ab];apply K;refine aN rfl (aK ?_);show bf _ _ _ _;refine s9 [(12,4,42)] aW [] [] (by kernel_rfl) (Ko (n:=2) (by simp only[qx,qu,ou,l6,sQ,qt,l7,vD,qw,l5,yR,sP,qv]) (by decide)) (CS rfl rfl (by decide)) fun _ K=>?_;simp(disch:=omega) only[kd,aa,ab];apply K
 (refine aH ⟨.inr rfl,aG rfl ?_ rfl⟩;simp(disch:=omega) only[kd,Tryz.results100,ab,aa,cZ])
theorem Dj (a b:Int) (hb0:b≠0) (ha:Bh a) (hb:Bh b):CallC Tryz.prog 56 [tZ a,tZ b] ⟨[],tZ (a/b)⟩:=by
 have h1:=zc a b hb0 ha hb;refine aI Tryz.func56 rfl (by kernel_rfl) ?_;rw[Tryz.ntmps56];refine aC fun _ K=>?_;simp(disch:=omega) only[kd,aa,tZ,ae,ab];apply K
 refine aF [⟨2,_,_,_,h1⟩] [] fun _ K=>?_;simp(disch:=omega) only[kd,tZ,cZ,aa,ab];apply K
 refine aC fun _ K=>?_;simp(disch:=omega) only[kd,ab,aa];apply K
 (refine aH ⟨.inr rfl,aG rfl ?_ rfl⟩;simp(disch:=omega) only[kd,Tryz.results56,ab,aa,tZ])
def fR {α:Type} (f:α->List PV) (r:List α):List PV:=[.sl (ls f r)]
abbrev slM (M:List (List Int)):TV:= .one (.p (.sl (ls (fR fZ) M)))
abbrev rOk (n:Nat) (r:List Int):Prop:=1<=r.length/\r.length<=16/\r.length=n
def xz (M:List (List Int)):Prop:=1<=M.length/\M.length<=16/\ ∀r∈M,rOk (M.headD []).length r
instance (M:List (List Int)):Decidable (xz M):=by unfold xz;exact inferInstance
def Pf (M:List (List Int)):TV:=if xz M then .tup [(false,[.p (.raw (.int .i64 (M.length:Int)))]),(false,[.p (.raw (.int .i64 ((M.headD []).length:Int)))]),(false,[.p (.raw (.bool true))])]
 else .tup [(false,[.p (.raw (.int .i64 0))]),(false,[.p (.raw (.int .i64 0))]),(false,[.p (.raw (.bool false))])]
theorem fL {M:List (List Int)} (h: ¬xz M):Pf M= .tup [(false,[.p (.raw (.int .i64 0))]),(false,[.p (.raw (.int .i64 0))]),(false,[.p (.raw (.bool false))])]:=by unfold Pf;rw[if_neg h]
theorem fW {M:List (List Int)} (h:xz M):Pf M= .tup [(false,[.p (.raw (.int .i64 (M.length:Int)))]),(false,[.p (.raw (.int .i64 ((M.headD []).length:Int)))]),(false,[.p (.raw (.bool true))])]:=by unfold Pf;rw[if_pos h]
theorem gh {M:List (List Int)} (h:1<=M.length):M[0]?=some (M.headD []):=by cases M with
 |nil=>simp at h
 |cons r M=>rfl
structure RP (M:List (List Int)) where
 i:Nat
 hi:i<=M.length
 ok: ∀r∈M.take i,rOk (M.headD []).length r
theorem ny (M:List (List Int)):CallC Tryz.prog 87 [slM M] ⟨[],Pf M⟩:=by
 by_cases h1:M.length<1
 ·rw[fL (fun h=>by have:=h.1;omega)];refine aI Tryz.func87 rfl (by kernel_rfl) ?_;rw[Tryz.ntmps87];refine aC fun _ K=>?_;simp only[kd,aa,slM,ae];apply K
  refine aD (aC fun _ K=>?_);simp(disch:=omega) only[kd,aa,reduceCtorEq];apply K;refine aS rfl ?_;refine aC fun _ K=>?_;simp only[kd,aa];apply K
  (refine aH ⟨.inr rfl,aG rfl ?_ rfl⟩;simp(disch:=omega) only[kd,Tryz.results87])
 by_cases h2:16<M.length
 ·rw[fL (fun h=>by have:=h.2.1;omega)];refine aI Tryz.func87 rfl (by kernel_rfl) ?_;rw[Tryz.ntmps87];refine aC fun _ K=>?_;simp only[kd,aa,slM,ae];apply K
  refine aD (aC fun _ K=>?_);simp(disch:=omega) only[kd,aa];apply K;refine aS rfl ?_;refine aC fun _ K=>?_;simp only[kd,aa];apply K
  (refine aH ⟨.inr rfl,aG rfl ?_ rfl⟩;simp(disch:=omega) only[kd,Tryz.results87])
 have h0:=gh (M:=M) (by omega);refine aI Tryz.func87 rfl (by kernel_rfl) ?_;rw[Tryz.ntmps87];refine aC fun _ K=>?_;simp only[kd,aa,slM,ae];apply K
 refine aD (aC fun _ K=>?_);simp(disch:=omega) only[kd,aa];apply K;refine aN rfl (aK ?_);show bf _ _ _ _;refine aD (aC fun _ K=>?_);simp only[kd,aa];apply K;refine aT (G:=RP M) (fun g=>⟨(slM M::jk::.raw (.int .i64 0)::.raw (.int .i64 0)::.raw (.bool false)::j4 (j4 (jk::jk::slM M::rN M.length::rN g.i::j16 (j4 (j4 (jk::jk::jk::[])))))),Hm []⟩) (fun g=>M.length-g.i) ⟨0,by omega,fun r hr=>by simp at hr⟩ ?_ ?_
 ·refine aE trivial ?_;simp[wk]
 rintro⟨i,hi,ok⟩;simp only;by_cases hm:i<M.length
 ·obtain⟨r,hr⟩:=getElem?_of_lt hm;have hmem:r∈M:=List.mem_of_getElem? hr;refine aC fun _ K=>?_;simp(disch:=omega) only[kd,slM];apply K
  refine bu rfl ?_;refine aD (aJ ?_);refine aC fun _ K=>?_;simp(disch:=omega) only[kd,aa,hr,fR];apply K
  by_cases c1:r.length<1
  ·rw[fL (fun h=>by have:=(h.2.2 r hmem).1;omega)];refine aC fun _ K=>?_;simp(disch:=omega) only[kd,aa,reduceCtorEq,am];apply K
   refine aS rfl ?_;refine aC fun _ K=>?_;simp only[kd,aa];apply K
   (refine aH ⟨.inr rfl,aG rfl ?_ rfl⟩;simp(disch:=omega) only[kd,Tryz.results87])
  by_cases c2:16<r.length
  ·rw[fL (fun h=>by have:=(h.2.2 r hmem).2.1;omega)];refine aC fun _ K=>?_;simp(disch:=omega) only[kd,aa,reduceCtorEq,am];apply K
   refine aS rfl ?_;refine aC fun _ K=>?_;simp only[kd,aa];apply K
   (refine aH ⟨.inr rfl,aG rfl ?_ rfl⟩;simp(disch:=omega) only[kd,Tryz.results87])
  by_cases c3:r.length=(M.headD []).length
  ·refine aC fun _ K=>?_;simp(disch:=omega) only[kd,aa,am,h0,fR];apply K
   refine aN rfl (aK ?_);show bf _ _ _ _;refine aL fun _ K=>?_;simp(disch:=omega) only[kd,aO];apply K
   refine⟨⟨i+1,by omega,fun r' hr'=>?_⟩,by simp only;omega,aE trivial ?_⟩
   ·rw[List.take_add_one,hr]at hr';rcases List.mem_append.1 hr' with h|h
    ·exact ok r' h
    have:r'=r:=by simpa using h
    subst this;exact⟨by omega,by omega,c3⟩
   simp[wk]
  rw[fL (fun h=>by have:=(h.2.2 r hmem).2.2;omega)];refine aC fun _ K=>?_;simp(disch:=omega) only[kd,aa,am,h0,fR];apply K
  refine aS rfl ?_;refine aC fun _ K=>?_;simp only[kd,aa];apply K
  (refine aH ⟨.inr rfl,aG rfl ?_ rfl⟩;simp(disch:=omega) only[kd,Tryz.results87])
 have hsh:xz M:=⟨by omega,by omega,fun r hr=>ok r (by rw[List.take_of_length_le (by omega)];exact hr)⟩;rw[fW hsh];refine aC fun _ K=>?_;simp(disch:=omega) only[kd,slM];apply K
 refine bD rfl ?_;show bf _ _ _ _;refine b9 aW (by kernel_rfl) fun _ K=>?_;simp(disch:=omega) only[kd,aa,am,h0,fR];apply K
 (refine aH ⟨.inr rfl,aG rfl ?_ rfl⟩;simp(disch:=omega) only[kd,Tryz.results87])
def QC (M:List (List Int)):Prop:=xz M/\M.length=(M.headD []).length
instance (M:List (List Int)):Decidable (QC M):=by unfold QC;exact inferInstance
def NY (M:List (List Int)):TV:=if QC M then .tup [(false,[.p (.raw (.int .i64 (M.length:Int)))]),(false,[.p (.raw (.bool true))])]else .tup [(false,[.p (.raw (.int .i64 0))]),(false,[.p (.raw (.bool false))])]
theorem pw (M:List (List Int)):CallC Tryz.prog 78 [slM M] ⟨[],NY M⟩:=by
 have hS:=ny M;by_cases h1:xz M
 ·rw[fW h1]at hS;by_cases h2:M.length=(M.headD []).length
  ·rw[show NY M=_ from if_pos ⟨h1,h2⟩];refine aI Tryz.func78 rfl (by kernel_rfl) ?_;rw[Tryz.ntmps78];refine aC fun _ K=>?_;simp only[kd,slM,ae];apply K
   refine aF [⟨1,_,_,_,hS⟩] [] fun _ K=>?_;simp only[kd,slM,aa];apply K
   refine aD (aC fun _ K=>?_);simp(disch:=omega) only[kd,aa];apply K;refine aN rfl (aK ?_);show bf _ _ _ _;refine aC fun _ K=>?_;simp only[kd,aa];apply K
   (refine aH ⟨.inr rfl,aG rfl ?_ rfl⟩;simp(disch:=omega) only[kd,Tryz.results78])
  rw[show NY M=_ from if_neg (fun h=>h2 h.2)];refine aI Tryz.func78 rfl (by kernel_rfl) ?_;rw[Tryz.ntmps78];refine aC fun _ K=>?_;simp only[kd,slM,ae];apply K
  refine aF [⟨1,_,_,_,hS⟩] [] fun _ K=>?_;simp only[kd,slM,aa];apply K
  refine aD (aC fun _ K=>?_);simp(disch:=omega) only[kd,aa];apply K;refine aS rfl ?_;refine aC fun _ K=>?_;simp only[kd];apply K
  (refine aH ⟨.inr rfl,aG rfl ?_ rfl⟩;simp(disch:=omega) only[kd,Tryz.results78])
 rw[fL h1]at hS;rw[show NY M=_ from if_neg (fun h=>h1 h.1)];refine aI Tryz.func78 rfl (by kernel_rfl) ?_;rw[Tryz.ntmps78];refine aC fun _ K=>?_;simp only[kd,slM,ae];apply K
 refine aF [⟨1,_,_,_,hS⟩] [] fun _ K=>?_;simp only[kd,slM,aa];apply K
 refine aD (aC fun _ K=>?_);simp(disch:=omega) only[kd,aa,reduceCtorEq];apply K;refine aS rfl ?_;refine aC fun _ K=>?_;simp only[kd];apply K
 (refine aH ⟨.inr rfl,aG rfl ?_ rfl⟩;simp(disch:=omega) only[kd,Tryz.results78])
def fO (d:Nat) (l:List Nat):List (List AV):=l.mapIdx fun k c=>[.sl d (k+1) 0 c]
def mn (r:List Int):OObj:=⟨42,2,lc fZ r⟩
def NS (d:Nat) (R:List (List Int)):List OObj:=⟨84,1,fO d (R.map List.length)⟩::R.map mn
def N2 (d n c i:Nat):List OObj:=⟨84,1,fO d (ae i c)++ae (n-i) [.p (.sl [])]⟩::ae i (mn (ae c 0))
theorem cq (d:Nat) (l:List Nat):(fO d l).length=l.length:=by simp[fO]
theorem ni (d:Nat) (l:List Nat) (c:Nat):fO d (l++[c])=fO d l++[[.sl d (l.length+1) 0 c]]:=by simp[fO,List.mapIdx_append]
theorem NX (d:Nat) (l:List Nat):(fO d l).map (List.map yV)=fO d l:=by
 apply List.ext_getElem?;intro k;simp only[fO,ax,List.getElem?_mapIdx];cases l[k]?<;>rfl
theorem Qs (r:List Int):(lc fZ r).map (List.map yV)=lc fZ r:=by simp[lc,fZ,yV,y9]
theorem GS (d n c:Nat):([⟨84,1,ae n [.raw (.slice none 0 0)]⟩]:List OObj).map zO=N2 d n c 0:=by
 simp[N2,zO,fO,yV,y9]
theorem KZ (d n c:Nat):N2 d n c n=NS d (ae n (ae c 0)):=by
 simp[N2,NS]
theorem yW {d n c i:Nat} (hi:i<n):(fO d (ae i c)++ae (n-i) [AV.p (PV.sl [])])[i]?=some [.p (.sl [])]:=by
 rw[List.getElem?_append_right (by simp[cq]),cq,aw,Nat.sub_self,List.getElem?_replicate,if_pos (by omega)]
theorem K0 {d n c i:Nat} (hi:i<n):
  ((⟨84,1,(fO d (ae i c)++ae (n-i) [AV.p (PV.sl [])]).set i [.sl d (i+1) 0 c]⟩::ae i (mn (ae c 0))++[⟨42,2,ae c [.raw (.bool false),.raw (.slice none 0 0)]⟩]:List OObj)).map zO=N2 d n c (i+1):=by
 have e1:(fO d (ae i c)++ae (n-i) [AV.p (PV.sl [])]).set i [.sl d (i+1) 0 c]=fO d (ae (i+1) c)++ae (n-(i+1)) [AV.p (PV.sl [])]:=by
  rw[List.set_append_right _ _ (by simp[cq]),cq,aw,Nat.sub_self,List.replicate_succ' (n:=i),ni,aw,List.append_assoc]
  congr 1
  rw[show n-i=n-(i+1)+1 by omega,List.replicate_succ];rfl
 rw[e1];simp only[List.cons_append,List.map_cons,List.map_append,List.map_replicate,N2]
 congr 1
 ·simp[zO,NX,yV,y9]
 rw[List.replicate_succ']
 congr 1
 ·congr 1
  simp[zO,mn,Qs]
 simp[zO,mn,lc,fZ,yV,y9,ci,ls]
theorem EF (d e:Nat) (l:List Nat):(fO d l).map (List.map (fd e))=fO e l:=by
 apply List.ext_getElem?;intro k;simp only[fO,ax,List.getElem?_mapIdx];cases l[k]?<;>rfl
theorem MR (e:Nat) (r:List Int):dj e (mn r)=mn r:=by simp[dj,mn,uk]
theorem Ei (d e:Nat) (R:List (List Int)):(NS d R).map (dj e)=NS e R:=by
 simp only[NS,List.map_cons,List.map_map]
 congr 1
 ·simp[dj,EF]
 exact List.map_congr_left fun r _=>MR e r
structure RU (n:Nat) where
 i:Nat
 hi:i<=n
theorem xC (n c:Nat) (hn:n<=16) (hc:c<=16):CallC Tryz.prog 102 [.raw (.int .i64 (n:Int)),.raw (.int .i64 (c:Int))] ⟨NS 0 (ae n (ae c 0)),.one (.sl 0 0 0 n)⟩:=by
 refine aI Tryz.func102 rfl (by kernel_rfl) ?_;rw[Tryz.ntmps102];refine aC fun _ K=>?_;simp only[kd,aa,ae];apply K
 refine aC fun _ K=>?_;simp(disch:=omega) only[kd,aa];apply K
 refine aD (aC fun _ K=>?_);simp only[kd,aa];apply K;refine aT (G:=RU n) (fun g=>⟨(.raw (.int .i64 (n:Int))::rN c::jk::jk::.raw (.slice none 0 0)::.one (.sl 8 0 0 n)::j4 (.raw (.int .i64 (n:Int))::rN g.i::j4 (j4 (jk::[])))),Hm [(8,N2 8 n c g.i)]⟩) (fun g=>n-g.i) ⟨0,by omega⟩ ?_ ?_
 ·refine(eK 8).trans (aE ⟨GS 8 n c,trivial⟩ ?_);simp[wk]
 rintro⟨i,hi⟩;simp only;by_cases hm:i<n
 ·refine aC fun _ K=>?_;simp(disch:=omega) only[kd];apply K
  refine bu rfl ?_;refine aD (aJ ?_);refine aC fun _ K=>?_;simp only[kd];apply K
  simp only[N2];have hg:=yW (d:=8) (c:=c) hm;refine aL fun _ K=>?_;simp(disch:=omega) only[kd,aa,ab,hg,ah,aw,List.all_replicate,ite_self,af];apply K
  show bf _ _ _ _;refine aL fun _ K=>?_;simp(disch:=omega) only[kd,aO];apply K
  refine⟨⟨i+1,by omega⟩,by simp only;omega,(eK 8).trans (aE ⟨K0 hm,trivial⟩ ?_)⟩;simp[wk]
 have hin:i=n:=by omega
 subst hin;refine aC fun _ K=>?_;simp(disch:=omega) only[kd];apply K
 refine bD rfl ?_;show bf _ _ _ _;rw[KZ];refine aC fun _ K=>?_;simp only[kd];apply K
 refine aH ⟨.inr rfl,_,b8.refl _,?_⟩;refine⟨.one (.sl 8 0 0 i),8,?_,rfl,?_,rfl⟩
 ·simp(disch:=omega) only[kd,Tryz.results102]
 exact(Ei 8 0 _).symm
abbrev gK (d n c:Nat) (f:FF):List OObj:=⟨84,1,fO d (ae n c)⟩::(mat n c f).map mn
theorem IW (n c:Nat) (f:FF):(mat n c f).map List.length=ae n c:=by
 apply List.ext_getElem?;intro i;rw[ax,List.getElem?_replicate];by_cases h:i<n
 ·rw[bs _ _ h,if_pos h];simp[bv]
 rw[aq (by rw[aU];omega),if_neg h];rfl
theorem qZ (d n c:Nat) (f:FF):NS d (mat n c f)=gK d n c f:=by rw[NS,IW]
theorem sB (n c:Nat):ae n (ae c (0:Int))=mat n c fun _ _=>0:=by
 apply List.ext_getElem?;intro i;rw[List.getElem?_replicate];by_cases h:i<n
 ·rw[bs _ _ h,if_pos h]
  congr 1
  apply List.ext_getElem?;intro j;rw[List.getElem?_replicate];by_cases h:j<c
  ·rw[aR _ h,if_pos h]
  rw[aq (by rw[bv];omega),if_neg h]
 rw[aq (by rw[aU];omega),if_neg h]
theorem bK {n i:Nat} (d c:Nat) (h:i<n):(fO d (ae n c))[i]?=some [.sl d (i+1) 0 c]:=by
 simp[fO,h]
theorem em {n i:Nat} (c:Nat) (f:FF) (h:i<n):((mat n c f).map mn)[i]?=some ⟨42,2,lc fZ (bz c (f i))⟩:=by
 rw[ax,bs _ _ h];rfl
def upd (f:FF) (i j:Nat) (v:Int):Nat->Nat->Int:=fun a=>if a=i then(fun b=>if b=j then v else f i b)else f a
theorem j7 {n i j:Nat} (c:Nat) (f:FF) (v:Int):((mat n c f).map mn).set i ⟨42,2,(lc fZ (bz c (f i))).set j [.p (.raw (.bool (decide (v<0)))),.p (.sl (ls fU (aQ v.natAbs)))]⟩=(mat n c (upd f i j v)).map mn:=by
 have e:(⟨42,2,(lc fZ (bz c (f i))).set j [.p (.raw (.bool (decide (v<0)))),.p (.sl (ls fU (aQ v.natAbs)))]⟩:OObj)=mn (bz c fun b=>if b=j then v else f i b):=by
  rw[<- qh,mn,<- yc];rfl
 rw[e,<- List.map_set,yg];rfl
theorem cx {n c:Nat} {f g:FF} (h: ∀i j,i<n->j<c->f i j=g i j):(mat n c f).map mn=(mat n c g).map mn:=by rw[dR h]
theorem gu (d e n c:Nat) (f:FF):(gK d n c f).map (dj e)=gK e n c f:=by rw[<- qZ,<- qZ,Ei]
theorem jY {H:OH} {d n c:Nat} {f:FF} (h:H d=gK d n c f):r6 H d:=fun r o ho e he x hx=>by
 rw[h]at ho;cases r with
 |succ r=>
  rw[List.getElem?_cons_succ,ax]at ho;obtain⟨l,hl,rfl⟩:=Option.map_eq_some_iff.1 ho;exact .inl (dy _ _ l e he x hx)
 |zero=>
  simp at ho;subst ho;simp only at he;obtain⟨k,hk⟩:=List.mem_iff_getElem?.1 he;have hkn:k<n:=by
   have:=(List.getElem?_eq_some_iff.1 hk).1;rwa[cq,aw]at this
  rw[bK d c hkn]at hk;injection hk with hk
  subst hk;simp at hx;subst hx;refine .inr ⟨k+1,0,c,mn (bz c (f k)),rfl,?_,dy _ _ _⟩;rw[h,List.getElem?_cons_succ,ax,bs _ _ hkn];rfl
theorem NO {H:OH} {d n c:Nat} {f:FF} (h:H d=gK d n c f):fD H d (.one (.sl d 0 0 n))=slM (mat n c f):=by
 have e:((fO d (ae n c)).map (List.map (gQ H d)))=ls (fR fZ) (mat n c f):=by
  apply List.ext_getElem?;intro i;rw[ax,eZ];by_cases hi:i<n
  ·rw[bK d c hi,bs _ _ hi];simp only[Option.map_some,List.map_cons,List.map_nil,gQ,h,List.getElem?_cons_succ,em _ _ hi,fR,fE,pP,nK];rw[List.drop_zero,List.take_of_length_le (by rw[bv];omega)]
  rw[aq (by rw[cq,aw];omega),aq (by rw[aU];omega)];rfl
 simp only[fD,eG,if_true,h,List.getElem?_cons_zero];rw[List.drop_zero,List.take_of_length_le (by rw[cq,aw];omega),e]
abbrev slI (M:List (List Int)):TV:= .one (.p (.sl (ls (fR fI) M)))
def Iw:TV:= .tup [(false,[.p (.raw (.slice none 0 0))]),(false,[.p (.raw (.bool false))])]
def yY (M:List (List Int)):TV:= .tup [(false,[.p (.sl (ls (fR fZ) M))]),(false,[.p (.raw (.bool true))])]
structure jP (n:Nat) where
 i:Nat
 hi:i<=n
def part (f:FF) (i j:Nat):Nat->Nat->Int:=fun a b=>if a<i\/(a=i/\b<j)then f a b else 0
theorem jt (f:FF) (i j a b:Nat):upd (part f i j) i j (f i j) a b=part f i (j+1) a b:=by
 unfold upd part;by_cases h1:a=i
 ·subst h1;by_cases h2:b=j
  ·subst h2;simp
  have:b<j+1↔b<j:=by omega
  simp[h2,this]
 simp[h1]
theorem kU {c:Nat} (f:FF) (i a b:Nat) (hb:b<c):part f i c a b=part f (i+1) 0 a b:=by
 unfold part;by_cases h1:a<i
 ·rw[if_pos (.inl h1),if_pos (.inl (by omega))]
 by_cases h2:a=i
 ·rw[if_pos (.inr ⟨h2,hb⟩),if_pos (.inl (by omega))]
 rw[if_neg (by omega),if_neg (by omega)]
theorem jG {n:Nat} (f:FF) (a b:Nat) (ha:a<n):part f n 0 a b=f a b:=by
 unfold part;rw[if_pos (.inl ha)]
theorem w8 (f:FF):part f 0 0=fun _ _=>0:=by
 funext a b;unfold part;rw[if_neg (by omega)]
theorem oF (n c:Nat) (f:FF) (hn1:1<=n) (hn:n<=16) (hc1:1<=c) (hc:c<=16) (hf: ∀i j,i<n->j<c-> -9223372036854775808<=f i j/\f i j<=9223372036854775807):
  CallC Tryz.prog 59 [slI (mat n c f)] ⟨[],yY (mat n c f)⟩:=by
 have hml:=aU n c f;have h0:=bs (n:=n) c f (i:=0) (by omega);have hZ:=xC n c hn hc;rw[sB,qZ]at hZ;refine aI Tryz.func59 rfl (by kernel_rfl) ?_;rw[Tryz.ntmps59];refine aC fun _ K=>?_;simp only[kd,slI,ae];apply K
 refine aD (aC fun _ K=>?_);simp(disch:=omega) only[kd,aa,hml];apply K;refine aN rfl (aK ?_);show bf _ _ _ _;refine aD (aC fun _ K=>?_);simp only[kd,aa,hml];apply K;refine aT (G:=jP n) (fun g=>⟨(slI (mat n c f)::jk::.raw (.slice none 0 0)::.raw (.bool false)::j4 (j4 (j4 (jk::slI (mat n c f)::rN n::rN g.i::j16 (j16 (j16 (j4 (j4 (jk::jk::[]))))))))),Hm []⟩) (fun g=>n-g.i) ⟨0,by omega⟩ ?_ ?_
 ·refine aE trivial ?_;simp[wk]
 rintro⟨i,hi⟩;simp only;by_cases hm:i<n
 ·have hr:=bs c f hm;refine aC fun _ K=>?_;simp(disch:=omega) only[kd,slI];apply K
  refine bu rfl ?_;refine aD (aJ ?_);refine aC fun _ K=>?_;simp(disch:=omega) only[kd,aa,hr,fR];apply K
  refine aC fun _ K=>?_;simp(disch:=omega) only[kd,aa,bv,am,h0,fR];apply K
  refine aN rfl (aK ?_);show bf _ _ _ _;refine aL fun _ K=>?_;simp(disch:=omega) only[kd,aO];apply K
  refine⟨⟨i+1,by omega⟩,by simp only;omega,aE trivial ?_⟩;simp[wk]
 refine aC fun _ K=>?_;simp(disch:=omega) only[kd,slI];apply K
 refine bD rfl ?_;show bf _ _ _ _;refine aF [⟨6,_,_,_,hZ⟩] [] fun _ K=>?_;simp(disch:=omega) only[kd,aa,hml,am,h0,fR,bv];apply K
 refine aD (aC fun _ K=>?_);simp only[kd,aa,hml];apply K;refine aT (G:=jP n) (fun g=>⟨(slI (mat n c f)::jk::.raw (.slice none 0 0)::.raw (.bool false)::jk::jk::.one (.sl 47 0 0 n)::j16 (j16 (j4 (j4 (jk::jk::rN n::rN g.i::j16 (j4 (j4 (jk::jk::jk::[])))))))),Hm [(47,gK 47 n c (part f g.i 0))]⟩) (fun g=>n-g.i) ⟨0,by omega⟩ ?_ ?_
 ·refine aE ⟨?_,trivial⟩ ?_
  ·rw[w8];exact gu 0 47 n c _
  simp[wk]
 rintro⟨i,hi⟩;simp only;by_cases hm2:i<n
 ·have hr:=bs c f hm2;refine aC fun _ K=>?_;simp(disch:=omega) only[kd,slI];apply K
  refine bu rfl ?_;refine aD (aJ ?_);refine aC fun _ K=>?_;simp only[kd];apply K
  refine aC fun _ K=>?_;simp(disch:=omega) only[kd,aa,hr,fR,bv];apply K
  refine aT (G:=jP c) (fun g=>⟨(slI (mat n c f)::jk::.raw (.slice none 0 0)::.raw (.bool false)::jk::jk::.one (.sl 47 0 0 n)::rN i::j16 (j16 (j4 (j4 (jk::rN n::rN i::j4 (jk::jk::rN c::rN g.i::j16 (jk::jk::jk::[]))))))),Hm [(47,gK 47 n c (part f i g.i))]⟩) (fun g=>c-g.i) ⟨0,by omega⟩ ?_ ?_
  ·refine aE ⟨rfl,trivial⟩ ?_;simp[wk]
  rintro⟨j,hj⟩;simp only;by_cases hm3:j<c
  ·have hjr:=aR (f i) hm3;have hS:=fX (f i j) (hf i j hm2 hm3).1 (hf i j hm2 hm3).2;have g1:=bK (n:=n) (i:=i) 47 c hm2;have g2:=em c (part f i j) hm2;have g3:=aR (part f i j i) hm3;refine aC fun _ K=>?_;simp(disch:=omega) only[kd,slI];apply K
   refine bu rfl ?_;refine aD (aJ ?_);refine aC fun _ K=>?_;simp only[kd];apply K
   refine d8 aW [⟨12,_,_,_,hS⟩] [] (by kernel_rfl) fun _ K=>?_;simp(disch:=omega) only[kd,tZ,aa,g1,hr,fR,hjr,g2,fZ,g3,j7];apply K
   show bf _ _ _ _;refine aL fun _ K=>?_;simp(disch:=omega) only[kd,aO];apply K
   refine⟨⟨j+1,by omega⟩,by simp only;omega,aE ⟨?_,trivial⟩ ?_⟩
   ·show _::_=_::_;rw[cx fun a b _ _=>jt f i j a b]
   simp[wk]
  have hjc:j=c:=by omega
  subst hjc;refine aC fun _ K=>?_;simp(disch:=omega) only[kd,slI];apply K
  refine bD rfl ?_;show bf _ _ _ _;refine aL fun _ K=>?_;simp(disch:=omega) only[kd,aO];apply K
  refine⟨⟨i+1,by omega⟩,by simp only;omega,aE ⟨?_,trivial⟩ ?_⟩
  ·show _::_=_::_;rw[cx fun a b _ hb=>kU f i a b hb]
  simp[wk]
 have hin:i=n:=by omega
 subst hin;refine aC fun _ K=>?_;simp(disch:=omega) only[kd,slI];apply K
 refine bD rfl ?_;show bf _ _ _ _;have e:gK 47 i c (part f i 0)=gK 47 i c f:=by
  show _::_=_::_;rw[cx fun a b ha _=>jG f a b ha]
 rw[e];refine bf.weak ((bC 47 (jY rfl)).trans (aE (tm:=(j4 (jk::jk::slM (mat i c f)::j16 (j16 (j16 (j16 (j4 (jk::jk::jk::[])))))))) (l:=[]) trivial (by simp[wk];exact(NO (H:=Hm [(47,gK 47 i c f)]) (d:=47) (n:=i) (c:=c) (f:=f) rfl).symm))) ?_;refine aC fun _ K=>?_;simp only[kd,aa,slM];apply K
 (refine aH ⟨.inr rfl,aG rfl ?_ rfl⟩;simp(disch:=omega) only[kd,Tryz.results59,yY])
structure RC (M:List (List Int)) where
 i:Nat
 hi:i<=M.length
 ok: ∀r∈M.take i,rOk (M.headD []).length r
theorem rA (M:List (List Int)) (hM: ¬xz M):CallC Tryz.prog 59 [slI M] ⟨[],Iw⟩:=by
 by_cases h1:M.length<1
 ·refine aI Tryz.func59 rfl (by kernel_rfl) ?_;rw[Tryz.ntmps59];refine aC fun _ K=>?_;simp only[kd,slI,ae];apply K
  refine aD (aC fun _ K=>?_);simp(disch:=omega) only[kd,aa,reduceCtorEq];apply K;refine aS rfl ?_;refine aC fun _ K=>?_;simp only[kd];apply K
  (refine aH ⟨.inr rfl,aG rfl ?_ rfl⟩;simp(disch:=omega) only[kd,Tryz.results59,Iw])
 by_cases h2:16<M.length
 ·refine aI Tryz.func59 rfl (by kernel_rfl) ?_;rw[Tryz.ntmps59];refine aC fun _ K=>?_;simp only[kd,slI,ae];apply K
  refine aD (aC fun _ K=>?_);simp(disch:=omega) only[kd,aa];apply K;refine aS rfl ?_;refine aC fun _ K=>?_;simp only[kd];apply K
  (refine aH ⟨.inr rfl,aG rfl ?_ rfl⟩;simp(disch:=omega) only[kd,Tryz.results59,Iw])
 have h0:=gh (M:=M) (by omega);refine aI Tryz.func59 rfl (by kernel_rfl) ?_;rw[Tryz.ntmps59];refine aC fun _ K=>?_;simp only[kd,slI,ae];apply K
 refine aD (aC fun _ K=>?_);simp(disch:=omega) only[kd,aa];apply K;refine aN rfl (aK ?_);show bf _ _ _ _;refine aD (aC fun _ K=>?_);simp only[kd,aa];apply K;refine aT (G:=RC M) (fun g=>⟨(slI M::jk::.raw (.slice none 0 0)::.raw (.bool false)::j4 (j4 (j4 (jk::slI M::rN M.length::rN g.i::j16 (j16 (j16 (j4 (j4 (jk::jk::[]))))))))),Hm []⟩) (fun g=>M.length-g.i) ⟨0,by omega,fun r hr=>by simp at hr⟩ ?_ ?_
 ·refine aE trivial ?_;simp[wk]
 rintro⟨i,hi,ok⟩;simp only;by_cases hm:i<M.length
 ·obtain⟨r,hr⟩:=getElem?_of_lt hm;refine aC fun _ K=>?_;simp(disch:=omega) only[kd,slI];apply K
  refine bu rfl ?_;refine aD (aJ ?_);refine aC fun _ K=>?_;simp(disch:=omega) only[kd,aa,hr,fR];apply K
  by_cases c1:r.length<1
  ·refine aC fun _ K=>?_;simp(disch:=omega) only[kd,aa,reduceCtorEq,am];apply K
   refine aS rfl ?_;refine aC fun _ K=>?_;simp only[kd];apply K
   (refine aH ⟨.inr rfl,aG rfl ?_ rfl⟩;simp(disch:=omega) only[kd,Tryz.results59,Iw])
  by_cases c2:16<r.length
  ·refine aC fun _ K=>?_;simp(disch:=omega) only[kd,aa,reduceCtorEq,am];apply K
   refine aS rfl ?_;refine aC fun _ K=>?_;simp only[kd];apply K
   (refine aH ⟨.inr rfl,aG rfl ?_ rfl⟩;simp(disch:=omega) only[kd,Tryz.results59,Iw])
  by_cases c3:r.length=(M.headD []).length
  ·refine aC fun _ K=>?_;simp(disch:=omega) only[kd,aa,am,h0,fR];apply K
   refine aN rfl (aK ?_);show bf _ _ _ _;refine aL fun _ K=>?_;simp(disch:=omega) only[kd,aO];apply K
   refine⟨⟨i+1,by omega,fun r' hr'=>?_⟩,by simp only;omega,aE trivial ?_⟩
   ·rw[List.take_add_one,hr]at hr';rcases List.mem_append.1 hr' with h|h
    ·exact ok r' h
    have:r'=r:=by simpa using h
    subst this;exact⟨by omega,by omega,c3⟩
   simp[wk]
  refine aC fun _ K=>?_;simp(disch:=omega) only[kd,aa,am,h0,fR];apply K
  refine aS rfl ?_;refine aC fun _ K=>?_;simp only[kd];apply K
  (refine aH ⟨.inr rfl,aG rfl ?_ rfl⟩;simp(disch:=omega) only[kd,Tryz.results59,Iw])
 exact absurd ⟨by omega,by omega,fun r hr=>ok r (by rw[List.take_of_length_le (by omega)];exact hr)⟩ hM
theorem vM (n c:Nat) (f:FF) (hn1:1<=n) (hn:n<=16) (hc1:1<=c) (hc:c<=16) (hf: ∀i j,i<n->j<c-> -9223372036854775808<=f i j/\f i j<=9223372036854775807):
  CallC Tryz.prog 23 [slI (mat n c f)] ⟨[],slM (mat n c f)⟩:=by
 have hF:=oF n c f hn1 hn hc1 hc hf;refine aI Tryz.func23 rfl (by kernel_rfl) ?_;rw[Tryz.ntmps23];refine aC fun _ K=>?_;simp only[kd,slI,ae];apply K
 refine aF [⟨1,_,_,_,hF⟩] [] fun _ K=>?_;simp only[kd,slI,yY,aa];apply K
 refine aC fun _ K=>?_;simp only[kd];apply K
 (refine aH ⟨.inr rfl,aG rfl ?_ rfl⟩;simp(disch:=omega) only[kd,Tryz.results23,slM])
abbrev r9 (l:List Nat):TV:= .one (.p (.sl (ls fN l)))
theorem LS (k more:Nat) (hk:k<=16) (hm:more<=16):CallC Tryz.prog 133 [.raw (.int .i64 (k:Int)),.raw (.int .i64 (more:Int))] ⟨[],r9 (List.range k++[more])⟩:=by
 refine aI Tryz.func133 rfl (by kernel_rfl) ?_;rw[Tryz.ntmps133];refine aC fun _ K=>?_;simp only[kd,aa,ae];apply K
 refine aC fun _ K=>?_;simp only[kd];apply K
 refine aD (aC fun _ K=>?_);simp only[kd];apply K;refine aT (G:=jP k) (fun g=>⟨(.raw (.int .i64 (k:Int))::rN more::jk::jk::.raw (.slice none 0 0)::.one (.sl 15 0 0 g.i)::rN g.i::j4 (j4 (j4 (jk::[])))),Hm [(15,[⟨3,1,lc fN (List.range g.i)⟩])]⟩) (fun g=>k-g.i) ⟨0,by omega⟩ ?_ ?_
 ·refine(fp (k:=5) (d:=15) 3 1 (by omega) rfl rfl).trans (aE ⟨rfl,trivial⟩ ?_);simp[wk]
 rintro⟨i,hi⟩;simp only;by_cases hm:i<k
 ·refine aD (aC fun _ K=>?_);simp(disch:=omega) only[kd,aa];apply K;refine aS rfl (aK ?_);refine aD (aJ ?_);refine aL fun _ K=>?_;simp(disch:=omega) only[kd,aa,Nat.reduceMul,ah,List.length_range,mN];apply K
  show bf _ _ _ _;refine aL fun _ K=>?_;simp(disch:=omega) only[kd,aa,aO];apply K
  refine⟨⟨i+1,by omega⟩,by simp only;omega,aE ⟨?_,trivial⟩ ?_⟩
  ·rw[List.range_succ];rfl
  simp[wk]
 have hik:i=k:=by omega
 subst hik;refine aD (aC fun _ K=>?_);simp(disch:=omega) only[kd,aa];apply K;refine aN rfl (bE ?_);show bf _ _ _ _;refine aC fun _ K=>?_;simp(disch:=omega) only[kd,aa,Nat.reduceMul,ah,List.length_range,mN];apply K
 refine aH ⟨.inr rfl,kw 15 (cY rfl) ?_ rfl⟩;have eT:List.take (i+1) (List.range i++[more])=List.range i++[more]:=List.take_of_length_le (by simp);simp(disch:=omega) only[kd,Tryz.results133,eT,r9]
structure QP (n:Nat) where
 i:Nat
 hi:i<=n
theorem ug (l:List Int) (v:Int):lc fZ l++[[.p (.raw (.bool (decide (v<0)))),.p (.sl (ls fU (aQ v.natAbs)))]]=lc fZ (l++[v]):=by simp[lc,fZ]
theorem IQ (M:List (List Int)) (r:List Int):lc (fR fZ) M++[[.p (.sl (ls fZ r))]]=lc (fR fZ) (M++[r]):=by simp[lc,fR]
theorem xm {α β:Type} {l:List α} {i:Nat} {x:α} (g:α->β) (h:l[i]?=some x):(l.take i).map g++[g x]=(l.take (i+1)).map g:=by
 rw[List.take_add_one,h];simp
theorem zh (n c:Nat) (f:FF) (rs cs:List Nat) (hn:n<=16) (hc:c<=16) (hr: ∀x∈rs,x<n) (hs: ∀x∈cs,x<c) (lr:rs.length<=17) (lcs:cs.length<=17):
  CallC Tryz.prog 132 [slM (mat n c f),r9 rs,r9 cs] ⟨[],slM (rs.map fun i=>cs.map (f i))⟩:=by
 have hml:=aU n c f;refine aI Tryz.func132 rfl (by kernel_rfl) ?_;rw[Tryz.ntmps132];refine aC fun _ K=>?_;simp only[kd,slM,r9,aa,ae];apply K
 refine aC fun _ K=>?_;simp only[kd];apply K
 refine aD (aC fun _ K=>?_);simp only[kd,aa];apply K;refine aT (G:=QP rs.length) (fun g=>⟨(slM (mat n c f)::r9 rs::r9 cs::jk::jk::jk::.raw (.slice none 0 0)::.one (.sl 39 0 0 g.i)::j4 (jk::r9 rs::rN rs.length::rN g.i::j16 (j4 (j4 (jk::jk::[]))))),Hm [(39,[⟨84,1,lc (fR fZ) ((rs.take g.i).map fun i=>cs.map (f i))⟩])]⟩) (fun g=>rs.length-g.i) ⟨0,by omega⟩ ?_ ?_
 ·refine(fp (k:=7) (d:=39) 84 1 (by omega) rfl rfl).trans (aE ⟨rfl,trivial⟩ ?_);simp[wk]
 rintro⟨i,hi⟩;simp only;by_cases hm:i<rs.length
 ·obtain⟨r,hri⟩:=getElem?_of_lt hm;have hrn:=hr r (List.mem_of_getElem? hri);have hrow:=bs c f hrn;refine aC fun _ K=>?_;simp(disch:=omega) only[kd,slM,r9];apply K
  refine bu rfl ?_;refine aD (aJ ?_);refine aC fun _ K=>?_;simp(disch:=omega) only[kd,aa,hri];apply K
  refine aC fun _ K=>?_;simp only[kd];apply K
  refine aD (aC fun _ K=>?_);simp only[kd,aa];apply K;refine aT (G:=QP cs.length) (fun g=>⟨(slM (mat n c f)::r9 rs::r9 cs::jk::jk::jk::.raw (.slice none 0 0)::.one (.sl 39 0 0 i)::jk::rN r::.one (.sl 34 0 0 g.i)::jk::jk::r9 rs::rN rs.length::rN i::jk::jk::jk::r9 cs::rN cs.length::rN g.i::j16 (j4 ([]))),Hm [(39,[⟨84,1,lc (fR fZ) ((rs.take i).map fun i=>cs.map (f i))⟩]),(34,[⟨42,2,lc fZ ((cs.take g.i).map (f r))⟩])]⟩) (fun g=>cs.length-g.i) ⟨0,by omega⟩ ?_ ?_
  ·refine(fp (k:=10) (d:=34) 42 2 (by omega) rfl rfl).trans (aE ⟨rfl,rfl,trivial⟩ ?_);simp[wk]
  rintro⟨j,hj⟩;simp only;by_cases hm2:j<cs.length
  ·obtain⟨s,hsj⟩:=getElem?_of_lt hm2;have hsc:=hs s (List.mem_of_getElem? hsj);have hent:=aR (f r) hsc;have eL:((cs.take j).map (f r)).length=j:=by simp;omega
   refine aC fun _ K=>?_;simp(disch:=omega) only[kd,slM,r9];apply K
   refine bu rfl ?_;refine aD (aJ ?_);refine aC fun _ K=>?_;simp(disch:=omega) only[kd,aa,hsj];apply K
   refine aL fun _ K=>?_;simp(disch:=omega) only[kd,aa,hrow,fR,hent,fZ,Nat.reduceMul,ah,ab,eL,ug,xm (f r) hsj,af];apply K
   show bf _ _ _ _;refine aL fun _ K=>?_;simp(disch:=omega) only[kd,aO];apply K
   refine⟨⟨j+1,by omega⟩,by simp only;omega,aE ⟨rfl,rfl,trivial⟩ ?_⟩;simp[wk]
  have hjc:j=cs.length:=by omega
  subst hjc;refine aC fun _ K=>?_;simp(disch:=omega) only[kd,slM,r9];apply K
  refine bD rfl ?_;show bf _ _ _ _;refine bf.weak ((bC 34 (cY rfl)).trans (aE (tm:=(slM (mat n c f)::r9 rs::r9 cs::jk::jk::jk::.raw (.slice none 0 0)::.one (.sl 39 0 0 i)::jk::jk::.one (.p (.sl (ls fZ (cs.map (f r)))))::jk::jk::r9 rs::rN rs.length::rN i::j16 (j4 (j4 (jk::jk::[]))))) (l:=[(39,[⟨84,1,lc (fR fZ) ((rs.take i).map fun i=>cs.map (f i))⟩])]) ⟨rfl,trivial⟩ (by simp[wk,fD,eG,Hm,fE,gT,List.take_of_length_le]))) ?_;have eL:((rs.take i).map fun i=>cs.map (f i)).length=i:=by simp;omega
  have eS:=xm (fun i=>cs.map (f i)) hri;refine aL fun _ K=>?_;simp(disch:=omega) only[kd,aa,slM,r9,Nat.reduceMul,ah,eL,IQ,eS];apply K
  show bf _ _ _ _;refine aL fun _ K=>?_;simp(disch:=omega) only[kd,aO];apply K
  refine⟨⟨i+1,by omega⟩,by simp only;omega,aE ⟨rfl,trivial⟩ ?_⟩;simp[wk]
 have hin:i=rs.length:=by omega
 subst hin;refine aC fun _ K=>?_;simp(disch:=omega) only[kd,slM,r9];apply K
 refine bD rfl ?_;show bf _ _ _ _;refine aC fun _ K=>?_;simp only[kd];apply K
 refine aH ⟨.inr rfl,kw 39 (cY rfl) ?_ rfl⟩;have eT:List.take rs.length (List.map (fun i=>cs.map (f i)) rs)=rs.map fun i=>cs.map (f i):=List.take_of_length_le (by simp)
 simp(disch:=omega) only[kd,Tryz.results132,List.take_length,eT,slM]
abbrev pb:List AV:=[.raw (.slice none 0 0)]
theorem jh {α:Type} {A:List α} {x:α} {l:List α} {i:Nat} (h:A.length=i):(A++x::l)[i]?=some x:=by
 rw[List.getElem?_append_right (by omega),h,Nat.sub_self];rfl
theorem ji {α:Type} {A:List α} {x y:α} {l:List α} {i:Nat} (h:A.length=i):(A++x::l).set i y=A++y::l:=by
 rw[List.set_append_right _ _ (by omega),h,Nat.sub_self];rfl
theorem J1 (k:Nat->Nat->Bool) (R:List (List Int)):(R.map mn).map (gS k)=R.map mn:=by
 rw[List.map_map];exact List.map_congr_left fun r _=>by simp[gS,mn,yb]
theorem vr (d i c:Nat):(fO d (ae i c)).map (List.map (bM fun x y=>x==d&&y==i+1))=fO d (ae i c):=by
 apply List.ext_getElem?;intro k;rw[ax];by_cases h:k<i
 ·rw[bK d c h];have:k≠i:=by omega
  simp[bM,this]
 rw[aq (by rw[cq,aw];omega)];rfl
def LF (d n c:Nat) (f:FF) (i:Nat):List OObj:=⟨84,1,fO d (ae i c)++ae (n-i) pb⟩::(mat i c f).map mn
def PK (d n c:Nat) (f:FF) (i j:Nat):List OObj:=⟨84,1,fO d (ae i c)++[.sl d (i+1) 0 (j+1)]::ae (n-i-1) pb⟩::((mat i c f).map mn++[mn (bz (j+1) (f i))])
def QE (d n c:Nat) (f:FF) (i:Nat):Nat->List OObj
 |0=>LF d n c f i
 |j+1=>PK d n c f i j
theorem uo (i c:Nat) (f:FF):mat (i+1) c f=mat i c f++[bz c (f i)]:=by simp[mat,List.range_succ]
theorem oh (j:Nat) (g:Nat->Int):bz (j+1) g=bz j g++[g j]:=by simp[bz,List.range_succ]
theorem OD {d n c i:Nat} (f:FF) (hc:1<=c) (hi:i<n):QE d n c f i c=LF d n c f (i+1):=by
 obtain⟨j,rfl⟩: ∃j,c=j+1:=⟨c-1,by omega⟩;show PK d n (j+1) f i j=_;unfold PK LF;rw[uo,List.replicate_succ' (n:=i),ni,aw];simp[Nat.sub_sub]
theorem OC (d n c:Nat) (f:FF):LF d n c f n=gK d n c f:=by
 unfold LF;simp
theorem LG {d n c i:Nat} (f:FF) (hi:i<n):LF d n c f i=⟨84,1,fO d (ae i c)++pb::ae (n-i-1) pb⟩::(mat i c f).map mn:=by
 unfold LF;rw[show n-i=n-i-1+1 by omega,List.replicate_succ];rfl
theorem G4 (n c:Nat) (f:FF) (hn:n<=17) (hc1:1<=c) (hc:c<=17) (hf: ∀i j,i<n->j<c->Bg (f i j)):
  CallC Tryz.prog 54 [slM (mat n c f)] ⟨gK 0 n c f,.one (.sl 0 0 0 n)⟩:=by
 have hml:=aU n c f;refine aI Tryz.func54 rfl (by kernel_rfl) ?_;rw[Tryz.ntmps54];refine aC fun _ K=>?_;simp only[kd,slM,ae];apply K
 refine aC fun _ K=>?_;simp(disch:=omega) only[kd,aa,hml];apply K
 refine aD (aC fun _ K=>?_);simp only[kd,aa,hml];apply K;refine aT (G:=jP n) (fun g=>⟨(slM (mat n c f)::jk::.raw (.slice none 0 0)::.one (.sl 9 0 0 n)::j4 (jk::jk::jk::rN n::rN g.i::j16 (j4 (j4 (jk::[]))))),Hm [(9,LF 9 n c f g.i)]⟩) (fun g=>n-g.i) ⟨0,by omega⟩ ?_ ?_
 ·refine aE ⟨?_,trivial⟩ ?_
  ·show[_]=_;simp[LF,fO,mat]
  simp[wk]
 rintro⟨i,hi⟩;simp only;by_cases hm:i<n
 ·have hrow:=bs c f hm;have hmi:=aU i c f;have hsl:(fO 9 (ae i c)).length=i:=by rw[cq,aw]
  have hrl:((mat i c f).map mn).length=i:=by rw[List.length_map,hmi]
  refine aC fun _ K=>?_;simp(disch:=omega) only[kd,slM];apply K
  refine bu rfl ?_;refine aD (aJ ?_);refine aC fun _ K=>?_;simp only[kd];apply K
  refine aC fun _ K=>?_;simp(disch:=omega) only[kd,aa,hrow,fR,bv];apply K
  refine aT (G:=jP c) (fun g=>⟨(slM (mat n c f)::jk::.raw (.slice none 0 0)::.one (.sl 9 0 0 n)::rN i::j4 (jk::jk::rN n::rN i::j4 (jk::.one (.p (.sl (ls fZ (bz c (f i)))))::rN c::rN g.i::j16 (jk::[])))),Hm [(9,QE 9 n c f i g.i)]⟩) (fun g=>c-g.i) ⟨0,by omega⟩ ?_ ?_
  ·refine aE ⟨rfl,trivial⟩ ?_;simp[wk]
  rintro⟨j,hj⟩;simp only;by_cases hm2:j<c
  ·have hent:=aR (f i) hm2;have hN:=Ja (f i j) (hf i j hm hm2);cases j with
   |zero=>
    rw[QE,LG f hm];refine aC fun _ K=>?_;simp(disch:=omega) only[kd,slM];apply K
    refine bu rfl ?_;refine aD (aJ ?_);refine aC fun _ K=>?_;simp(disch:=omega) only[kd,aa,hent,fZ,ab];apply K
    refine d8 aW [⟨7,_,_,_,hN⟩] [] (by kernel_rfl) fun _ K=>?_;simp(disch:=omega) only[kd,tZ,aa,ab,jh hsl,Nat.reduceMul,ah,ji hsl,hmi,af];apply K
    show bf _ _ _ _;refine aL fun _ K=>?_;simp(disch:=omega) only[kd,aO];apply K
    refine⟨⟨1,by omega⟩,by simp only;omega,aE ⟨?_,trivial⟩ ?_⟩
    ·rfl
    simp[wk]
   |succ j=>
    have h01:(0==i+1)=false:=by simp
    rw[QE,PK];refine aC fun _ K=>?_;simp(disch:=omega) only[kd,slM];apply K
    refine bu rfl ?_;refine aD (aJ ?_);refine aC fun _ K=>?_;simp(disch:=omega) only[kd,aa,hent,fZ,ab];apply K
    refine d8 aW [⟨7,_,_,_,hN⟩] [] (by kernel_rfl) fun _ K=>?_;simp(disch:=omega) only[kd,tZ,aa,mn,ab,jh hsl,Nat.reduceMul,ah,jh hrl,bv,List.map_append,vr,List.map_replicate,J1,ug,ji hrl,h01,af,ji hsl,reduceCtorEq,List.length_append,hrl];apply K
    show bf _ _ _ _;refine aL fun _ K=>?_;simp(disch:=omega) only[kd,aO];apply K
    refine⟨⟨j+1+1,by omega⟩,by simp only;omega,aE ⟨?_,trivial⟩ ?_⟩
    ·show _=PK 9 n c f i (j+1);rw[PK,mn,oh (j+1)];rfl
    simp[wk]
  have hjc:j=c:=by omega
  subst hjc;refine aC fun _ K=>?_;simp(disch:=omega) only[kd,slM];apply K
  refine bD rfl ?_;show bf _ _ _ _;rw[OD f hc1 hm];refine aL fun _ K=>?_;simp(disch:=omega) only[kd,aO];apply K
  refine⟨⟨i+1,by omega⟩,by simp only;omega,aE ⟨rfl,trivial⟩ ?_⟩;simp[wk]
 have hin:i=n:=by omega
 subst hin;refine aC fun _ K=>?_;simp(disch:=omega) only[kd,slM];apply K
 refine bD rfl ?_;show bf _ _ _ _;rw[OC];refine aC fun _ K=>?_;simp only[kd];apply K
 refine aH ⟨.inr rfl,_,b8.refl _,?_⟩;refine⟨.one (.sl 9 0 0 i),9,?_,rfl,?_,rfl⟩
 ·simp(disch:=omega) only[kd,Tryz.results54]
 exact(gu 9 0 _ _ _).symm
end Go.Proofs.YtfgeomlagfomgaaGreatDoor
