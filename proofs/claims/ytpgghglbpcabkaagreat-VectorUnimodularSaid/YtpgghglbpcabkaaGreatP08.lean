/-
  Part 9 of a proof (walks and plain facts).
-/
import Derived.Test.YtpgghglbpcabkaaGreatP07
set_option linter.all false
set_option maxRecDepth 100000
set_option maxHeartbeats 64000000
namespace Go.Proofs.YtpgghglbpcabkaaGreat
open Go.RowKit
theorem xx {a b:Nat} (h:b<=a):0<=fg a b:=by unfold fg;split<;>(try split)<;>omega
theorem zZ {a b:Nat} (h:a<b):fg a b<0:=by rw[jU h];decide
abbrev tU (a b:Nat):TV:= .tup [(false,[.p (.sl (ls fU (aK (a/b))))]),(false,[.p (.sl (ls fU (aK (a%b))))])]
theorem kP {a b:Nat} (h:a<=b):(aK a).length<=(aK b).length:=fO (aY _) (cw _) (by rw[aG,aG];exact h)
theorem zI (a b:Nat) (hb:0<b) (la:(aK a).length<=536870912) (lb:(aK b).length<=536870912):CallC Tryz.prog 161 [bO (aK a),bO (aK b)] ⟨[],tU a b⟩:=by
 by_cases hs:(aK a).length<=2/\(aK b).length<=2
 ·obtain⟨sa,sb⟩:=hs
  have ua:=fN sa
  have ub:=fN sb
  have h1:=DD (aK a) (aY _) (by omega)
  have h2:=DD (aK b) (aY _) (by omega)
  rw[List.take_of_length_le sa,aG]at h1
  rw[List.take_of_length_le sb,aG]at h2
  have hq:a/b<=a:=Nat.div_le_self _ _
  have hr:a%b<b:=Nat.mod_lt _ hb
  have h3:=sc false (a/b) (by omega)
  have h4:=sc false (a%b) (by omega)
  rw[show eY false (a/b)=((a/b:Nat):Int)from rfl]at h3
  rw[show eY false (a%b)=((a%b:Nat):Int)from rfl]at h4
  have hb0:(b:Int)≠0:=by omega
  have e1:IntKind.u64.wrap (Int.tdiv (a:Int) (b:Int))=((a/b:Nat):Int):=by
   rw[Int.tdiv_eq_ediv_of_nonneg (by omega),<- Int.natCast_ediv];generalize a/b=q at*;rw[IntKind.wrap_u64];omega
  have e2:Int.tmod (a:Int) (b:Int)=((a%b:Nat):Int):=by
   rw[Int.tmod_eq_emod_of_nonneg (by omega),<- Int.natCast_emod]
  unfold tU
  generalize a/b=q at*
  generalize a%b=r at*
  refine aC Tryz.func161 rfl (by kernel_rfl) ?_;rw[Tryz.ntmps161]
  (refine aa [] fun K hK=>?_;simp(disch:=omega) only[kc,ab,bO,Nat.reduceAdd,List.replicate,ac,Value.oneCell'];apply hK)
  (refine ae (aa [] fun K hK=>?_);simp(disch:=omega) only[kc,ab,Nat.reduceAdd,aq,ao,ah,aD,aj,ac,Value.oneCell',ai,bE,aA,bL,aM];apply hK)
  refine af rfl (fun _=>?_) (fun h=>by simp at h<;>omega)
  (refine aa [⟨1,_,_,_,h1⟩,⟨3,_,_,_,h2⟩] fun K hK=>?_;simp(disch:=omega) only[kc,bO,ar.a,ab,Nat.reduceAdd,ak,aT,aI,List.find?_cons,aQ,bo,CallRes.plain,aR,aV,az,noRefTV,ap,aS,aP,Nat.reduceBEq];apply hK)
  (refine bM bU [⟨3,_,_,_,h3⟩,⟨8,_,_,_,h4⟩] [] (by kernel_rfl) (by simp) fun K hK=>?_;simp(disch:=omega) only[kc,tZ,bj,Int.natAbs_natCast,ar.a,ab,Nat.reduceAdd,aj,ai,ne_eq,hb0,not_false_eq_true,e1,ak,aT,aI,List.find?_cons,aQ,ac,Value.oneCell',bo,CallRes.plain,aR,aV,az,noRefTV,ap,aS,aP,ym,ao,bH,ax,cb,bW,e2,Nat.reduceBEq];apply hK)
  (refine aE ⟨.inr rfl,aJ rfl ?_ rfl⟩;simp(disch:=omega) only[bK,Tryz.results161,dc,aN,List.getElem?_cons_succ,List.getElem?_cons_zero,Option.bind_some,b7,Option.map_some])
 ·refine aC Tryz.func161 rfl (by kernel_rfl) ?_;rw[Tryz.ntmps161]
  (refine aa [] fun K hK=>?_;simp(disch:=omega) only[kc,ab,bO,Nat.reduceAdd,List.replicate,ac,Value.oneCell'];apply hK)
  by_cases h3:(aK a).length<=2
  all_goals
   ((first|refine aa [] fun K hK=>?_|refine ae (aa [] fun K hK=>?_)|refine ae (ae (aa [] fun K hK=>?_)));simp(disch:=omega) only[kc,ab,Nat.reduceAdd,aq,ao,ah,aD,aj,ac,Value.oneCell',ai,bE,aA,bL,bj,aM,Option.map_none];apply hK)
   refine af rfl (fun h=>by simp at h<;>omega) (fun _=>ay ?_)
   show bX _ _ _ _
   ((first|refine aa [] fun K hK=>?_|refine ae (aa [] fun K hK=>?_)|refine ae (ae (aa [] fun K hK=>?_)));simp(disch:=omega) only[kc,ab,Nat.reduceAdd,aq,ao,ah,aD,ca,aT,aI,cp,aO,dz,Int.natCast_nonneg,Value.oneCell',and_true,iV,bL];apply hK)
   ((first|refine aa [] fun K hK=>?_|refine ae (aa [] fun K hK=>?_)|refine ae (ae (aa [] fun K hK=>?_)));simp(disch:=omega) only[kc,ab,Nat.reduceAdd,aq,ao,ah,aD,aj,ac,Value.oneCell',ai,bC];apply hK)
   refine bT (G:=DL a b (aK a).length) (fun g=>⟨[bO (aK a),bO (aK b),jk,jk,.one (.sl 33 0 0 (aK a).length),bO (aK (a/2^g.t%b)),jk,jk,.raw (.int .i64 ((g.t:Int)-1)),jk,jk,jk,jk,jk,jk,jk,jk,jk,jk,jk,jk,jk,jk,jk,jk,jk,jk,jk,jk,jk,jk,jk,jk,jk,jk,jk,jk,jk,jk,jk,jk,jk,jk,jk,jk,jk,jk,jk,jk,jk,jk,jk,jk,jk,jk,jk,jk,jk,jk,jk,jk,jk,jk,jk,jk,jk,jk,jk,jk,jk,jk,jk,jk,jk,jk],Hm [(33,[⟨118,1,lc fU g.O⟩])]⟩) (fun g=>g.t) ⟨32*(aK a).length,List.replicate (aK a).length 0,by omega,by simp,fun x hx=>by simp at hx;omega,by rw[oU,qP rfl];simp⟩ ?_ ?_
   ·refine(lC (k:=5) (d:=900) 118 1 (by omega) rfl rfl).trans ((d4 900 (dL (f:=fU) (l:=[]) rfl)).trans (am ⟨rfl,trivial⟩ ?_))
    simp[cu,bD,bA,gR,eX,qP rfl,cD]
    rfl
   ·rintro⟨t,O,ht,len,lmb,val⟩
    simp only
    cases t with
    |zero=>
     have htr:=gL O (by omega)
     rw[dU lmb,val]at htr
     simp only[Nat.pow_zero,Nat.div_one,Nat.mul_one]at htr
     simp only[Nat.pow_zero,Nat.div_one]
     ((first|refine aa [] fun K hK=>?_|refine ae (aa [] fun K hK=>?_)|refine ae (ae (aa [] fun K hK=>?_)));simp(disch:=omega) only[kc,ab,bO,Hm,aj,ac,Value.oneCell',ai,bj];apply hK)
     refine af rfl (fun h=>by simp at h<;>omega) (fun _=>bF ?_)
     show bX _ _ _ _
     refine bX.weak (d4 33 (dL rfl)) ?_
     have eT:List.take (aK a).length O=O:=List.take_of_length_le (by omega)
     simp(disch:=omega) only[kc,gR,eX,bL,ew,eT,d8]
     ((first|refine aa [⟨1,_,_,_,htr⟩] fun K hK=>?_|refine ae (aa [⟨1,_,_,_,htr⟩] fun K hK=>?_)|refine ae (ae (aa [⟨1,_,_,_,htr⟩] fun K hK=>?_)));simp(disch:=omega) only[kc,bO,ar.a,ab,Nat.reduceAdd,ak,aT,aI,List.find?_cons,aQ,bo,CallRes.plain,aR,aV,az,noRefTV,ap,aS,aP];apply hK)
     (refine aE ⟨.inr rfl,aJ rfl ?_ rfl⟩;simp(disch:=omega) only[bK,Tryz.results161,dc,aN,List.getElem?_cons_succ,List.getElem?_cons_zero,Option.bind_some,b7,Option.map_some])
    |succ k=>
     have ek:((k+1:Nat):Int)-1=(k:Int):=by omega
     simp only[ek]
     have hki:k/32<(aK a).length:=by omega
     obtain⟨x,hx⟩:=getElem?_of_lt hki
     have hx':=ct (aY a) hx
     obtain⟨y,hy⟩:=getElem?_of_lt (show k/32<O.length by omega)
     have hy':=ct lmb hy
     have hbit:=yj hx
     have hq:IntKind.i64.wrap (Int.tdiv (k:Int) 32)=((k/32:Nat):Int):=by
      rw[Int.tdiv_eq_ediv_of_nonneg (by omega),IntKind.wrap_i64];omega
     have hr:Int.tmod (k:Int) 32=((k%32:Nat):Int):=by rw[Int.tmod_eq_emod_of_nonneg (by omega)];omega
     have hmin:min (k%32) IntKind.u32.bits=k%32:=by show min (k%32) 32=_;omega
     have e1:Int.fdiv (x:Int) (2^min (k%32) IntKind.u32.bits)=((x/2^(k%32):Nat):Int):=by
      rw[hmin,Int.fdiv_eq_ediv_of_nonneg _ (Int.pow_nonneg (by omega)),Int.natCast_ediv,Int.natCast_pow];rfl
     have hxl:x/2^(k%32)<=x:=Nat.div_le_self _ _
     have e2:IntKind.u32.wrap (((BitVec.ofInt IntKind.u32.bits ((x/2^(k%32):Nat):Int)&&&BitVec.ofInt IntKind.u32.bits (1:Int)).toNat:Nat):Int)=((a/2^k%2:Nat):Int):=by
      rw[<- hbit,<- Nat.and_one_is_mod]
      exact EL (x/2^(k%32)) 1 (by omega) (by omega)
     have hbl:a/2^k%2<2:=Nat.mod_lt _ (by omega)
     have hrb:a/2^(k+1)%b<b:=Nat.mod_lt _ hb
     have lr:=kP (Nat.le_of_lt hrb)
     have h1:=Ax (aK (a/2^(k+1)%b)) (a/2^k%2) (aY _) (by omega) (by omega)
     have h2:=gL (dblL (aK (a/2^(k+1)%b)) (a/2^k%2)) (by rw[tP];omega)
     rw[dU (tB _ _ (aY _) (by omega)),qV _ _ (aY _) (by omega),aG]at h2
     by_cases hge:b<=2*(a/2^(k+1)%b)+a/2^k%2
     ·obtain⟨g',q1,q2⟩:=CI hb ht len lmb val hge hy
      have hrest:=(zF hb hge).2
      have lr':=gB (n:=2*(a/2^(k+1)%b)+a/2^k%2) (k:=(aK b).length+1) (by
       have:=eO (aY b)
       rw[aG]at this
       have hlt: ∀r e P:Nat,r<b->e<2->b<P->2*r+e<P*4294967296:=by intros;omega
       exact Nat.lt_of_lt_of_le (hlt _ _ _ hrb hbl this) (Nat.le_of_eq (Nat.pow_succ ..).symm))
      generalize 2*(a/2^(k+1)%b)+a/2^k%2=R at*
      have h3:=wP (aK R) (aK b) (aY _) (aY _) (cw _) (cw _) (by omega) (by omega)
      rw[aG,aG]at h3
      have hc:=xx hge
      have h4:=i6 (aK R) (aK b) (aY _) (aY _) (by omega) (by omega)
      have h5:=gL (diffL (aK R) (aK b) 0) (by rw[gE];omega)
      have hd:=fE (aK R) (aK b) 0 (aY _) (aY _) (by omega) (kP hge) (by rw[aG,aG];exact hge)
      rw[aG,aG]at hd
      rw[dU (gu _ _ _),show natV (diffL (aK R) (aK b) 0)=a/2^k%b by omega]at h5
      have hp2:2^(k%32)<4294967296:=Nat.pow_lt_pow_right (a:=2) (n:=32) (by omega) (Nat.mod_lt _ (by omega))
      have e3:IntKind.u32.wrap (1*2^min (k%32) IntKind.u32.bits)=((2^(k%32):Nat):Int):=by
       rw[hmin,Int.one_mul,show((2:Int)^(k%32))=((2^(k%32):Nat):Int) by rw[Int.natCast_pow];rfl,nB,Nat.mod_eq_of_lt hp2]
      have e4:=E5 y (2^(k%32)) hy' hp2
      ((first|refine aa [] fun K hK=>?_|refine ae (aa [] fun K hK=>?_)|refine ae (ae (aa [] fun K hK=>?_)));simp(disch:=omega) only[kc,ab,bO,Hm,aj,ac,Value.oneCell',ai,Int.natCast_nonneg,bE];apply hK)
      refine af rfl (fun _=>ay ?_) (fun h=>by simp at h<;>omega)
      refine ae (aU ?_)
      ((first|refine aa [⟨10,_,_,_,h1⟩,⟨11,_,_,_,h2⟩] fun K hK=>?_|refine ae (aa [⟨10,_,_,_,h1⟩,⟨11,_,_,_,h2⟩] fun K hK=>?_)|refine ae (ae (aa [⟨10,_,_,_,h1⟩,⟨11,_,_,_,h2⟩] fun K hK=>?_)));simp(disch:=omega) only[kc,bO,ar.a,ab,Nat.reduceAdd,aj,ac,Value.oneCell',ai,hq,bL,ag,ao,an,ah,bI,hx,fU,aO,ax,bu,hr,Int.natCast_nonneg,e1,e2,ak,aT,aI,List.find?_cons,aQ,bo,CallRes.plain,aR,aV,az,noRefTV,ap,aS,aP,Nat.reduceBEq];apply hK)
      ((first|refine aa [⟨2,_,_,_,h3⟩] fun K hK=>?_|refine ae (aa [⟨2,_,_,_,h3⟩] fun K hK=>?_)|refine ae (ae (aa [⟨2,_,_,_,h3⟩] fun K hK=>?_)));simp(disch:=omega) only[kc,bO,ar.a,ab,Nat.reduceAdd,ak,aT,aI,List.find?_cons,aQ,bo,CallRes.plain,aR,aV,az,noRefTV,ap,aS,aP,aj,ac,Value.oneCell',ai,bE];apply hK)
      refine af rfl (fun _=>?_) (fun h=>by simp at h<;>omega)
      ((first|refine aa [⟨2,_,_,_,h4⟩,⟨3,_,_,_,h5⟩] fun K hK=>?_|refine ae (aa [⟨2,_,_,_,h4⟩,⟨3,_,_,_,h5⟩] fun K hK=>?_)|refine ae (ae (aa [⟨2,_,_,_,h4⟩,⟨3,_,_,_,h5⟩] fun K hK=>?_)));simp(disch:=omega) only[kc,bO,ar.a,ab,Nat.reduceAdd,ak,aT,aI,List.find?_cons,aQ,bo,CallRes.plain,aR,aV,az,noRefTV,ap,aS,aP,Nat.reduceBEq];apply hK)
      ((refine fB bU [] [] (by kernel_rfl) (by simp) fun K hK=>?_);simp(disch:=omega) only[kc,ab,Nat.reduceAdd,aj,ac,Value.oneCell',ai,hq,bL,ag,ao,an,ah,aO,b8,fU,hy,ax,bu,hr,Int.natCast_nonneg,e3,e4,aB,dr,bN,cellsOf,Nat.le_refl,isPure,putCells,dy,aH,aL];apply hK)
      show bX _ _ _ _
      ((refine aX [] [] (by simp) fun K hK=>?_);simp(disch:=omega) only[kc,ab,Nat.reduceAdd,aj,ac,Value.oneCell',ai,bC];apply hK)
      refine⟨g',by omega,am ⟨by rw[q2];rfl,trivial⟩ ?_⟩
      simp[cu,bD,bA,q1]
     ·obtain⟨g',q1,q2⟩:=C8 hb ht len lmb val (by omega)
      have hrest:=(Au (a:=a) (k:=k) hb (by omega)).2
      rw[<- hrest]at h2 hge
      have lr':=kP (Nat.le_of_lt (Nat.mod_lt (a/2^k) hb))
      have h3:=wP (aK (a/2^k%b)) (aK b) (aY _) (aY _) (cw _) (cw _) (by omega) (by omega)
      rw[aG,aG]at h3
      have hc:=zZ (a:=a/2^k%b) (b:=b) (by omega)
      ((first|refine aa [] fun K hK=>?_|refine ae (aa [] fun K hK=>?_)|refine ae (ae (aa [] fun K hK=>?_)));simp(disch:=omega) only[kc,ab,bO,Hm,aj,ac,Value.oneCell',ai,Int.natCast_nonneg,bE];apply hK)
      refine af rfl (fun _=>ay ?_) (fun h=>by simp at h<;>omega)
      refine ae (aU ?_)
      ((first|refine aa [⟨10,_,_,_,h1⟩,⟨11,_,_,_,h2⟩] fun K hK=>?_|refine ae (aa [⟨10,_,_,_,h1⟩,⟨11,_,_,_,h2⟩] fun K hK=>?_)|refine ae (ae (aa [⟨10,_,_,_,h1⟩,⟨11,_,_,_,h2⟩] fun K hK=>?_)));simp(disch:=omega) only[kc,bO,ar.a,ab,Nat.reduceAdd,aj,ac,Value.oneCell',ai,hq,bL,ag,ao,an,ah,bI,hx,fU,aO,ax,bu,hr,Int.natCast_nonneg,e1,e2,ak,aT,aI,List.find?_cons,aQ,bo,CallRes.plain,aR,aV,az,noRefTV,ap,aS,aP,Nat.reduceBEq];apply hK)
      ((first|refine aa [⟨2,_,_,_,h3⟩] fun K hK=>?_|refine ae (aa [⟨2,_,_,_,h3⟩] fun K hK=>?_)|refine ae (ae (aa [⟨2,_,_,_,h3⟩] fun K hK=>?_)));simp(disch:=omega) only[kc,bO,ar.a,ab,Nat.reduceAdd,ak,aT,aI,List.find?_cons,aQ,bo,CallRes.plain,aR,aV,az,noRefTV,ap,aS,aP,aj,ac,Value.oneCell',ai,bj];apply hK)
      refine af rfl (fun h=>by simp at h<;>omega) (fun _=>ay ?_)
      show bX _ _ _ _
      ((refine aX [] [] (by simp) fun K hK=>?_);simp(disch:=omega) only[kc,ab,Nat.reduceAdd,aj,ac,Value.oneCell',ai,bC];apply hK)
      refine⟨g',by omega,am ⟨by rw[q2];rfl,trivial⟩ ?_⟩
      simp[cu,bD,bA,q1]
theorem zt {P:Program} {p q t n:Nat} (h:iT P t=some n) (hn:n≠1): ∀x∈[(p,q,t)],iT P x.2.2≠some 1:=fun x hx=>by
 have:x=(p,q,t):=by simpa using hx
 subst this
 rw[h]
 intro h'
 injection h' with h'
 exact hn h'
theorem vT {s:AS} {p q t a r i j b r' i' j':Nat} (h1:s.tmps[p]?=some (.one (.ptr a r i j))) (h2:s.tmps[q]?=some (.one (.ptr b r' i' j'))) (hne:b≠a):tE [(p,q,t)] s:=fun x hx a2 r2 i2 j2 b2 r3 i3 j3 g1 g2=>by
 have:x=(p,q,t):=by simpa using hx
 subst this
 simp only[h1]at g1
 simp only[h2]at g2
 injection g1 with g1;injection g1 with g1;injection g1 with g1
 injection g2 with g2;injection g2 with g2;injection g2 with g2
 subst g1 g2
 exact hne
def tq (a b:Int):Int:=eY (!(decide (a<0)==decide (b<0))) (a.natAbs/b.natAbs)
def tr (a b:Int):Int:=eY (decide (a<0)) (a.natAbs%b.natAbs)
theorem y7 (a b:Int):tr a b+b*tq a b=a:=by
 have h:=Nat.div_add_mod a.natAbs b.natAbs
 have h':(b.natAbs:Int)*((a.natAbs/b.natAbs:Nat):Int)+((a.natAbs%b.natAbs:Nat):Int)=(a.natAbs:Int):=by
  have:=congrArg (Nat.cast (R:=Int)) h
  simpa using this
 unfold tq tr eY
 generalize a.natAbs/b.natAbs=q at*
 generalize a.natAbs%b.natAbs=r at*
 by_cases ha:a<0<;>by_cases hb:b<0
 ·rw[decide_eq_true ha,decide_eq_true hb]
  show -(r:Int)+b*(q:Int)=a
  rw[show(b.natAbs:Int)= -b by omega,show(a.natAbs:Int)= -a by omega,Int.neg_mul]at h';omega
 ·rw[decide_eq_true ha,decide_eq_false hb]
  show -(r:Int)+b* -(q:Int)=a
  rw[show(b.natAbs:Int)=b by omega,show(a.natAbs:Int)= -a by omega]at h';rw[Int.mul_neg];omega
 ·rw[decide_eq_false ha,decide_eq_true hb]
  show(r:Int)+b* -(q:Int)=a
  rw[show(b.natAbs:Int)= -b by omega,show(a.natAbs:Int)=a by omega,Int.neg_mul]at h';rw[Int.mul_neg];omega
 ·rw[decide_eq_false ha,decide_eq_false hb]
  show(r:Int)+b*(q:Int)=a
  rw[show(b.natAbs:Int)=b by omega,show(a.natAbs:Int)=a by omega]at h';omega
theorem z6 (a b:Int):(tr a b).natAbs=a.natAbs%b.natAbs:=jw _ _
theorem AA (a b:Int):(tq a b).natAbs=a.natAbs/b.natAbs:=jw _ _
theorem wL {a b:Int} (hb:b≠0):(tr a b).natAbs<b.natAbs:=by rw[z6];exact Nat.mod_lt _ (by omega)
theorem u6 {a b:Int} (hb:b≠0) (h:0<=tr a b):a/b=tq a b/\a%b=tr a b:=by
 have h1:=y7 a b
 have h2:=wL (a:=a) hb
 rcases Int.lt_or_gt_of_ne hb with hn|hp
 ·exact(Int.ediv_emod_unique' hn).2 ⟨h1,h,by omega⟩
 ·exact(Int.ediv_emod_unique hp).2 ⟨h1,h,by omega⟩
theorem wy {a b:Int} (hb:b<0) (h:tr a b<0):a/b=tq a b+1/\a%b=tr a b+b.natAbs:=by
 have h1:=y7 a b
 have h2:=wL (a:=a) (b:=b) (by omega)
 refine(Int.ediv_emod_unique' hb).2 ⟨?_,by omega,by omega⟩
 rw[Int.mul_add,Int.mul_one];omega
theorem wl {a b:Int} (hb:0<b) (h:tr a b<0):a/b=tq a b-1/\a%b=tr a b+b.natAbs:=by
 have h1:=y7 a b
 have h2:=wL (a:=a) (b:=b) (by omega)
 refine(Int.ediv_emod_unique hb).2 ⟨?_,by omega,by omega⟩
 rw[Int.mul_sub,Int.mul_one];omega
theorem Sz.le {x y:Int} {k:Nat} (h:Sz y k) (hx:x.natAbs<=y.natAbs):Sz x k:=Nat.lt_of_le_of_lt hx h
theorem nR {k:Nat} (h:0<k):Sz 1 k:=by unfold Sz;exact Nat.one_lt_pow (by omega) (by decide)
theorem BB:Bh 1:=nR (by omega)
theorem Ap {z:Int} (h:z<0):sg z= -1:=by simp[sg,h]
theorem qN {z:Int} (h:0<=z):0<=sg z:=by unfold sg;split<;>(try split)<;>omega
theorem AL (a b:Int) (hb0:b≠0) (ha:Bh a) (hb:Bh b):CallC Tryz.prog 151 [tZ a,tZ b] ⟨[],.tup [(true,cZ (a/b)),(true,cZ (a%b)),(false,[.p (.raw (.bool true))])]⟩:=by
 have la:=ha.len
 have lb:=hb.len
 have t1:=gL (aK a.natAbs) ha.bg.len
 have t2:=gL (aK b.natAbs) hb.bg.len
 rw[fx]at t1 t2
 have hl0:(aK b.natAbs).length≠0:=fun h=>hb0 (by have:=eF.1 h;omega)
 have hd:=zI a.natAbs b.natAbs (by omega) la lb
 have bq:Bh (tq a b):=ha.le (by rw[AA];exact Nat.div_le_self _ _)
 have br:Bh (tr a b):=hb.le (Nat.le_of_lt (wL hb0))
 have hm1:=gK (!(decide (a<0)==decide (b<0))) (aK (a.natAbs/b.natAbs)) (aY _) (by have:=bq.bg.len;rwa[AA]at this)
 have hm2:=gK (decide (a<0)) (aK (a.natAbs%b.natAbs)) (aY _) (by have:=br.bg.len;rwa[z6]at this)
 rw[aG,show eY _ _=tq a b from rfl]at hm1
 rw[aG,show eY _ _=tr a b from rfl]at hm2
 have hs:=pb (tr a b) br.bg
 have p0:= @u6 a b hb0
 have p1:= @wy a b
 have p2:= @wl a b
 generalize tq a b=Q at*
 generalize tr a b=R at*
 by_cases hR:R<0
 ·have hm3:=gK false (aK b.natAbs) (aY _) (by omega)
  rw[aG,show eY false b.natAbs=((b.natAbs:Nat):Int)from rfl]at hm3
  have hA:=zl R (b.natAbs:Int) br (by unfold Bh Sz;rw[Int.natAbs_natCast];exact hb)
  have hs2:=pb b hb.bg
  have h1:=ns 1 (by omega) (by omega)
  rw[Ap hR]at hs
  by_cases hbn:b<0
  ·obtain⟨e1,e2⟩:=p1 hbn hR
   rw[e1,e2]
   rw[Ap hbn]at hs2
   have hA2:=zl Q 1 bq BB
   refine aC Tryz.func151 rfl (by kernel_rfl) ?_;rw[Tryz.ntmps151]
   (refine aa [] fun K hK=>?_;simp(disch:=omega) only[kc,ab,Nat.reduceAdd,tZ,bE,List.replicate,cd,aT,aI,cellsOf,isPure,bL,au,Nat.reduceEqDiff,bs,aZ,Value.oneCell',cH,ac];apply hK)
   (refine bM bU [⟨2,_,_,_,t1⟩,⟨5,_,_,_,t2⟩] [] (by kernel_rfl) (by simp) fun K hK=>?_;simp(disch:=omega) only[kc,bO,ar.a,ab,Nat.reduceAdd,aw,ao,bH,cb,au,Nat.reduceEqDiff,cH,ax,bW,ak,aT,aI,List.find?_cons,aQ,bo,CallRes.plain,aR,aV,az,noRefTV,ap,aS,aP,Nat.reduceBEq];apply hK)
   (refine ae (aa [] fun K hK=>?_);simp(disch:=omega) only[kc,ab,Nat.reduceAdd,aq,ao,ah,aD,aj,ac,Value.oneCell',ai,bj];apply hK)
   refine af rfl (fun h=>by simp at h<;>omega) (fun _=>ay ?_)
   show bX _ _ _ _
   (refine aa [⟨2,_,_,_,hd⟩] fun K hK=>?_;simp(disch:=omega) only[kc,bO,ar.a,ab,Nat.reduceAdd,ak,aT,aI,List.find?_cons,aQ,bo,CallRes.plain,aR,aV,az,noRefTV,ap,aS,aP,bz,aj];apply hK)
   (refine bM bU [⟨6,_,_,_,hm1⟩,⟨10,_,_,_,hm2⟩] [] (by kernel_rfl) (by simp) fun K hK=>?_;simp(disch:=omega) only[kc,bE,bO,tZ,ar.a,ab,Nat.reduceAdd,aw,ao,bJ,cC,Nat.add_zero,au,Nat.reduceEqDiff,cH,ax,cg,aj,ai,dK,ak,aT,aI,List.find?_cons,aQ,bo,CallRes.plain,aR,aV,az,noRefTV,ap,aS,aP,Nat.reduceBEq,bs,aZ,Value.oneCell',bL,aB,dr,bN,aF,cellsOf,Nat.le_refl,isPure,putCells,aH,aL];apply hK)
   refine bX.weak (am (tm:=[jk,jk,.one (.ptr 2 0 0 0),.one (.ptr 3 0 0 0),.one (.ptr 4 0 0 0),.one (.ptr 5 0 0 0),.raw (.bool false),jk,bO (aK b.natAbs),jk,jk,.one (.ptr 11 0 0 0),.one (.ptr 12 0 0 0),jk,jk,jk,jk,jk,jk,jk,jk,jk,jk,jk,jk,jk,jk,jk,jk,jk,jk,jk,jk,jk,jk,jk,jk,jk,jk,jk,jk,jk,jk,jk,jk,jk,jk,jk,jk,jk,jk,jk,jk,jk,jk,jk,jk,jk,jk,jk,jk]) (l:=[(2,sh (decide (a<0)) (aK a.natAbs)),(3,sh true (aK b.natAbs)),(4,pG),(5,pG),(11,sh (decide (Q<0)) (aK Q.natAbs)),(12,sh true (aK R.natAbs))]) ⟨rfl,rfl,rfl,rfl,rfl,rfl,trivial⟩ (by simp[cu,bD,bA])) ?_
   (refine ae (aa [⟨1,_,_,_,hs⟩] fun K hK=>?_);simp(disch:=omega) only[kc,tZ,bE,ar.a,ab,Nat.reduceAdd,bO,Hm,ao,Nat.reduceEqDiff,cH,ax,aF,aW,Nat.le_refl,ak,aT,aI,List.find?_cons,aQ,bo,CallRes.plain,aR,aV,az,isPure,noRefTV,ap,aS,aP,aj,ac,Value.oneCell',ai];apply hK)
   refine af rfl (fun _=>?_) (fun h=>by simp at h<;>omega)
   (refine bM bU [⟨2,_,_,_,hm3⟩,⟨3,_,_,_,hA⟩] [] (by kernel_rfl) (by simp) fun K hK=>?_;simp(disch:=omega) only[kc,bO,tZ,bj,bE,ar.a,ab,Nat.reduceAdd,ao,Nat.reduceEqDiff,cH,ax,aF,aW,Nat.le_refl,ak,aT,aI,List.find?_cons,aQ,ac,Value.oneCell',bo,CallRes.plain,aR,aV,az,noRefTV,ap,aS,aP,Nat.reduceBEq,isPure,aB,dr,bN,cellsOf,bL,putCells,aH,aL];apply hK)
   (refine ae (aa [⟨1,_,_,_,hs2⟩] fun K hK=>?_);simp(disch:=omega) only[kc,tZ,bE,ar.a,ab,Nat.reduceAdd,ao,au,Nat.reduceEqDiff,cH,ax,aF,aW,Nat.le_refl,ak,aT,aI,List.find?_cons,aQ,bo,CallRes.plain,aR,aV,az,isPure,noRefTV,ap,aS,aP,aj,ac,Value.oneCell',ai];apply hK)
   refine af rfl (fun _=>?_) (fun h=>by simp at h<;>omega)
   (refine oH [(12,4,53)] bU [⟨1,_,_,_,h1⟩,⟨2,_,_,_,hA2⟩] [] (by kernel_rfl) (zt (n:=2) (by simp only[aF,aW,aZ,bH,cb,bW,ah,n9,eI,bJ,cC,cg,dK]) (by decide)) (vT rfl rfl (by decide)) (by simp) fun K hK=>?_;simp(disch:=omega) only[kc,tZ,bj,ar.a,ab,Nat.reduceAdd,ao,au,Nat.reduceEqDiff,cH,ax,aF,aW,Nat.le_refl,ak,aT,aI,List.find?_cons,aQ,ac,Value.oneCell',bo,CallRes.plain,aR,aV,az,noRefTV,ap,aS,aP,Nat.reduceBEq,isPure,aB,dr,bN,cellsOf,bL,putCells,aH,aL];apply hK)
   (refine aE ⟨.inr rfl,aJ rfl ?_ rfl⟩;simp(disch:=omega) only[kc,bK,Tryz.results151,dc,aN,au,Nat.reduceEqDiff,cH,ax,aF,aW,Nat.reduceAdd,Nat.le_refl,b7,cZ])
  ·obtain⟨e1,e2⟩:=p2 (by omega) hR
   rw[e1,e2]
   have hs3:=qN (z:=b) (by omega)
   have hA2:=Dq Q 1 bq BB
   refine aC Tryz.func151 rfl (by kernel_rfl) ?_;rw[Tryz.ntmps151]
   (refine aa [] fun K hK=>?_;simp(disch:=omega) only[kc,ab,Nat.reduceAdd,tZ,bj,List.replicate,cd,aT,aI,cellsOf,isPure,bL,au,Nat.reduceEqDiff,bs,aZ,Value.oneCell',cH,ac];apply hK)
   (refine bM bU [⟨2,_,_,_,t1⟩,⟨5,_,_,_,t2⟩] [] (by kernel_rfl) (by simp) fun K hK=>?_;simp(disch:=omega) only[kc,bO,ar.a,ab,Nat.reduceAdd,aw,ao,bH,cb,au,Nat.reduceEqDiff,cH,ax,bW,ak,aT,aI,List.find?_cons,aQ,bo,CallRes.plain,aR,aV,az,noRefTV,ap,aS,aP,Nat.reduceBEq];apply hK)
   (refine ae (aa [] fun K hK=>?_);simp(disch:=omega) only[kc,ab,Nat.reduceAdd,aq,ao,ah,aD,aj,ac,Value.oneCell',ai,bj];apply hK)
   refine af rfl (fun h=>by simp at h<;>omega) (fun _=>ay ?_)
   show bX _ _ _ _
   (refine aa [⟨2,_,_,_,hd⟩] fun K hK=>?_;simp(disch:=omega) only[kc,bO,ar.a,ab,Nat.reduceAdd,ak,aT,aI,List.find?_cons,aQ,bo,CallRes.plain,aR,aV,az,noRefTV,ap,aS,aP,bz,aj];apply hK)
   (refine bM bU [⟨6,_,_,_,hm1⟩,⟨10,_,_,_,hm2⟩] [] (by kernel_rfl) (by simp) fun K hK=>?_;simp(disch:=omega) only[kc,bj,bO,tZ,bE,ar.a,ab,Nat.reduceAdd,aw,ao,bJ,cC,Nat.add_zero,au,Nat.reduceEqDiff,cH,ax,cg,aj,ai,dK,ak,aT,aI,List.find?_cons,aQ,bo,CallRes.plain,aR,aV,az,noRefTV,ap,aS,aP,Nat.reduceBEq,bs,aZ,Value.oneCell',bL,aB,dr,bN,aF,cellsOf,Nat.le_refl,isPure,putCells,aH,aL];apply hK)
   refine bX.weak (am (tm:=[jk,jk,.one (.ptr 2 0 0 0),.one (.ptr 3 0 0 0),.one (.ptr 4 0 0 0),.one (.ptr 5 0 0 0),.raw (.bool false),jk,bO (aK b.natAbs),jk,jk,.one (.ptr 11 0 0 0),.one (.ptr 12 0 0 0),jk,jk,jk,jk,jk,jk,jk,jk,jk,jk,jk,jk,jk,jk,jk,jk,jk,jk,jk,jk,jk,jk,jk,jk,jk,jk,jk,jk,jk,jk,jk,jk,jk,jk,jk,jk,jk,jk,jk,jk,jk,jk,jk,jk,jk,jk,jk,jk]) (l:=[(2,sh (decide (a<0)) (aK a.natAbs)),(3,sh false (aK b.natAbs)),(4,pG),(5,pG),(11,sh (decide (Q<0)) (aK Q.natAbs)),(12,sh true (aK R.natAbs))]) ⟨rfl,rfl,rfl,rfl,rfl,rfl,trivial⟩ (by simp[cu,bD,bA])) ?_
   (refine ae (aa [⟨1,_,_,_,hs⟩] fun K hK=>?_);simp(disch:=omega) only[kc,tZ,bE,ar.a,ab,Nat.reduceAdd,bO,Hm,ao,Nat.reduceEqDiff,cH,ax,aF,aW,Nat.le_refl,ak,aT,aI,List.find?_cons,aQ,bo,CallRes.plain,aR,aV,az,isPure,noRefTV,ap,aS,aP,aj,ac,Value.oneCell',ai];apply hK)
   refine af rfl (fun _=>?_) (fun h=>by simp at h<;>omega)
   (refine bM bU [⟨2,_,_,_,hm3⟩,⟨3,_,_,_,hA⟩] [] (by kernel_rfl) (by simp) fun K hK=>?_;simp(disch:=omega) only[kc,bO,tZ,bj,bE,ar.a,ab,Nat.reduceAdd,ao,Nat.reduceEqDiff,cH,ax,aF,aW,Nat.le_refl,ak,aT,aI,List.find?_cons,aQ,ac,Value.oneCell',bo,CallRes.plain,aR,aV,az,noRefTV,ap,aS,aP,Nat.reduceBEq,isPure,aB,dr,bN,cellsOf,bL,putCells,aH,aL];apply hK)
   (refine ae (aa [⟨1,_,_,_,hs2⟩] fun K hK=>?_);simp(disch:=omega) only[kc,tZ,bj,ar.a,ab,Nat.reduceAdd,ao,au,Nat.reduceEqDiff,cH,ax,aF,aW,Nat.le_refl,ak,aT,aI,List.find?_cons,aQ,bo,CallRes.plain,aR,aV,az,isPure,noRefTV,ap,aS,aP,aj,ac,Value.oneCell',ai];apply hK)
   refine af rfl (fun h=>by simp at h<;>omega) (fun _=>ay ?_)
   show bX _ _ _ _
   (refine oH [(12,4,53)] bU [⟨1,_,_,_,h1⟩,⟨2,_,_,_,hA2⟩] [] (by kernel_rfl) (zt (n:=2) (by simp only[aF,aW,aZ,bH,cb,bW,ah,n9,eI,bJ,cC,cg,dK]) (by decide)) (vT rfl rfl (by decide)) (by simp) fun K hK=>?_;simp(disch:=omega) only[kc,tZ,bj,ar.a,ab,Nat.reduceAdd,ao,au,Nat.reduceEqDiff,cH,ax,aF,aW,Nat.le_refl,ak,aT,aI,List.find?_cons,aQ,ac,Value.oneCell',bo,CallRes.plain,aR,aV,az,noRefTV,ap,aS,aP,Nat.reduceBEq,isPure,aB,dr,bN,cellsOf,bL,putCells,aH,aL];apply hK)
   (refine aE ⟨.inr rfl,aJ rfl ?_ rfl⟩;simp(disch:=omega) only[kc,bK,Tryz.results151,dc,aN,au,Nat.reduceEqDiff,cH,ax,aF,aW,Nat.reduceAdd,Nat.le_refl,b7,cZ])
 ·obtain⟨e1,e2⟩:=p0 (by omega)
  rw[e1,e2]
  have hs3:=qN (z:=R) (by omega)
  refine aC Tryz.func151 rfl (by kernel_rfl) ?_;rw[Tryz.ntmps151]
  (refine aa [] fun K hK=>?_;simp(disch:=omega) only[kc,ab,Nat.reduceAdd,tZ,List.replicate,cd,aT,aI,cellsOf,isPure,bL,au,Nat.reduceEqDiff,bs,aZ,Value.oneCell',cH,ac];apply hK)
  (refine bM bU [⟨2,_,_,_,t1⟩,⟨5,_,_,_,t2⟩] [] (by kernel_rfl) (by simp) fun K hK=>?_;simp(disch:=omega) only[kc,bO,ar.a,ab,Nat.reduceAdd,aw,ao,bH,cb,au,Nat.reduceEqDiff,cH,ax,bW,ak,aT,aI,List.find?_cons,aQ,bo,CallRes.plain,aR,aV,az,noRefTV,ap,aS,aP,Nat.reduceBEq];apply hK)
  (refine ae (aa [] fun K hK=>?_);simp(disch:=omega) only[kc,ab,Nat.reduceAdd,aq,ao,ah,aD,aj,ac,Value.oneCell',ai,bj];apply hK)
  refine af rfl (fun h=>by simp at h<;>omega) (fun _=>ay ?_)
  show bX _ _ _ _
  (refine aa [⟨2,_,_,_,hd⟩] fun K hK=>?_;simp(disch:=omega) only[kc,bO,ar.a,ab,Nat.reduceAdd,ak,aT,aI,List.find?_cons,aQ,bo,CallRes.plain,aR,aV,az,noRefTV,ap,aS,aP,bz,aj];apply hK)
  (refine bM bU [⟨6,_,_,_,hm1⟩,⟨10,_,_,_,hm2⟩] [] (by kernel_rfl) (by simp) fun K hK=>?_;simp(disch:=omega) only[kc,bO,tZ,bj,ar.a,ab,Nat.reduceAdd,aw,ao,bJ,cC,Nat.add_zero,au,Nat.reduceEqDiff,cH,ax,cg,aj,ai,dK,ak,aT,aI,List.find?_cons,aQ,bo,CallRes.plain,aR,aV,az,noRefTV,ap,aS,aP,Nat.reduceBEq,bs,aZ,Value.oneCell',bL,aB,dr,bN,aF,cellsOf,Nat.le_refl,isPure,putCells,aH,aL];apply hK)
  refine bX.weak (am (tm:=[jk,jk,.one (.ptr 2 0 0 0),.one (.ptr 3 0 0 0),.one (.ptr 4 0 0 0),.one (.ptr 5 0 0 0),.raw (.bool false),jk,bO (aK b.natAbs),jk,jk,.one (.ptr 11 0 0 0),.one (.ptr 12 0 0 0),jk,jk,jk,jk,jk,jk,jk,jk,jk,jk,jk,jk,jk,jk,jk,jk,jk,jk,jk,jk,jk,jk,jk,jk,jk,jk,jk,jk,jk,jk,jk,jk,jk,jk,jk,jk,jk,jk,jk,jk,jk,jk,jk,jk,jk,jk,jk,jk]) (l:=[(2,sh (decide (a<0)) (aK a.natAbs)),(3,sh (decide (b<0)) (aK b.natAbs)),(4,pG),(5,pG),(11,sh (decide (Q<0)) (aK Q.natAbs)),(12,sh false (aK R.natAbs))]) ⟨rfl,rfl,rfl,rfl,rfl,rfl,trivial⟩ (by simp[cu,bD,bA])) ?_
  (refine ae (aa [⟨1,_,_,_,hs⟩] fun K hK=>?_);simp(disch:=omega) only[kc,tZ,bj,ar.a,ab,Nat.reduceAdd,bO,Hm,ao,Nat.reduceEqDiff,cH,ax,aF,aW,Nat.le_refl,ak,aT,aI,List.find?_cons,aQ,bo,CallRes.plain,aR,aV,az,isPure,noRefTV,ap,aS,aP,aj,ac,Value.oneCell',ai];apply hK)
  refine af rfl (fun h=>by simp at h<;>omega) (fun _=>ay ?_)
  show bX _ _ _ _
  (refine oH [(12,4,53)] bU [] [] (by kernel_rfl) (zt (n:=2) (by simp only[aF,aW,aZ,bH,cb,bW,ah,n9,eI,bJ,cC,cg,dK]) (by decide)) (vT rfl rfl (by decide)) (by simp) fun K hK=>?_;simp(disch:=omega) only[kc,ab,Nat.reduceAdd,ao,Nat.reduceEqDiff,cH,ax,aF,aW,Nat.le_refl,aB,dr,bN,cellsOf,isPure,bL,putCells,aH,aL,au,ac,Value.oneCell'];apply hK)
  (refine aE ⟨.inr rfl,aJ rfl ?_ rfl⟩;simp(disch:=omega) only[kc,bK,Tryz.results151,dc,aN,au,Nat.reduceEqDiff,cH,ax,aF,aW,Nat.reduceAdd,Nat.le_refl,b7,cZ,bj])
theorem ER (a b:Int) (hb0:b≠0) (ha:Bh a) (hb:Bh b):CallC Tryz.prog 124 [tZ a,tZ b] ⟨[],tZ (a/b)⟩:=by
 have h1:=AL a b hb0 ha hb
 refine aC Tryz.func124 rfl (by kernel_rfl) ?_;rw[Tryz.ntmps124]
 (refine aa [] fun K hK=>?_;simp(disch:=omega) only[kc,ab,Nat.reduceAdd,tZ,List.replicate,cd,aT,aI,cellsOf,isPure,bL,au,Nat.reduceEqDiff,bs,aZ,Value.oneCell',cH];apply hK)
 (refine aa [⟨2,_,_,_,h1⟩] fun K hK=>?_;simp(disch:=omega) only[kc,tZ,cZ,ar.a,ab,Nat.reduceAdd,ao,au,Nat.reduceEqDiff,cH,ax,aF,aW,Nat.le_refl,ak,aT,aI,List.find?_cons,aQ,bo,CallRes.plain,aR,aV,az,isPure,noRefTV,ap,aS,aP,bz,aj,bs,aZ,Value.oneCell',bL,aB,dr,bN,cellsOf,putCells,aH,aL];apply hK)
 (refine aa [] fun K hK=>?_;simp(disch:=omega) only[kc,ab,ao,au,Nat.reduceEqDiff,cH,ax,aF,aW,Nat.reduceAdd,Nat.le_refl,aB,dr,bN,cellsOf,isPure,bL,putCells,aH,aL];apply hK)
 (refine aE ⟨.inr rfl,aJ rfl ?_ rfl⟩;simp(disch:=omega) only[kc,bK,Tryz.results124,aN,au,Nat.reduceEqDiff,cH,ax,aF,aW,Nat.reduceAdd,Nat.le_refl,tZ])
def fR {α:Type} (f:α->List PV) (r:List α):List PV:=[.sl (ls f r)]
abbrev em (M:List (List Int)):TV:= .one (.p (.sl (ls (fR fZ) M)))
abbrev rOk (n:Nat) (r:List Int):Prop:=1<=r.length/\r.length<=16/\r.length=n
def sf (M:List (List Int)):Prop:=1<=M.length/\M.length<=16/\ ∀r∈M,rOk (M.headD []).length r
instance (M:List (List Int)):Decidable (sf M):=by unfold sf;exact inferInstance
def Ef (M:List (List Int)):TV:=if sf M then .tup [(false,[.p (.raw (.int .i64 (M.length:Int)))]),(false,[.p (.raw (.int .i64 ((M.headD []).length:Int)))]),(false,[.p (.raw (.bool true))])]
 else .tup [(false,[.p (.raw (.int .i64 0))]),(false,[.p (.raw (.int .i64 0))]),(false,[.p (.raw (.bool false))])]
theorem eD {M:List (List Int)} (h: ¬sf M):Ef M= .tup [(false,[.p (.raw (.int .i64 0))]),(false,[.p (.raw (.int .i64 0))]),(false,[.p (.raw (.bool false))])]:=by unfold Ef;rw[if_neg h]
theorem iW {M:List (List Int)} (h:sf M):Ef M= .tup [(false,[.p (.raw (.int .i64 (M.length:Int)))]),(false,[.p (.raw (.int .i64 ((M.headD []).length:Int)))]),(false,[.p (.raw (.bool true))])]:=by unfold Ef;rw[if_pos h]
theorem fV {M:List (List Int)} (h:1<=M.length):M[0]?=some (M.headD []):=by cases M with
 |nil=>simp at h
 |cons r M=>rfl
structure Fx (M:List (List Int)) where
 i:Nat
 hi:i<=M.length
 ok: ∀r∈M.take i,rOk (M.headD []).length r
theorem Dj (M:List (List Int)):CallC Tryz.prog 69 [em M] ⟨[],Ef M⟩:=by
 by_cases h1:M.length<1
 ·rw[eD (fun h=>by have:=h.1;omega)]
  refine aC Tryz.func69 rfl (by kernel_rfl) ?_;rw[Tryz.ntmps69]
  (refine aa [] fun K hK=>?_;simp(disch:=omega) only[kc,ab,Nat.reduceAdd,em,List.replicate,ac,Value.oneCell'];apply hK)
  (refine ae (aa [] fun K hK=>?_);simp(disch:=omega) only[kc,ab,Nat.reduceAdd,aq,ao,be,aD,aj,ac,Value.oneCell',ai,bE,aA,reduceCtorEq,Option.map_none,aM];apply hK)
  refine af rfl (fun _=>?_) (fun h=>by simp at h<;>omega)
  (refine aa [] fun K hK=>?_;simp(disch:=omega) only[kc,ab,Nat.reduceAdd,ac,Value.oneCell'];apply hK)
  (refine aE ⟨.inr rfl,aJ rfl ?_ rfl⟩;simp(disch:=omega) only[bK,Tryz.results69,dc,aN,List.getElem?_cons_succ,List.getElem?_cons_zero,Option.bind_some,b7,Option.map_some])
 by_cases h2:16<M.length
 ·rw[eD (fun h=>by have:=h.2.1;omega)]
  refine aC Tryz.func69 rfl (by kernel_rfl) ?_;rw[Tryz.ntmps69]
  (refine aa [] fun K hK=>?_;simp(disch:=omega) only[kc,ab,Nat.reduceAdd,em,List.replicate,ac,Value.oneCell'];apply hK)
  (refine ae (aa [] fun K hK=>?_);simp(disch:=omega) only[kc,ab,Nat.reduceAdd,aq,ao,be,aD,aj,ac,Value.oneCell',ai,bj,aA,bL,bE,aM];apply hK)
  refine af rfl (fun _=>?_) (fun h=>by simp at h<;>omega)
  (refine aa [] fun K hK=>?_;simp(disch:=omega) only[kc,ab,Nat.reduceAdd,ac,Value.oneCell'];apply hK)
  (refine aE ⟨.inr rfl,aJ rfl ?_ rfl⟩;simp(disch:=omega) only[bK,Tryz.results69,dc,aN,List.getElem?_cons_succ,List.getElem?_cons_zero,Option.bind_some,b7,Option.map_some])
 have h0:=fV (M:=M) (by omega)
 refine aC Tryz.func69 rfl (by kernel_rfl) ?_;rw[Tryz.ntmps69]
 (refine aa [] fun K hK=>?_;simp(disch:=omega) only[kc,ab,Nat.reduceAdd,em,List.replicate,ac,Value.oneCell'];apply hK)
 (refine ae (aa [] fun K hK=>?_);simp(disch:=omega) only[kc,ab,Nat.reduceAdd,aq,ao,be,aD,aj,ac,Value.oneCell',ai,bj,aA,bL,aM];apply hK)
 refine af rfl (fun h=>by simp at h<;>omega) (fun _=>ay ?_)
 show bX _ _ _ _
 (refine ae (aa [] fun K hK=>?_);simp(disch:=omega) only[kc,ab,Nat.reduceAdd,aq,ao,be,aD,ac,Value.oneCell'];apply hK)
 refine bT (G:=Fx M) (fun g=>⟨[em M,jk,.raw (.int .i64 0),.raw (.int .i64 0),.raw (.bool false),jk,jk,jk,jk,jk,jk,jk,jk,jk,jk,em M,.raw (.int .i64 (M.length:Int)),.raw (.int .i64 (g.i:Int)),jk,jk,jk,jk,jk,jk,jk,jk,jk,jk,jk,jk,jk,jk,jk,jk,jk,jk,jk,jk,jk,jk,jk,jk,jk,jk,jk],Hm []⟩) (fun g=>M.length-g.i) ⟨0,by omega,fun r hr=>by simp at hr⟩ ?_ ?_
 ·refine am trivial ?_
  simp[cu,bD,bA]
 ·rintro⟨i,hi,ok⟩
  simp only
  by_cases hm:i<M.length
  ·obtain⟨r,hr⟩:=getElem?_of_lt hm
   have hmem:r∈M:=List.mem_of_getElem? hr
   (refine aa [] fun K hK=>?_;simp(disch:=omega) only[kc,ab,em,Hm,aj,ai,bE];apply hK)
   refine ae (af rfl (fun _=>ay ?_) (fun h=>by simp at h<;>omega))
   refine ae (aU ?_)
   (refine aa [] fun K hK=>?_;simp(disch:=omega) only[kc,ab,Nat.reduceAdd,ag,ao,an,be,bI,hr,fR,cj,ax,cq];apply hK)
   by_cases c1:r.length<1
   ·rw[eD (fun h=>by have:=(h.2.2 r hmem).1;omega)]
    (refine aa [] fun K hK=>?_;simp(disch:=omega) only[kc,ab,Nat.reduceAdd,aq,ao,bQ,aD,aj,ac,Value.oneCell',ai,bE,aA,reduceCtorEq,Option.map_none,aM,ag,an,Int.reduceToNat,be];apply hK)
    refine af rfl (fun _=>?_) (fun h=>by simp at h<;>omega)
    (refine aa [] fun K hK=>?_;simp(disch:=omega) only[kc,ab,Nat.reduceAdd,ac,Value.oneCell'];apply hK)
    (refine aE ⟨.inr rfl,aJ rfl ?_ rfl⟩;simp(disch:=omega) only[bK,Tryz.results69,dc,aN,List.getElem?_cons_succ,List.getElem?_cons_zero,Option.bind_some,b7,Option.map_some])
   by_cases c2:16<r.length
   ·rw[eD (fun h=>by have:=(h.2.2 r hmem).2.1;omega)]
    (refine aa [] fun K hK=>?_;simp(disch:=omega) only[kc,ab,Nat.reduceAdd,aq,ao,bQ,aD,aj,ac,Value.oneCell',ai,bj,aA,bL,bE,aM,reduceCtorEq,Option.map_none,ag,an,Int.reduceToNat,be];apply hK)
    refine af rfl (fun _=>?_) (fun h=>by simp at h<;>omega)
    (refine aa [] fun K hK=>?_;simp(disch:=omega) only[kc,ab,Nat.reduceAdd,ac,Value.oneCell'];apply hK)
    (refine aE ⟨.inr rfl,aJ rfl ?_ rfl⟩;simp(disch:=omega) only[bK,Tryz.results69,dc,aN,List.getElem?_cons_succ,List.getElem?_cons_zero,Option.bind_some,b7,Option.map_some])
   by_cases c3:r.length=(M.headD []).length
   ·(refine aa [] fun K hK=>?_;simp(disch:=omega) only[kc,ab,Nat.reduceAdd,aq,ao,bQ,aD,aj,ac,Value.oneCell',ai,bj,aA,bL,aM,ag,an,Int.reduceToNat,be,bI,h0,fR,cj,ax,cq,bE];apply hK)
    refine af rfl (fun h=>by simp at h<;>omega) (fun _=>ay ?_)
    show bX _ _ _ _
    ((refine aX [] [] (by simp) fun K hK=>?_);simp(disch:=omega) only[kc,ab,aj,ac,Value.oneCell',ai,bC];apply hK)
    refine⟨⟨i+1,by omega,fun r' hr'=>?_⟩,by simp only;omega,am trivial ?_⟩
    ·rw[List.take_add_one,hr]at hr'
     rcases List.mem_append.1 hr' with h|h
     ·exact ok r' h
     ·have:r'=r:=by simpa using h
      subst this
      exact⟨by omega,by omega,c3⟩
    ·simp[cu,bD,bA]
   ·rw[eD (fun h=>by have:=(h.2.2 r hmem).2.2;omega)]
    (refine aa [] fun K hK=>?_;simp(disch:=omega) only[kc,ab,Nat.reduceAdd,aq,ao,bQ,aD,aj,ac,Value.oneCell',ai,bj,aA,bL,aM,ag,an,Int.reduceToNat,be,bI,h0,fR,cj,ax,cq,Bool.not_false];apply hK)
    refine af rfl (fun _=>?_) (fun h=>by simp at h<;>omega)
    (refine aa [] fun K hK=>?_;simp(disch:=omega) only[kc,ab,Nat.reduceAdd,ac,Value.oneCell'];apply hK)
    (refine aE ⟨.inr rfl,aJ rfl ?_ rfl⟩;simp(disch:=omega) only[bK,Tryz.results69,dc,aN,List.getElem?_cons_succ,List.getElem?_cons_zero,Option.bind_some,b7,Option.map_some])
  ·have hsh:sf M:=⟨by omega,by omega,fun r hr=>ok r (by rw[List.take_of_length_le (by omega)];exact hr)⟩
   rw[iW hsh]
   (refine aa [] fun K hK=>?_;simp(disch:=omega) only[kc,ab,em,Hm,aj,ai,bj];apply hK)
   refine ae (af rfl (fun h=>by simp at h<;>omega) (fun _=>bF ?_))
   show bX _ _ _ _
   (refine bM bU [] [] (by kernel_rfl) (by simp) fun K hK=>?_;simp(disch:=omega) only[kc,ab,Nat.reduceAdd,aq,ao,be,aD,ag,ac,Value.oneCell',an,Int.reduceToNat,bI,h0,fR,cj,ax,cq,bQ];apply hK)
   (refine aE ⟨.inr rfl,aJ rfl ?_ rfl⟩;simp(disch:=omega) only[bK,Tryz.results69,dc,aN,List.getElem?_cons_succ,List.getElem?_cons_zero,Option.bind_some,b7,Option.map_some])
def Fc (M:List (List Int)):Prop:=sf M/\M.length=(M.headD []).length
instance (M:List (List Int)):Decidable (Fc M):=by unfold Fc;exact inferInstance
def Dv (M:List (List Int)):TV:=if Fc M then .tup [(false,[.p (.raw (.int .i64 (M.length:Int)))]),(false,[.p (.raw (.bool true))])]else .tup [(false,[.p (.raw (.int .i64 0))]),(false,[.p (.raw (.bool false))])]
theorem s9 (M:List (List Int)):CallC Tryz.prog 92 [em M] ⟨[],Dv M⟩:=by
 have hS:=Dj M
 by_cases h1:sf M
 ·rw[iW h1]at hS
  by_cases h2:M.length=(M.headD []).length
  ·rw[show Dv M=_ from if_pos ⟨h1,h2⟩]
   refine aC Tryz.func92 rfl (by kernel_rfl) ?_;rw[Tryz.ntmps92]
   (refine aa [] fun K hK=>?_;simp(disch:=omega) only[kc,ab,em,List.replicate,ac,Value.oneCell'];apply hK)
   (refine aa [⟨1,_,_,_,hS⟩] fun K hK=>?_;simp(disch:=omega) only[kc,em,ar.a,ab,Nat.reduceAdd,ak,aT,aI,List.find?_cons,aQ,bo,CallRes.plain,aR,aV,az,noRefTV,ap,aS,aP,bz,aj];apply hK)
   (refine ae (aa [] fun K hK=>?_);simp(disch:=omega) only[kc,ab,Nat.reduceAdd,cX,aj,eA,aA,ai,bE,bL,aM];apply hK)
   refine af rfl (fun h=>by simp at h<;>omega) (fun _=>ay ?_)
   show bX _ _ _ _
   (refine aa [] fun K hK=>?_;simp(disch:=omega) only[kc,ab,Nat.reduceAdd,ac,Value.oneCell'];apply hK)
   (refine aE ⟨.inr rfl,aJ rfl ?_ rfl⟩;simp(disch:=omega) only[bK,Tryz.results92,dc,aN,List.getElem?_cons_succ,List.getElem?_cons_zero,Option.bind_some,b7,Option.map_some])
  ·rw[show Dv M=_ from if_neg (fun h=>h2 h.2)]
   refine aC Tryz.func92 rfl (by kernel_rfl) ?_;rw[Tryz.ntmps92]
   (refine aa [] fun K hK=>?_;simp(disch:=omega) only[kc,ab,em,List.replicate,ac,Value.oneCell'];apply hK)
   (refine aa [⟨1,_,_,_,hS⟩] fun K hK=>?_;simp(disch:=omega) only[kc,em,ar.a,ab,Nat.reduceAdd,ak,aT,aI,List.find?_cons,aQ,bo,CallRes.plain,aR,aV,az,noRefTV,ap,aS,aP,bz,aj];apply hK)
   (refine ae (aa [] fun K hK=>?_);simp(disch:=omega) only[kc,ab,Nat.reduceAdd,cX,aj,eA,aA,ai,bj,Bool.not_false,bL,aM];apply hK)
   refine af rfl (fun _=>?_) (fun h=>by simp at h<;>omega)
   (refine aa [] fun K hK=>?_;simp(disch:=omega) only[kc,ab,ac,Value.oneCell'];apply hK)
   (refine aE ⟨.inr rfl,aJ rfl ?_ rfl⟩;simp(disch:=omega) only[bK,Tryz.results92,dc,aN,List.getElem?_cons_succ,List.getElem?_cons_zero,Option.bind_some,b7,Option.map_some])
 ·rw[eD h1]at hS
  rw[show Dv M=_ from if_neg (fun h=>h1 h.1)]
  refine aC Tryz.func92 rfl (by kernel_rfl) ?_;rw[Tryz.ntmps92]
  (refine aa [] fun K hK=>?_;simp(disch:=omega) only[kc,ab,em,List.replicate,ac,Value.oneCell'];apply hK)
  (refine aa [⟨1,_,_,_,hS⟩] fun K hK=>?_;simp(disch:=omega) only[kc,em,ar.a,ab,Nat.reduceAdd,ak,aT,aI,List.find?_cons,aQ,bo,CallRes.plain,aR,aV,az,noRefTV,ap,aS,aP,bz,aj];apply hK)
  (refine ae (aa [] fun K hK=>?_);simp(disch:=omega) only[kc,ab,Nat.reduceAdd,cX,aj,eA,Bool.not_false,aA,reduceCtorEq,Option.map_none,aM,ac,Value.oneCell'];apply hK)
  refine af rfl (fun _=>?_) (fun h=>by simp at h<;>omega)
  (refine aa [] fun K hK=>?_;simp(disch:=omega) only[kc,ab,ac,Value.oneCell'];apply hK)
  (refine aE ⟨.inr rfl,aJ rfl ?_ rfl⟩;simp(disch:=omega) only[bK,Tryz.results92,dc,aN,List.getElem?_cons_succ,List.getElem?_cons_zero,Option.bind_some,b7,Option.map_some])
section
def uG:PV->PV
 | .raw (.slice none 0 0)=> .sl []
 |x=>x
def ur:AV->AV
 | .p x=> .p (uG x)
 |x=>x
def zO (o:OObj):OObj:={o with elems:=o.elems.map (List.map ur)}
theorem Cv {X:Nat->Prop} {w:World} {x:PV} {v:Value} (h:cO X w x v):cO X w (uG x) v:=by
 unfold uG
 split
 ·cases h;exact .nil none 0
 ·exact h
theorem Df {ρ:eZ} {H:OH} {X:Nat->Prop} {w:World} {x:AV} {v:Value} (h:x.rel ρ H X w v):(ur x).rel ρ H X w v:=by
 cases x with
 |p x=>exact Cv h
 |sl a r off len=>exact h
 |ptr a r i j=>exact h
 |junk=>exact h
section
variable {H:OH} {d:Nat}
def zH (H:OH) (d:Nat):OH:=au H d ((H d).map zO)
theorem mL {a r:Nat} {o:OObj} (h:(zH H d a)[r]?=some o): ∃o',(H a)[r]?=some o'/\((a=d/\o=zO o')\/o=o'):=by
 unfold zH at h
 by_cases ha:a=d
 ·subst ha
  rw[bV,List.getElem?_map]at h
  obtain⟨o',h1,h2⟩:=Option.map_eq_some_iff.1 h
  exact⟨o',h1,.inl ⟨rfl,h2.symm⟩⟩
 ·rw[bv ha]at h
  exact⟨o,h,.inr rfl⟩
theorem zD {a r:Nat} {o:OObj} (h:(H a)[r]?=some o): ∃o',(zH H d a)[r]?=some o'/\o'.es=o.es/\o'.elems.length=o.elems.length:=by
 unfold zH
 by_cases ha:a=d
 ·subst ha
  exact⟨zO o,by rw[bV,List.getElem?_map,h];rfl,rfl,by simp[zO]⟩
 ·exact⟨o,by rw[bv ha];exact h,rfl,rfl⟩
theorem Dw (X:Nat->Prop) (ρ:eZ):Xo X ρ (zH H d)=Xo X ρ H:=by
 funext b
 apply propext
 constructor
 ·rintro(h|⟨a,r,o,c,h1,h2⟩)
  ·exact .inl h
  ·obtain⟨o',g1,_⟩:=mL h1
   exact .inr ⟨a,r,o',c,g1,h2⟩
 ·rintro(h|⟨a,r,o,c,h1,h2⟩)
  ·exact .inl h
  ·obtain⟨o',g1,_⟩:=zD (d:=d) h1
   exact .inr ⟨a,r,o',c,g1,h2⟩
theorem sI {ρ:eZ} {X:Nat->Prop} {w:World} {x:AV} {v:Value} (h:x.rel ρ H X w v):x.rel ρ (zH H d) X w v:=by
 cases x with
 |p x=>exact h
 |junk=>trivial
 |sl a r off len=>
  obtain⟨o,h1,h2,h3⟩:=h
  obtain⟨o',g1,g2,g3⟩:=zD (d:=d) h1
  exact⟨o',g1,by omega,by rw[g2];exact h3⟩
 |ptr a r i j=>
  obtain⟨o,b,c,h1,h2,h3,h4⟩:=h
  obtain⟨o',g1,g2,g3⟩:=zD (d:=d) h1
  exact⟨o',b,c,g1,h2,by omega,by rw[g2];exact h4⟩
theorem EI {ρ:eZ} {X:Nat->Prop} {w:World} {t:TV} {v:Value} (h:t.rel ρ H X w v):t.rel ρ (zH H d) X w v:=by
 have agg: ∀{cs:List AV} {v:Value},cE ρ H X w cs v->cE ρ (zH H d) X w cs v:=fun{cs v} ⟨vs,h1,h2,h3⟩=>
  ⟨vs,h1,h2,fun j x hx=>by obtain⟨u,u1,u2,u3⟩:=h3 j x hx;exact⟨u,u1,u2,sI u3⟩⟩
 cases t with
 |one x=>exact sI (x:=x) h
 |agg cs=>exact agg h
 |fn f cs=>obtain⟨u,h1,h2⟩:=h;exact⟨u,agg h1,h2⟩
 |tup ts=>
  obtain⟨vs,h1,h2,h3⟩:=h
  refine⟨vs,h1,h2,fun j b cs hj=>?_⟩
  obtain⟨u,u1,u2⟩:=h3 j b cs hj
  refine⟨u,u1,?_⟩
  rcases u2 with⟨e,g⟩|⟨e,x,hx,g⟩
  ·exact .inl ⟨e,agg g⟩
  ·exact .inr ⟨e,x,hx,sI g⟩
theorem A9 {ρ:eZ} {X:Nat->Prop} {w:World} {a r:Nat} {o:OObj} (h:objRel ρ H X w a r o):objRel ρ (zH H d) X w a r (zO o)/\objRel ρ (zH H d) X w a r o:=by
 obtain⟨h1,h2,h3⟩:=h
 refine⟨⟨fun e he=>?_,h2,?_⟩,⟨h1,h2,?_⟩⟩
 ·simp only[zO,List.mem_map]at he
  obtain⟨e',he',rfl⟩:=he
  simp only[List.length_map,zO]
  exact h1 e' he'
 ·cases hρ:ρ a r with
  |none=>rw[hρ]at h3;simp only at h3⊢;simp[zO,h3]
  |some bc=>
   obtain⟨b,c⟩:=bc
   rw[hρ]at h3
   obtain⟨cells,g1,g2,g3,g4,g5⟩:=h3
   refine⟨cells,g1,g2,by simpa[zO] using g3,g4,fun i e j x hi hj=>?_⟩
   simp only[zO,List.getElem?_map]at hi
   obtain⟨e',he',rfl⟩:=Option.map_eq_some_iff.1 hi
   simp only[List.getElem?_map]at hj
   obtain⟨x',hx',rfl⟩:=Option.map_eq_some_iff.1 hj
   obtain⟨v,v1,v2,v3⟩:=g5 i e' j x' he' hx'
   exact⟨v,v1,v2,Df (sI v3)⟩
 ·cases hρ:ρ a r with
  |none=>rw[hρ]at h3;exact h3
  |some bc=>
   obtain⟨b,c⟩:=bc
   rw[hρ]at h3
   obtain⟨cells,g1,g2,g3,g4,g5⟩:=h3
   refine⟨cells,g1,g2,g3,g4,fun i e j x hi hj=>?_⟩
   obtain⟨v,v1,v2,v3⟩:=g5 i e j x hi hj
   exact⟨v,v1,v2,sI v3⟩
end
theorem fy {s:AS} (d:Nat):du s ⟨s.tmps,zH s.H d⟩:=by
 rintro w0 O X a w ⟨h1,hsz,ρ,hinv,htm⟩
 refine⟨h1,hsz,ρ,⟨hinv.keep,fun a r o ho=>?_,fun a r a' r' o o' b c c' ho ho' hb hb'=>?_,fun a r o b c ho hb=>?_,hinv.bar,fun a r o ho=>?_⟩,fun t x hx=>?_⟩
 ·obtain⟨o',g1,g2⟩:=mL ho
  show objRel ρ (zH s.H d) (Xo X ρ (zH s.H d)) w a r o
  rw[Dw]
  rcases g2 with⟨_,rfl⟩|rfl
  ·exact(A9 (hinv.objs a r o' g1)).1
  ·exact(A9 (hinv.objs a r o g1)).2
 ·obtain⟨p,g1,_⟩:=mL ho
  obtain⟨p',g2,_⟩:=mL ho'
  exact hinv.inj a r a' r' p p' b c c' g1 g2 hb hb'
 ·obtain⟨p,g1,_⟩:=mL ho
  exact hinv.old a r p b c g1 hb
 ·obtain⟨o',g1,g2⟩:=mL ho
  have:=hinv.self a r o' g1
  rcases g2 with⟨_,rfl⟩|rfl
  ·intro e he x hx
   simp only[zO,List.mem_map]at he
   obtain⟨e',he',rfl⟩:=he
   simp only[List.mem_map]at hx
   obtain⟨x',hx',rfl⟩:=hx
   have:=this e' he' x' hx'
   cases x'<;>first|exact this|trivial
  ·exact this
 ·obtain⟨v,v1,v2⟩:=htm t x hx
  refine⟨v,v1,?_⟩
  show x.rel ρ (zH s.H d) (Xo X ρ (zH s.H d)) w v
  rw[Dw]
  exact EI v2
theorem CK {s:AS} (k:Nat) (hk:s.tmps[k]?=some (.raw (.slice none 0 0))):du s ⟨s.tmps.set k (.one (.p (.sl []))),s.H⟩:=by
 rintro w0 O X a w ⟨h1,hsz,ρ,hinv,htm⟩
 refine⟨h1,by simpa using hsz,ρ,hinv,fun t x hx=>?_⟩
 by_cases htk:t=k
 ·subst htk
  obtain⟨v,v1,v2⟩:=htm t _ hk
  have hlt:=(List.getElem?_eq_some_iff.1 hk).1
  rw[List.getElem?_set_self hlt]at hx
  injection hx with hx
  subst hx
  have v2:cO (Xo X ρ s.H) w (.raw (.slice none 0 0)) v:=v2
  cases v2
  exact⟨_,v1,cO.nil none 0⟩
 ·rw[List.getElem?_set_ne (fun h=>htk h.symm)]at hx
  exact htm t x hx
end
def gd (d:Nat) (l:List Nat):List (List AV):=l.mapIdx fun k c=>[.sl d (k+1) 0 c]
def jp (r:List Int):OObj:=⟨53,2,lc fZ r⟩
def Dt (d:Nat) (R:List (List Int)):List OObj:=⟨91,1,gd d (R.map List.length)⟩::R.map jp
def Dz (d n c i:Nat):List OObj:=⟨91,1,gd d (List.replicate i c)++List.replicate (n-i) [.p (.sl [])]⟩::List.replicate i (jp (List.replicate c 0))
theorem cV (d:Nat) (l:List Nat):(gd d l).length=l.length:=by simp[gd]
theorem lF (d:Nat) (l:List Nat) (c:Nat):gd d (l++[c])=gd d l++[[.sl d (l.length+1) 0 c]]:=by simp[gd,List.mapIdx_append]
theorem Dm (d:Nat) (l:List Nat):(gd d l).map (List.map ur)=gd d l:=by
 apply List.ext_getElem?
 intro k
 simp only[gd,List.getElem?_map,List.getElem?_mapIdx]
 cases l[k]?<;>rfl
theorem Ey (r:List Int):(lc fZ r).map (List.map ur)=lc fZ r:=by simp[lc,fZ,ur,uG]
theorem x7 (d n c:Nat):([⟨91,1,List.replicate n [.raw (.slice none 0 0)]⟩]:List OObj).map zO=Dz d n c 0:=by
 simp[Dz,zO,gd,ur,uG]
theorem AJ (d n c:Nat):Dz d n c n=Dt d (List.replicate n (List.replicate c 0)):=by
 simp[Dz,Dt]
theorem r7 {d n c i:Nat} (hi:i<n):(gd d (List.replicate i c)++List.replicate (n-i) [AV.p (PV.sl [])])[i]?=some [.p (.sl [])]:=by
 rw[List.getElem?_append_right (by simp[cV]),cV,List.length_replicate,Nat.sub_self,List.getElem?_replicate,if_pos (by omega)]
theorem BC {d n c i:Nat} (hi:i<n):
  ((⟨91,1,(gd d (List.replicate i c)++List.replicate (n-i) [AV.p (PV.sl [])]).set i [.sl d (i+1) 0 c]⟩::List.replicate i (jp (List.replicate c 0))++[⟨53,2,List.replicate c [.raw (.bool false),.raw (.slice none 0 0)]⟩]:List OObj)).map zO=Dz d n c (i+1):=by
 have e1:(gd d (List.replicate i c)++List.replicate (n-i) [AV.p (PV.sl [])]).set i [.sl d (i+1) 0 c]=gd d (List.replicate (i+1) c)++List.replicate (n-(i+1)) [AV.p (PV.sl [])]:=by
  rw[List.set_append_right _ _ (by simp[cV]),cV,List.length_replicate,Nat.sub_self,List.replicate_succ' (n:=i),lF,List.length_replicate,List.append_assoc]
  congr 1
  rw[show n-i=n-(i+1)+1 by omega,List.replicate_succ]
  rfl
 rw[e1]
 simp only[List.cons_append,List.map_cons,List.map_append,List.map_replicate,Dz]
 congr 1
 ·simp[zO,Dm,ur,uG]
 ·rw[List.replicate_succ']
  congr 1
  ·congr 1
   simp[zO,jp,Ey]
  ·simp[zO,jp,lc,fZ,ur,uG,cD,ls]
theorem w9 (d e:Nat) (l:List Nat):(gd d l).map (List.map (aP e))=gd e l:=by
 apply List.ext_getElem?
 intro k
 simp only[gd,List.getElem?_map,List.getElem?_mapIdx]
 cases l[k]?<;>rfl
theorem CE (e:Nat) (r:List Int):db e (jp r)=jp r:=by simp[db,jp,mb]
theorem xb (d e:Nat) (R:List (List Int)):(Dt d R).map (db e)=Dt e R:=by
 simp only[Dt,List.map_cons,List.map_map]
 congr 1
 ·simp[db,w9]
 ·exact List.map_congr_left fun r _=>CE e r
structure FA (n:Nat) where
 i:Nat
 hi:i<=n
theorem Eu (n c:Nat) (hn:n<=16) (hc:c<=16):CallC Tryz.prog 53 [.raw (.int .i64 (n:Int)),.raw (.int .i64 (c:Int))] ⟨Dt 0 (List.replicate n (List.replicate c 0)),.one (.sl 0 0 0 n)⟩:=by
 refine aC Tryz.func53 rfl (by kernel_rfl) ?_;rw[Tryz.ntmps53]
 (refine aa [] fun K hK=>?_;simp(disch:=omega) only[kc,ab,Nat.reduceAdd,List.replicate,ac,Value.oneCell'];apply hK)
 (refine aa [] fun K hK=>?_;simp(disch:=omega) only[kc,ab,Nat.reduceAdd,ca,aT,aI,be,j5,cj,nJ,Int.natCast_nonneg,Value.oneCell',and_true,bL];apply hK)
 (refine ae (aa [] fun K hK=>?_);simp(disch:=omega) only[kc,ab,Nat.reduceAdd,aq,ao,be,ac,Value.oneCell'];apply hK)
 refine bT (G:=FA n) (fun g=>⟨[.raw (.int .i64 (n:Int)),.raw (.int .i64 (c:Int)),jk,jk,.raw (.slice none 0 0),.one (.sl 8 0 0 n),jk,jk,jk,jk,.raw (.int .i64 (n:Int)),.raw (.int .i64 (g.i:Int)),jk,jk,jk,jk,jk,jk,jk,jk,jk],Hm [(8,Dz 8 n c g.i)]⟩) (fun g=>n-g.i) ⟨0,by omega⟩ ?_ ?_
 ·refine(fy 8).trans (am ⟨x7 8 n c,trivial⟩ ?_)
  simp[cu,bD,bA]
 ·rintro⟨i,hi⟩
  simp only
  by_cases hm:i<n
  ·(refine aa [] fun K hK=>?_;simp(disch:=omega) only[kc,ab,Hm,aj,ai,bE];apply hK)
   refine ae (af rfl (fun _=>ay ?_) (fun h=>by simp at h<;>omega))
   refine ae (aU ?_)
   (refine aa [] fun K hK=>?_;simp(disch:=omega) only[kc,ab];apply hK)
   simp only[Dz]
   have hg:=r7 (d:=8) (c:=c) hm
   ((refine aX [] [] (by simp) fun K hK=>?_);simp(disch:=omega) only[kc,ab,Nat.reduceAdd,ca,aT,aI,bQ,aZ,aF,kX,Int.natCast_nonneg,Value.oneCell',and_true,bL,Nat.reduceEqDiff,ag,ao,an,be,au,cj,aB,dr,bN,hg,putCells,cH,List.length_replicate,List.all_replicate,isPure,ite_self,aH,aL,Nat.reduceBEq];apply hK)
   show bX _ _ _ _
   ((refine aX [] [] (by simp) fun K hK=>?_);simp(disch:=omega) only[kc,ab,aj,ac,Value.oneCell',ai,bC];apply hK)
   refine⟨⟨i+1,by omega⟩,by simp only;omega,(fy 8).trans (am ⟨BC hm,trivial⟩ ?_)⟩
   simp[cu,bD,bA]
  ·have hin:i=n:=by omega
   subst hin
   (refine aa [] fun K hK=>?_;simp(disch:=omega) only[kc,ab,Hm,aj,ai,bj];apply hK)
   refine ae (af rfl (fun h=>by simp at h<;>omega) (fun _=>bF ?_))
   show bX _ _ _ _
   rw[AJ]
   (refine aa [] fun K hK=>?_;simp(disch:=omega) only[kc,ab];apply hK)
   refine aE ⟨.inr rfl,_,du.refl _,?_⟩
   refine⟨.one (.sl 8 0 0 i),8,?_,rfl,?_,rfl⟩
   ·simp(disch:=omega) only[bK,Tryz.results53,aN,List.getElem?_cons_succ,List.getElem?_cons_zero]
   ·exact(xb 8 0 _).symm
def sw (p q r:Nat):Nat:=if r=p then q else if r=q then p else r
theorem Ds (p q r:Nat):sw p q (sw p q r)=r:=by
 unfold sw
 by_cases h1:r=p
 ·subst h1;by_cases h2:q=r<;>simp[h2]
 ·by_cases h2:r=q
  ·subst h2;simp[h1]
  ·simp[h1,h2]
def nE (a p q b r:Nat):Nat:=if b=a then sw p q r else r
theorem rF (a p q b r:Nat):nE a p q b (nE a p q b r)=r:=by
 unfold nE
 by_cases h:b=a<;>simp[h,Ds]
def kT (a p q:Nat):AV->AV
 | .sl b r off len=> .sl b (nE a p q b r) off len
 | .ptr b r i j=> .ptr b (nE a p q b r) i j
 |x=>x
def Dg (a p q:Nat):TV->TV
 | .one x=> .one (kT a p q x)
 | .agg cs=> .agg (cs.map (kT a p q))
 | .fn f cs=> .fn f (cs.map (kT a p q))
 | .tup ts=> .tup (ts.map fun t=>(t.1,t.2.map (kT a p q)))
def xy (a p q:Nat) (o:OObj):OObj:={o with elems:=o.elems.map (List.map (kT a p q))}
theorem wO {s:AS} (a p q:Nat) (F:List OObj) (hF: ∀r:Nat,F[r]?=((s.H a)[sw p q r]?).map (xy a p q)):du s ⟨s.tmps.map (Dg a p q),au s.H a F⟩:=by
 rintro w0 O X act w ⟨h1,hsz,ρ,hinv,htm⟩
 have hof: ∀(b r:Nat) o,(s.H b)[r]?=some o-> ∃o':OObj,(au s.H a F b)[nE a p q b r]?=some o'/\o'.es=o.es/\o'.elems.length=o.elems.length:=fun b r o ho=>by
  by_cases hb:b=a
  ·subst hb
   refine⟨xy b p q o,?_,rfl,by simp[xy]⟩
   rw[bV,nE,if_pos rfl,hF,Ds,ho];rfl
  ·exact⟨o,by rw[bv hb,nE,if_neg hb];exact ho,rfl,rfl⟩
 have hget: ∀(b r:Nat) o',(au s.H a F b)[r]?=some o'-> ∃o:OObj,(s.H b)[nE a p q b r]?=some o/\((b=a/\o'=xy a p q o)\/(b≠a/\o'=o)):=fun b r o' ho=>by
  by_cases hb:b=a
  ·subst hb
   rw[bV,hF]at ho
   obtain⟨o,g1,g2⟩:=Option.map_eq_some_iff.1 ho
   exact⟨o,by rw[nE,if_pos rfl];exact g1,.inl ⟨rfl,g2.symm⟩⟩
  ·rw[bv hb]at ho
   exact⟨o',by rw[nE,if_neg hb];exact ho,.inr ⟨hb,rfl⟩⟩
 let ρ':eZ:=fun b r=>ρ b (nE a p q b r)
 have hρ: ∀b r,ρ' b (nE a p q b r)=ρ b r:=fun b r=>by show ρ b _=_;rw[rF]
 have hXo:Xo X ρ' (au s.H a F)=Xo X ρ s.H:=by
  funext b
  apply propext
  constructor
  ·rintro(h|⟨x,r,o,c,g1,g2⟩)
   ·exact .inl h
   ·obtain⟨o',g3,_⟩:=hget x r o g1
    exact .inr ⟨x,_,o',c,g3,g2⟩
  ·rintro(h|⟨x,r,o,c,g1,g2⟩)
   ·exact .inl h
   ·obtain⟨o',g3,_⟩:=hof x r o g1
    exact .inr ⟨x,_,o',c,g3,by rw[hρ];exact g2⟩
 have hav: ∀(Y:Nat->Prop) x v,AV.rel ρ s.H Y w x v->AV.rel ρ' (au s.H a F) Y w (kT a p q x) v:=fun Y x v h=>by
  cases x with
  |p x=>exact h
  |junk=>trivial
  |sl b r off len=>
   obtain⟨o,g1,g2,g3⟩:=h
   obtain⟨o',k1,k2,k3⟩:=hof b r o g1
   exact⟨o',k1,by omega,by rw[hρ,k2];exact g3⟩
  |ptr b r i j=>
   obtain⟨o,b',c,g1,g2,g3,g4⟩:=h
   obtain⟨o',k1,k2,k3⟩:=hof b r o g1
   exact⟨o',b',c,k1,by rw[hρ];exact g2,by omega,by rw[k2];exact g4⟩
 have hagg: ∀(Y:Nat->Prop) cs v,cE ρ s.H Y w cs v->cE ρ' (au s.H a F) Y w (cs.map (kT a p q)) v:=fun Y cs v ⟨vs,g1,g2,g3⟩=>by
  refine⟨vs,g1,by simpa using g2,fun j x hx=>?_⟩
  rw[List.getElem?_map]at hx
  obtain⟨y,hy,rfl⟩:=Option.map_eq_some_iff.1 hx
  obtain⟨u,u1,u2,u3⟩:=g3 j y hy
  exact⟨u,u1,u2,hav Y y u u3⟩
 refine⟨h1,by simpa using hsz,ρ',⟨hinv.keep,fun b r o' ho=>?_,fun b r b' r' o o' x c c' ho ho' hb hb'=>?_,fun b r o x c ho hb=>?_,hinv.bar,fun b r o' ho=>?_⟩,fun t x hx=>?_⟩
 ·obtain⟨o,g1,g2⟩:=hget b r o' ho
  have hob:=hinv.objs b _ o g1
  have hself:=hinv.self b _ o g1
  show objRel ρ' (au s.H a F) (Xo X ρ' (au s.H a F)) w b r o'
  rw[hXo]
  obtain⟨q1,q2,q3⟩:=hob
  rcases g2 with⟨rfl,rfl⟩|⟨hb,rfl⟩
  ·refine⟨fun e he=>?_,q2,?_⟩
   ·simp only[xy,List.mem_map]at he
    obtain⟨e',he',rfl⟩:=he
    simp only[List.length_map,xy]
    exact q1 e' he'
   ·show match ρ b (nE b p q b r)with|none=>_|some (b,c)=>_
    cases hr:ρ b (nE b p q b r)with
    |none=>rw[hr]at q3;simp only at q3⊢;simp[xy,q3]
    |some bc=>
     obtain⟨b2,c⟩:=bc
     rw[hr]at q3
     obtain⟨cells,p1,p2,p3,p4,p5⟩:=q3
     refine⟨cells,p1,p2,by simpa[xy] using p3,p4,fun i e j x hi hj=>?_⟩
     simp only[xy,List.getElem?_map]at hi
     obtain⟨e',he',rfl⟩:=Option.map_eq_some_iff.1 hi
     simp only[List.getElem?_map]at hj
     obtain⟨x',hx',rfl⟩:=Option.map_eq_some_iff.1 hj
     obtain⟨v,v1,v2,v3⟩:=p5 i e' j x' he' hx'
     exact⟨v,v1,v2,hav _ _ _ v3⟩
  ·refine⟨q1,q2,?_⟩
   show match ρ b (nE a p q b r)with|none=>_|some (b,c)=>_
   cases hr:ρ b (nE a p q b r)with
   |none=>rw[hr]at q3;exact q3
   |some bc=>
    obtain⟨b2,c⟩:=bc
    rw[hr]at q3
    obtain⟨cells,p1,p2,p3,p4,p5⟩:=q3
    refine⟨cells,p1,p2,p3,p4,fun i e j x hi hj=>?_⟩
    obtain⟨v,v1,v2,v3⟩:=p5 i e j x hi hj
    have hs:=hself e (List.mem_of_getElem? hi) x (List.mem_of_getElem? hj)
    have hx:kT a p q x=x:=by
     cases x with
     |sl z _ _ _=>have hs:z=b:=hs;subst hs;simp[kT,nE,hb]
     |ptr z _ _ _=>have hs:z=b:=hs;subst hs;simp[kT,nE,hb]
     |p z=>rfl
     |junk=>rfl
    have:=hav _ _ _ v3
    rw[hx]at this
    exact⟨v,v1,v2,this⟩
 ·obtain⟨o1,g1,_⟩:=hget b r o ho
  obtain⟨o2,g2,_⟩:=hget b' r' o' ho'
  obtain⟨e1,e2⟩:=hinv.inj b _ b' _ o1 o2 x c c' g1 g2 hb hb'
  subst e1
  refine⟨rfl,?_⟩
  rw[<- rF a p q b r,e2,rF]
 ·obtain⟨o1,g1,_⟩:=hget b r o ho
  exact hinv.old b _ o1 x c g1 hb
 ·obtain⟨o,g1,g2⟩:=hget b r o' ho
  have hs:=hinv.self b _ o g1
  rcases g2 with⟨rfl,rfl⟩|⟨hb,rfl⟩
  ·intro e he x hx
   simp only[xy,List.mem_map]at he
   obtain⟨e',he',rfl⟩:=he
   simp only[List.mem_map]at hx
   obtain⟨x',hx',rfl⟩:=hx
   have:=hs e' he' x' hx'
   cases x'<;>first|exact this|trivial
  ·exact hs
 ·simp only[List.getElem?_map]at hx
  obtain⟨y,hy,rfl⟩:=Option.map_eq_some_iff.1 hx
  obtain⟨v,v1,v2⟩:=htm t y hy
  refine⟨v,v1,?_⟩
  show TV.rel ρ' (au s.H a F) (Xo X ρ' (au s.H a F)) w (Dg a p q y) v
  rw[hXo]
  cases y with
  |one x=>exact hav _ _ _ v2
  |agg cs=>exact hagg _ _ _ v2
  |fn f cs=>obtain⟨u,h1,h2⟩:=v2;exact⟨u,hagg _ _ _ h1,h2⟩
  |tup ts=>
   obtain⟨vs,g1,g2,g3⟩:=v2
   refine⟨vs,g1,by simpa using g2,fun j b cs hj=>?_⟩
   rw[List.getElem?_map]at hj
   obtain⟨z,hz,hzz⟩:=Option.map_eq_some_iff.1 hj
   obtain⟨b',cs'⟩:=z
   simp at hzz
   obtain⟨rfl,rfl⟩:=hzz
   obtain⟨u,u1,u2⟩:=g3 j b' cs' hz
   refine⟨u,u1,?_⟩
   rcases u2 with⟨u2,u3⟩|⟨u2,q',rfl,u4⟩
   ·exact .inl ⟨u2,hagg _ _ _ u3⟩
   ·exact .inr ⟨u2,_,rfl,hav _ _ _ u4⟩
end Go.Proofs.YtpgghglbpcabkaaGreat
