/-
  Part 17 of a proof (walks and plain facts).
-/
import Derived.Test.YtpgghglbpcabkaaGreatP15
set_option linter.all false
set_option maxRecDepth 100000
set_option maxHeartbeats 64000000
namespace Go.Proofs.YtpgghglbpcabkaaGreat
open Go.RowKit
theorem xM (a b:Nat) (hb:0<b) (la:(aK a).length<=268435456) (lb:(aK b).length<=268435456):CallC Tryz.prog 120 [bO (aK a),bO (aK b)] ⟨[],tU a b⟩:=by
 have hc:=nZ (aK a) (aK b) (aY _) (aY _) (cw _) (cw _) (by omega) (by omega)
 rw[aG,aG]at hc
 by_cases hlt:a<b
 ·rw[jU hlt]at hc
  have hcl:=pA (aK a) (by omega)
  unfold tU
  rw[Nat.div_eq_of_lt hlt,Nat.mod_eq_of_lt hlt,cD]
  refine aC Tryz.func120 rfl (by kernel_rfl) ?_;rw[Tryz.ntmps120]
  (refine aa [] fun K hK=>?_;simp(disch:=omega) only[kc,ab,bO,Nat.reduceAdd,List.replicate,ac,Value.oneCell'];apply hK)
  refine ae (aU ?_)
  (refine aa [⟨2,_,_,_,hc⟩] fun K hK=>?_;simp(disch:=omega) only[kc,bO,ar.a,ab,Nat.reduceAdd,ak,aT,aI,List.find?_cons,aQ,bo,CallRes.plain,aR,aV,az,noRefTV,ap,aS,aP,aj,ac,Value.oneCell',ai,bE];apply hK)
  refine af rfl (fun _=>?_) (fun h=>by simp at h)
  (refine aa [⟨1,_,_,_,hcl⟩] fun K hK=>?_;simp(disch:=omega) only[kc,bO,ar.a,ab,Nat.reduceAdd,ak,aT,aI,List.find?_cons,aQ,bo,CallRes.plain,aR,aV,az,noRefTV,ap,aS,aP,ac,Value.oneCell'];apply hK)
  refine aE ⟨.inr rfl,Ea 4 rfl rfl ?_ rfl⟩
  simp(disch:=omega) only[kc,bK,Tryz.results120,dc,aN,b7,gS]
 obtain⟨c,hcv,hc0⟩: ∃c,c=fg a b/\0<=c:=⟨_,rfl,xx (by omega)⟩
 rw[<- hcv]at hc
 clear hcv
 by_cases hs:(aK a).length<=2
 ·have sb:(aK b).length<=2:=Nat.le_trans (kP (show b<=a by omega)) hs
  have ua:=fN hs
  have ub:=fN sb
  have h1:=k9 (aK a) (aY _) hs
  have h2:=k9 (aK b) (aY _) sb
  rw[aG]at h1 h2
  have hq:a/b<=a:=Nat.div_le_self _ _
  have hr:a%b<b:=Nat.mod_lt _ hb
  have h3:=fY (a/b) (by omega)
  have h4:=fY (a%b) (by omega)
  have hb0:(b:Int)≠0:=by omega
  have e1:IntKind.u64.wrap (Int.tdiv (a:Int) (b:Int))=((a/b:Nat):Int):=by
   rw[Int.tdiv_eq_ediv_of_nonneg (by omega),<- Int.natCast_ediv];generalize a/b=q at*;rw[IntKind.wrap_u64];omega
  have e2:Int.tmod (a:Int) (b:Int)=((a%b:Nat):Int):=by
   rw[Int.tmod_eq_emod_of_nonneg (by omega),<- Int.natCast_emod]
  unfold tU
  generalize a/b=q at*
  generalize a%b=r at*
  refine aC Tryz.func120 rfl (by kernel_rfl) ?_;rw[Tryz.ntmps120]
  (refine aa [] fun K hK=>?_;simp(disch:=omega) only[kc,ab,bO,Nat.reduceAdd,List.replicate,ac,Value.oneCell'];apply hK)
  refine ae (aU ?_)
  (refine aa [⟨2,_,_,_,hc⟩] fun K hK=>?_;simp(disch:=omega) only[kc,bO,ar.a,ab,Nat.reduceAdd,ak,aT,aI,List.find?_cons,aQ,bo,CallRes.plain,aR,aV,az,noRefTV,ap,aS,aP,aj,ac,Value.oneCell',ai,bj];apply hK)
  refine af rfl (fun h=>by simp at h<;>omega) (fun _=>?_)
  (refine aa [] fun K hK=>?_;simp(disch:=omega) only[kc,ab,Nat.reduceAdd,aq,ao,ah,aD,aj,ac,Value.oneCell',ai,bE];apply hK)
  refine af rfl (fun _=>?_) (fun h=>by simp at h<;>omega)
  (refine aa [⟨1,_,_,_,h1⟩,⟨3,_,_,_,h2⟩] fun K hK=>?_;simp(disch:=omega) only[kc,bO,ar.a,ab,Nat.reduceAdd,ak,aT,aI,List.find?_cons,aQ,bo,CallRes.plain,aR,aV,az,noRefTV,ap,aS,aP,Nat.reduceBEq];apply hK)
  (refine bM bU [⟨3,_,_,_,h3⟩,⟨7,_,_,_,h4⟩] [] (by kernel_rfl) (by simp) fun K hK=>?_;simp(disch:=omega) only[kc,bO,ar.a,ab,Nat.reduceAdd,aj,ai,ne_eq,hb0,not_false_eq_true,e1,ak,aT,aI,List.find?_cons,aQ,bo,CallRes.plain,aR,aV,az,noRefTV,ap,aS,aP,e2,Nat.reduceBEq];apply hK)
  (refine aE ⟨.inr rfl,aJ rfl ?_ rfl⟩;simp(disch:=omega) only[bK,Tryz.results120,dc,aN,List.getElem?_cons_succ,List.getElem?_cons_zero,Option.bind_some,b7,Option.map_some])
 by_cases h1:(aK b).length=1
 ·obtain⟨g0,b32⟩:=yr h1
  have hcl:=xN (aK a) (by omega) (by omega)
  have hw:=nf (aK a) b (aY _) hb b32 (by omega) (by omega)
  rw[aG]at hw
  have hq:a/b<4294967296^(aK a).length:=Nat.lt_of_le_of_lt (Nat.div_le_self _ _) (tI a)
  have hr:a%b<b:=Nat.mod_lt _ hb
  have ht:=dQ (b9 (aK a).length (a/b)) (by rw[b6];omega)
  rw[mw hq]at ht
  have hf:=fY (a%b) (by omega)
  have hpl:=b6 (aK a).length (a/b)
  unfold tU
  generalize a%b=r at*
  generalize b9 (aK a).length (a/b)=R at*
  generalize a/b=q at*
  have e1:IntKind.u64.wrap (r:Int)=(r:Int):=by rw[IntKind.wrap_u64];omega
  refine aC Tryz.func120 rfl (by kernel_rfl) ?_;rw[Tryz.ntmps120]
  (refine aa [] fun K hK=>?_;simp(disch:=omega) only[kc,ab,bO,Nat.reduceAdd,List.replicate,ac,Value.oneCell'];apply hK)
  refine ae (aU ?_)
  (refine aa [⟨2,_,_,_,hc⟩] fun K hK=>?_;simp(disch:=omega) only[kc,bO,ar.a,ab,Nat.reduceAdd,ak,aT,aI,List.find?_cons,aQ,bo,CallRes.plain,aR,aV,az,noRefTV,ap,aS,aP,aj,ac,Value.oneCell',ai,bj];apply hK)
  refine af rfl (fun h=>by simp at h<;>omega) (fun _=>?_)
  (refine aa [] fun K hK=>?_;simp(disch:=omega) only[kc,ab,Nat.reduceAdd,aq,ao,ah,aD,aj,ac,Value.oneCell',ai,bj];apply hK)
  refine af rfl (fun h=>by simp at h<;>omega) (fun _=>?_)
  (refine aa [] fun K hK=>?_;simp(disch:=omega) only[kc,ab,Nat.reduceAdd,aq,ao,ah,aD,aj,ac,Value.oneCell',ai,bE];apply hK)
  refine af rfl (fun _=>?_) (fun h=>by simp at h<;>omega)
  (refine aa [⟨1,_,_,_,hcl⟩] fun K hK=>?_;simp(disch:=omega) only[kc,bO,ar.a,ab,Nat.reduceAdd,ak,aT,aI,List.find?_cons,aQ,bo,CallRes.plain,List.isEmpty_cons,aR,aV,az,Bool.not_false,noRefTV,ap,Bool.or_false,aS,aP,db,mb];apply hK)
  (refine pk 4 hw 41 0 [] [] (by simp) (by omega) (kw rfl) (dX _ _) (by simp) (by decide) fun K hK=>?_;simp(disch:=omega) only[kc,ab,Nat.reduceAdd,ag,ao,ac,Value.oneCell',an,Int.reduceToNat,ah,bI,g0,fU,aO,ax,bu];apply hK;refine⟨⟨rfl,rfl⟩,by simp,?_⟩;intro K hK;simp(disch:=omega) only[kc,Nat.reduceAdd,ab,yO,CM,au];apply hK)
  refine bX.weak ((d4 41 (dL rfl)).trans (am (tm:=[jk,jk,jk,jk,bO R,jk,jk,jk,.raw (.int .u32 (r:Int)),jk,jk,jk,jk,jk,jk,jk,jk,jk,jk,jk,jk,jk,jk,jk,jk,jk,jk,jk,jk,jk,jk,jk,jk,jk,jk,jk,jk,jk,jk,jk,jk,jk,jk,jk,jk,jk,jk,jk,jk,jk,jk,jk,jk,jk,jk,jk,jk,jk,jk,jk,jk,jk,jk,jk,jk,jk,jk,jk,jk,jk,jk,jk,jk,jk,jk,jk,jk,jk,jk,jk,jk,jk,jk,jk,jk,jk,jk,jk,jk,jk,jk,jk,jk,jk,jk,jk,jk,jk,jk,jk,jk,jk,jk,jk]) (l:=[]) trivial (by simp[cu,bD,bA,gR,eX,au,Hm,ew,d8,List.take_of_length_le,hpl]))) ?_
  (refine aa [⟨1,_,_,_,ht⟩,⟨4,_,_,_,hf⟩] fun K hK=>?_;simp(disch:=omega) only[kc,bO,ar.a,ab,Nat.reduceAdd,Hm,ak,aT,aI,List.find?_cons,aQ,bo,CallRes.plain,aR,aV,az,noRefTV,ap,aS,aP,bf,aj,Tryz.underlying118,bP,e1,Nat.reduceBEq];apply hK)
  (refine aE ⟨.inr rfl,aJ rfl ?_ rfl⟩;simp(disch:=omega) only[bK,Tryz.results120,dc,aN,List.getElem?_cons_succ,List.getElem?_cons_zero,Option.bind_some,b7,Option.map_some])
 obtain⟨n,hn⟩: ∃n,(aK b).length=n+2:=⟨(aK b).length-2,by have:=eF (n:=b);omega⟩
 obtain⟨m,hm⟩: ∃m,(aK a).length=n+2+m:=⟨(aK a).length-(n+2),by have:=kP (show b<=a by omega);omega⟩
 obtain⟨x,hx,hx0,hx32,hbl⟩:=tg (n:=n+1) hn
 have hz:=E6 x hx32
 obtain⟨z1,z2,z3⟩:=C1 hx0 hx32
 obtain⟨s,hsz⟩: ∃s,s=lz x:=⟨_,rfl⟩
 rw[<- hsz]at hz z1 z2 z3
 clear hsz
 obtain⟨V1,V2⟩:=Co hn hx ⟨z2,z3⟩ z1
 have hp2:=Nat.two_pow_pos s
 have hV:0<b*2^s:=Nat.mul_pos hb hp2
 have Fh:=l4 (aK b) s (aY _) z1 (by omega)
 have sl2:=l4 (aK a) s (aY _) z1 (by omega)
 rw[aG,hn]at Fh
 rw[aG,hm]at sl2
 have ha':=tI a
 rw[hm]at ha'
 obtain⟨st1,st2⟩:=x6 (s:=s) ha' hbl
 have hA:a*2^s<b*2^s*4294967296^(m+1):=by
  have h2:4294967296^(n+2+m)<=b*4294967296^(m+1):=by
   have e:4294967296^(n+2+m)=4294967296^(n+1)*4294967296^(m+1):=by rw[<- Nat.pow_add];congr 1;omega
   rw[e]
   exact Nat.mul_le_mul_right _ hbl
  rw[Nat.mul_right_comm]
  exact Nat.mul_lt_mul_of_pos_right (Nat.lt_of_lt_of_le ha' h2) hp2
 obtain⟨en1,en2⟩:=C7 (a:=a) (b:=b) (s:=s)
 have e1:((n+2:Nat):Int)-1=((n+1:Nat):Int):=by omega
 have e2:((n+2+m:Nat):Int)-((n+2:Nat):Int)=(m:Int):=by omega
 have e3:(m:Int)+1=((m+1:Nat):Int):=by omega
 have tk:=xT (x:=b*2^s) (show n+2<=n+2+1 by omega)
 have kdh:=fun k=>DH (A:=a*2^s) (k:=k) V1 V2
 have hQ: ∀k,k<=m+1->iI (a*2^s) (b*2^s) k<4294967296^(m+1):=fun k hk=>DO hA hk
 have hend:a%b*2^s<4294967296^(n+2+m+1):=by
  have h3:a%b<b:=Nat.mod_lt _ hb
  have h4:a%b*2^s<=b*2^s:=Nat.mul_le_mul_right _ (Nat.le_of_lt h3)
  have h5:4294967296^(n+2)<=4294967296^(n+2+m+1):=Nat.pow_le_pow_right (by omega) (by omega)
  omega
 have hmod:a%b<4294967296^(n+2+m+1):=Nat.lt_of_le_of_lt (Nat.le_mul_of_pos_right _ hp2) hend
 have hrw:=fun k (hk:k<=m)=>y9 (A:=a*2^s) (V:=b*2^s) (k:=k) (nb:=n+2) (na:=n+2+m) hV (Nat.le_of_lt V1) (by omega)
 have hrr:=fun k (hk:k<=m)=>Dl (A:=a*2^s) (V:=b*2^s) (k:=k) (nb:=n+2) (na:=n+2+m) (by omega)
 have hqs:=fun k (hk:k<=m)=>B4 (A:=a*2^s) (V:=b*2^s) (k:=k) (m:=m+1) hV (by omega) (hQ _ (by omega))
 have hdiv:a/b<4294967296^(m+1):=by have:=hQ 0 (by omega);rwa[en2]at this
 have sr:=pR (b9 (n+2+m+1) (a%b*2^s)) s (jz _ _) z1 (by rw[b6];omega) (by rw[b6];omega)
 rw[eR hend,b6,Nat.mul_div_cancel _ hp2]at sr
 have ht1:=dQ (b9 (m+1) (a/b)) (by rw[b6];omega)
 rw[mw hdiv]at ht1
 have ht2:=dQ (b9 (n+2+m+1) (a%b)) (by rw[b6];omega)
 rw[mw hmod]at ht2
 have hlV:=b6 (n+2) (b*2^s)
 refine aC Tryz.func120 rfl (by kernel_rfl) ?_;rw[Tryz.ntmps120]
 (refine aa [] fun K hK=>?_;simp(disch:=omega) only[kc,ab,bO,Nat.reduceAdd,List.replicate,ac,Value.oneCell'];apply hK)
 refine ae (jg (S:=⟨[bO (aK a),bO (aK b),jk,jk,jk,jk,jk,jk,jk,jk,jk,jk,jk,jk,jk,jk,jk,jk,jk,jk,jk,jk,jk,jk,jk,jk,jk,jk,jk,jk,jk,jk,jk,jk,jk,jk,jk,jk,jk,jk,jk,jk,jk,jk,jk,jk,jk,jk,jk,jk,jk,jk,jk,jk,jk,jk,jk,jk,jk,jk,jk,jk,jk,jk,jk,jk,jk,jk,jk,jk,jk,jk,jk,jk,jk,jk,jk,jk,jk,jk,jk,jk,jk,jk,jk,jk,jk,jk,jk,jk,jk,jk,jk,jk,jk,jk,jk,jk,jk,jk,jk,jk,jk,jk],Hm []⟩) (aU ?_) ?_)
 ·(refine aa [⟨2,_,_,_,hc⟩] fun K hK=>?_;simp(disch:=omega) only[kc,bO,ar.a,ab,Nat.reduceAdd,ak,aT,aI,List.find?_cons,aQ,bo,CallRes.plain,aR,aV,az,noRefTV,ap,aS,aP,aj,ac,Value.oneCell',ai,bj];apply hK)
  refine af rfl (fun h=>by simp at h<;>omega) (fun _=>?_)
  (refine aa [] fun K hK=>?_;simp(disch:=omega) only[kc,ab,Nat.reduceAdd,aq,ao,ah,aD,aj,ac,Value.oneCell',ai,bj];apply hK)
  refine af rfl (fun h=>by simp at h<;>omega) (fun _=>?_)
  (refine aa [] fun K hK=>?_;simp(disch:=omega) only[kc,ab,Nat.reduceAdd,aq,ao,ah,aD,aj,ac,Value.oneCell',ai,bj];apply hK)
  refine af rfl (fun h=>by simp at h<;>omega) (fun _=>ay (am trivial ?_))
  simp[cu,bD,bA]
 ·(refine aa [⟨6,_,_,_,hz⟩] fun K hK=>?_;simp(disch:=omega) only[kc,ar.a,ab,Nat.reduceAdd,bO,Hm,aq,ao,ah,aD,hn,aj,ac,Value.oneCell',ai,e1,bC,ag,an,bI,hx,fU,aO,ax,bu,ak,aT,aI,List.find?_cons,aQ,bo,CallRes.plain,aR,aV,az,noRefTV,ap,aS,aP];apply hK)
  (refine aa [⟨2,_,_,_,Fh⟩] fun K hK=>?_;simp(disch:=omega) only[kc,bO,ar.a,ab,Nat.reduceAdd,ak,aT,aI,List.find?_cons,aQ,bo,CallRes.plain,List.isEmpty_cons,aR,aV,az,Bool.not_false,noRefTV,ap,Bool.or_false,aS,aP,db,mb,aq,ao,ah,aD,hn,gC,eS,an,au,aO,Nat.reduceLeDiff,Nat.add_zero,reduceCtorEq,false_and,and_false,bL];apply hK)
  refine bX.weak ((d4 61 (dL rfl)).trans (am (tm:=[bO (aK a),bO (aK b),jk,jk,jk,jk,jk,jk,jk,.raw (.int .i64 (s:Int)),bO (b9 (n+2) (b*2^s)),jk,jk,jk,jk,jk,jk,jk,jk,jk,jk,jk,jk,jk,jk,jk,jk,jk,jk,jk,jk,jk,jk,jk,jk,jk,jk,jk,jk,jk,jk,jk,jk,jk,jk,jk,jk,jk,jk,jk,jk,jk,jk,jk,jk,jk,jk,jk,jk,jk,jk,jk,jk,jk,jk,jk,jk,jk,jk,jk,jk,jk,jk,jk,jk,jk,jk,jk,jk,jk,jk,jk,jk,jk,jk,jk,jk,jk,jk,jk,jk,jk,jk,jk,jk,jk,jk,jk,jk,jk,jk,jk,jk,jk]) (l:=[]) trivial (by simp[cu,bD,bA,gR,eX,au,Hm,ew,d8,tk]))) ?_
  generalize hvv:b9 (n+2) (b*2^s)=vv at*
  (refine aa [⟨2,_,_,_,sl2⟩] fun K hK=>?_;simp(disch:=omega) only[kc,bO,ar.a,ab,Nat.reduceAdd,Hm,ak,aT,aI,List.find?_cons,aQ,bo,CallRes.plain,List.isEmpty_cons,aR,aV,az,Bool.not_false,noRefTV,ap,Bool.or_false,aS,aP,db,mb];apply hK)
  (refine aa [] fun K hK=>?_;simp(disch:=omega) only[kc,ab,Nat.reduceAdd,aq,ao,ah,aD,hm,hn,aj,ai,e2,bC,ac,Value.oneCell',e3,ca,aT,aI,cp,aO,dz,Int.natCast_nonneg,and_true,iV,bL,au,Nat.reduceEqDiff];apply hK)
  (refine ae (aa [] fun K hK=>?_);simp(disch:=omega) only[kc,ab,Nat.reduceAdd,aq,ao,ah,aD,hm,hn,aj,ai,e2,bC];apply hK)
  generalize hAe:a*2^s=A at*
  generalize hVe:b*2^s=V at*
  refine bT (G:=uu (m+1)) (fun g=>⟨[jk,bO (aK b),jk,jk,.one (.sl 74 0 0 (m+1)),jk,jk,jk,jk,.raw (.int .i64 (s:Int)),bO vv,.one (.sl 67 0 0 (n+2+m+1)),.raw (.int .i64 ((g.i:Int)-1)),jk,jk,jk,jk,jk,jk,jk,jk,jk,jk,jk,jk,jk,jk,jk,jk,jk,jk,jk,jk,jk,jk,jk,jk,jk,jk,jk,jk,jk,jk,jk,jk,jk,jk,jk,jk,jk,jk,jk,jk,jk,jk,jk,jk,jk,jk,jk,jk,jk,jk,jk,jk,jk,jk,jk,jk,jk,jk,jk,jk,jk,jk,jk,jk,jk,jk,jk,jk,jk,jk,jk,jk,jk,jk,jk,jk,jk,jk,jk,jk,jk,jk,jk,jk,jk,jk,jk,jk,jk,jk,jk],Hm [(67,[⟨118,1,lc fU (b9 (n+2+m+1) (dY A V g.i))⟩]),(74,[⟨118,1,lc fU (b9 (m+1) (iI A V g.i))⟩])]⟩) (fun g=>g.i) ⟨m+1,by omega⟩ ?_ ?_
  ·refine am ⟨?_,?_,trivial⟩ ?_
   ·simp[st1,au,Hm]
   ·simp[st2,au,Hm,qT]
   ·simp[cu,bD,bA]
  ·rintro⟨i,hi⟩
   simp only
   by_cases h0:0<i
   ·obtain⟨k,rfl⟩: ∃k,i=k+1:=⟨i-1,by omega⟩
    have hk:k<=m:=by omega
    have ek:((k+1:Nat):Int)-1=(k:Int):=by omega
    have ek2:(k:Int)+((n+2:Nat):Int)+1=((k+n+3:Nat):Int):=by omega
    have ek3:k+n+3-k=n+3:=by omega
    obtain⟨v1,v2,u2,u1,u0,K,nU,nV⟩:=kdh k
    have w1:=hrw k hk
    have w2:=hrr k hk
    rw[show n+2+1=n+3 from rfl]at w1 w2
    have w3:=hqs k hk
    have gq:=eH (x:=iI A V (k+1)) (show k<m+1 by omega)
    have hds:=pL (b9 k (dY A V (k+1))) _ (b9 (n+2+m-(k+(n+2))) (dY A V (k+1)/4294967296^(k+(n+2)+1))) _ k n v1 v2 u2 u1 u0 (b6 _ _) K (by rw[<- w2,b6];omega)
    rw[nU,nV]at hds
    rw[w1,<- w2]at hds
    have qd:=lV (A:=A) (k:=k) hV
    have l1:=b6 (m+1) (iI A V (k+1))
    have l2:=b6 (n+2+m+1) (dY A V (k+1))
    obtain⟨R',hR'⟩: ∃R',R'=b9 (n+2+m+1) (dY A V k):=⟨_,rfl⟩
    obtain⟨Q',hQ'⟩: ∃Q',Q'=b9 (m+1) (iI A V k):=⟨_,rfl⟩
    rw[<- hR']at hds
    rw[<- hQ']at w3
    clear w1 w2 K nU nV
    generalize dY A V (k+1)/4294967296^k/V=d at*
    generalize iI A V (k+1)/4294967296^k%4294967296=od at*
    generalize b9 (m+1) (iI A V (k+1))=Q0 at*
    generalize b9 (n+2+m+1) (dY A V (k+1))=R0 at*
    (refine ae (aa [] fun K hK=>?_);simp(disch:=omega) only[kc,ab,bO,ek,Hm,aj,ac,Value.oneCell',ai,Int.natCast_nonneg,bE];apply hK)
    refine af rfl (fun _=>ay ?_) (fun h=>by simp at h<;>omega)
    refine ae (aU ?_)
    ((refine vF 11 hds 67 0 [] [] (by simp) (by omega) (kw rfl) (dX _ _) (by simp) (by decide) fun K hK=>?_);simp(disch:=omega) only[kc,ab,Nat.reduceAdd,aq,ao,ah,aD,hn,aj,ai,bC,ac,Value.oneCell',ek2,gC,eS,an,Nat.reduceEqDiff,aO,Nat.reduceLeDiff,ek3,bL];apply hK;refine⟨⟨rfl,rfl⟩,by simp,?_⟩;intro K hK;simp(disch:=omega) only[kc,Nat.reduceAdd,ab,yO,CM,Nat.reduceEqDiff,ag,ao,an,ah,au,cH,aO,bL,aB,dr,bN,b8,fU,gq,cellsOf,Nat.le_refl,isPure,putCells,dy,w3,aH,aL];apply hK)
    show bX _ _ _ _
    ((refine aX [] [] (by simp) fun K hK=>?_);simp(disch:=omega) only[kc,ab,Nat.reduceAdd,aj,ac,Value.oneCell',ai,bC];apply hK)
    refine⟨⟨k,by omega⟩,by simp only;omega,am ⟨?_,?_,trivial⟩ ?_⟩
    ·simp[au,Hm,hR']
    ·simp[au,Hm,hQ']
    ·simp[cu,bD,bA]
   ·have hi0:i=0:=by omega
    subst hi0
    rw[en1,en2]
    generalize b9 (n+2+m+1) (a%b*2^s)=R0 at*
    unfold tU
    have l1:=b6 (m+1) (a/b)
    have l2:=b6 (n+2+m+1) (a%b)
    generalize b9 (n+2+m+1) (a%b)=R1 at*
    generalize b9 (m+1) (a/b)=Q1 at*
    generalize a/b=q at*
    generalize a%b=r at*
    (refine ae (aa [] fun K hK=>?_);simp(disch:=omega) only[kc,ab,bO,Hm,aj,ac,Value.oneCell',ai,bj];apply hK)
    refine af rfl (fun h=>by simp at h<;>omega) (fun _=>bF ?_)
    show bX _ _ _ _
    (refine pk 2 sr 67 0 [] [] (by simp) (by omega) (kw rfl) (dX _ _) (by simp) (by decide) fun K hK=>?_;simp(disch:=omega) only[kc,ab];apply hK;refine⟨⟨rfl,rfl⟩,by simp,?_⟩;intro K hK;simp(disch:=omega) only[kc,Nat.reduceAdd,yO,CM,Nat.reduceEqDiff];apply hK)
    refine bX.weak ((d4 67 (dL rfl)).trans ((d4 74 (dL rfl)).trans (am (tm:=[jk,jk,jk,jk,bO Q1,jk,jk,jk,jk,jk,jk,bO R1,jk,jk,jk,jk,jk,jk,jk,jk,jk,jk,jk,jk,jk,jk,jk,jk,jk,jk,jk,jk,jk,jk,jk,jk,jk,jk,jk,jk,jk,jk,jk,jk,jk,jk,jk,jk,jk,jk,jk,jk,jk,jk,jk,jk,jk,jk,jk,jk,jk,jk,jk,jk,jk,jk,jk,jk,jk,jk,jk,jk,jk,jk,jk,jk,jk,jk,jk,jk,jk,jk,jk,jk,jk,jk,jk,jk,jk,jk,jk,jk,jk,jk,jk,jk,jk,jk,jk,jk,jk,jk,jk,jk]) (l:=[]) trivial (by simp[cu,bD,bA,gR,eX,au,Hm,ew,d8,List.take_of_length_le,l1,l2])))) ?_
    (refine aa [⟨1,_,_,_,ht1⟩,⟨3,_,_,_,ht2⟩] fun K hK=>?_;simp(disch:=omega) only[kc,bO,ar.a,ab,Nat.reduceAdd,Hm,ak,aT,aI,List.find?_cons,aQ,bo,CallRes.plain,aR,aV,az,noRefTV,ap,aS,aP,Nat.reduceBEq];apply hK)
    (refine aE ⟨.inr rfl,aJ rfl ?_ rfl⟩;simp(disch:=omega) only[bK,Tryz.results120,dc,aN,List.getElem?_cons_succ,List.getElem?_cons_zero,Option.bind_some,b7,Option.map_some])
theorem DF {a b:Int} (hb:b≠0) (ha:0<=a):a/b=eY (decide (b<0)) (a.natAbs/b.natAbs)/\a%b=eY false (a.natAbs%b.natAbs):=by
 have e1:tr a b=eY false (a.natAbs%b.natAbs):=by unfold tr;rw[decide_eq_false (by omega)]
 have e2:tq a b=eY (decide (b<0)) (a.natAbs/b.natAbs):=by unfold tq;rw[decide_eq_false (show ¬a<0 by omega)];by_cases h:b<0<;>simp[h]
 rw[<- e1,<- e2]
 exact u6 hb (by rw[e1];unfold eY;simp;omega)
theorem B5 {a b:Int} (hb:b≠0) (ha:a<0) (h:a.natAbs%b.natAbs=0):a/b=eY (!decide (b<0)) (a.natAbs/b.natAbs)/\a%b=eY false (a.natAbs%b.natAbs):=by
 have e1:tr a b=eY false (a.natAbs%b.natAbs):=by unfold tr;rw[h];unfold eY;simp
 have e2:tq a b=eY (!decide (b<0)) (a.natAbs/b.natAbs):=by unfold tq;rw[decide_eq_true ha];by_cases h:b<0<;>simp[h]
 rw[<- e1,<- e2]
 exact u6 hb (by rw[e1,h];unfold eY;simp)
theorem D0 {a b:Int} (hb:b≠0) (ha:a<0) (h:a.natAbs%b.natAbs≠0):a/b=eY (!decide (b<0)) (a.natAbs/b.natAbs+1)/\a%b=eY false (b.natAbs-a.natAbs%b.natAbs):=by
 have e1:tr a b= -((a.natAbs%b.natAbs:Nat):Int):=by unfold tr;rw[decide_eq_true ha];rfl
 have hlt:a.natAbs%b.natAbs<b.natAbs:=Nat.mod_lt _ (by omega)
 by_cases hbn:b<0
 ·obtain⟨p1,p2⟩:=wy (a:=a) hbn (by rw[e1];omega)
  have e2:tq a b=((a.natAbs/b.natAbs:Nat):Int):=by unfold tq;rw[decide_eq_true ha,decide_eq_true hbn];rfl
  rw[p1,p2,e1,e2,decide_eq_true hbn]
  generalize a.natAbs/b.natAbs=q at*
  generalize a.natAbs%b.natAbs=r at*
  unfold eY
  constructor<;>simp<;>omega
 ·obtain⟨p1,p2⟩:=wl (a:=a) (show 0<b by omega) (by rw[e1];omega)
  have e2:tq a b= -((a.natAbs/b.natAbs:Nat):Int):=by unfold tq;rw[decide_eq_true ha,decide_eq_false hbn];rfl
  rw[p1,p2,e1,e2,decide_eq_false hbn]
  generalize a.natAbs/b.natAbs=q at*
  generalize a.natAbs%b.natAbs=r at*
  unfold eY
  constructor<;>simp<;>omega
def Bd (z:Int):Prop:=Sz z 268435456
theorem xA (a b:Int) (hb0:b≠0) (ha:Bd a) (hb:Bd b):CallC Tryz.prog 88 [tZ a,tZ b] ⟨[],.tup [(true,cZ (a/b)),(true,cZ (a%b)),(false,[.p (.raw (.bool true))])]⟩:=by
 have la:(aK a.natAbs).length<=268435456:=gB ha
 have lb:(aK b.natAbs).length<=268435456:=gB hb
 have t1:=dQ (aK a.natAbs) (by omega)
 have t2:=dQ (aK b.natAbs) (by omega)
 rw[fx]at t1 t2
 have hl0:(aK b.natAbs).length≠0:=fun h=>hb0 (by have:=eF.1 h;omega)
 have hd:=xM a.natAbs b.natAbs (by omega) la lb
 unfold tU at hd
 have hr0:=eF (n:=a.natAbs%b.natAbs)
 have hlt:a.natAbs%b.natAbs<b.natAbs:=Nat.mod_lt _ (by omega)
 have lq:=kP (show a.natAbs/b.natAbs<=a.natAbs from Nat.div_le_self _ _)
 have lr:=kP (Nat.le_of_lt hlt)
 by_cases han:a<0
 ·by_cases hr:a.natAbs%b.natAbs=0
  ·obtain⟨p1,p2⟩:=B5 hb0 han hr
   have h8:=dP (!decide (b<0)) (a.natAbs/b.natAbs)
   have h9:=dP false (a.natAbs%b.natAbs)
   rw[<- p1]at h8
   rw[<- p2]at h9
   have hl:(aK (a.natAbs%b.natAbs)).length=0:=hr0.2 hr
   clear p1 p2
   generalize a.natAbs/b.natAbs=q at*
   generalize a.natAbs%b.natAbs=r at*
   generalize a/b=Q at*
   generalize a%b=R at*
   refine aC Tryz.func88 rfl (by kernel_rfl) ?_;rw[Tryz.ntmps88]
   (refine aa [] fun K hK=>?_;simp(disch:=omega) only[kc,ab,Nat.reduceAdd,tZ,bE,List.replicate,cd,aT,aI,cellsOf,isPure,bL,au,Nat.reduceEqDiff,bs,aZ,Value.oneCell',cH,ac];apply hK)
   (refine aa [⟨2,_,_,_,t2⟩] fun K hK=>?_;simp(disch:=omega) only[kc,bO,ar.a,ab,Nat.reduceAdd,aw,ao,bH,cb,au,Nat.reduceEqDiff,cH,ax,bW,ak,aT,aI,List.find?_cons,aQ,bo,CallRes.plain,aR,aV,az,noRefTV,ap,aS,aP];apply hK)
   (refine ae (aa [] fun K hK=>?_);simp(disch:=omega) only[kc,ab,Nat.reduceAdd,aq,ao,ah,aD,aj,ac,Value.oneCell',ai,bj];apply hK)
   refine af rfl (fun h=>by simp at h<;>omega) (fun _=>ay ?_)
   show bX _ _ _ _
   (refine aa [⟨2,_,_,_,t1⟩,⟨4,_,_,_,hd⟩] fun K hK=>?_;simp(disch:=omega) only[kc,bO,ar.a,ab,Nat.reduceAdd,aw,ao,bH,cb,au,Nat.reduceEqDiff,cH,ax,bW,ak,aT,aI,List.find?_cons,aQ,bo,CallRes.plain,aR,aV,az,noRefTV,ap,aS,aP,Nat.reduceBEq,bz,aj];apply hK)
   (refine aa [] fun K hK=>?_;simp(disch:=omega) only[kc,ab,Nat.reduceAdd,aw,ao,bJ,cC,Nat.add_zero,au,Nat.reduceEqDiff,cH,ax,cg];apply hK)
   refine ae (aU ?_)
   refine ae (aU ?_)
   refine ae (aU ?_)
   (refine ae (ae (aa [] fun K hK=>?_));simp(disch:=omega) only[kc,ab,Nat.reduceAdd,aw,ao,bJ,cC,Nat.add_zero,au,Nat.reduceEqDiff,cH,ax,cg,aA,aq,ah,aD,aj,ac,Value.oneCell',bL,ai,bj,aM];apply hK)
   refine af rfl (fun h=>by simp at h<;>omega) (fun _=>ay ?_)
   show bX _ _ _ _
   (refine aa [] fun K hK=>?_;simp(disch:=omega) only[kc,ab,Nat.reduceAdd,aw,ao,bJ,cC,Nat.add_zero,au,Nat.reduceEqDiff,cH,ax,cg];apply hK)
   refine af rfl (fun _=>bF ?_) (fun h=>by simp at h<;>omega)
   show bX _ _ _ _
   (refine aa [] fun K hK=>?_;simp(disch:=omega) only[kc,ab,Nat.reduceAdd,cX,aj,eA];apply hK)
   refine bF ?_
   show bX _ _ _ _
   (refine aa [⟨2,_,_,_,h8⟩,⟨4,_,_,_,h9⟩] fun K hK=>?_;simp(disch:=omega) only[kc,bO,tZ,ar.a,ab,Nat.reduceAdd,ak,aT,aI,List.find?_cons,aQ,bo,CallRes.plain,aR,aV,az,noRefTV,ap,aS,aP,Nat.reduceBEq,ac,Value.oneCell',aB,dr,bN,aF,au,Nat.reduceEqDiff,cH,cellsOf,Nat.le_refl,isPure,bL,putCells,aH,aL];apply hK)
   (refine aE ⟨.inr rfl,aJ rfl ?_ rfl⟩;simp(disch:=omega) only[kc,bK,Tryz.results88,dc,aN,au,Nat.reduceEqDiff,cH,ax,aF,aW,Nat.reduceAdd,Nat.le_refl,b7,cZ])
  ·obtain⟨p1,p2⟩:=D0 hb0 han hr
   have h6:=qR (aK (a.natAbs/b.natAbs)) [1] (aY _) (by intro x hx;simp at hx;omega) (by omega) (by simp)
   rw[aG,show natV [1]=1 from rfl,show bO [1]= .one (.p (.sl [[.raw (.int .u32 1)]]))from rfl]at h6
   have h7:=my (aK b.natAbs) (aK (a.natAbs%b.natAbs)) (aY _) (aY _) lr (by rw[aG,aG];omega) (by omega)
   rw[aG,aG]at h7
   have h8:=dP (!decide (b<0)) (a.natAbs/b.natAbs+1)
   have h9:=dP false (b.natAbs-a.natAbs%b.natAbs)
   rw[<- p1]at h8
   rw[<- p2]at h9
   have hl:(aK (a.natAbs%b.natAbs)).length≠0:=fun h=>hr (hr0.1 h)
   clear p1 p2
   generalize b.natAbs-a.natAbs%b.natAbs=br at*
   generalize a.natAbs/b.natAbs=q at*
   generalize a.natAbs%b.natAbs=r at*
   generalize a/b=Q at*
   generalize a%b=R at*
   refine aC Tryz.func88 rfl (by kernel_rfl) ?_;rw[Tryz.ntmps88]
   (refine aa [] fun K hK=>?_;simp(disch:=omega) only[kc,ab,Nat.reduceAdd,tZ,bE,List.replicate,cd,aT,aI,cellsOf,isPure,bL,au,Nat.reduceEqDiff,bs,aZ,Value.oneCell',cH,ac];apply hK)
   (refine aa [⟨2,_,_,_,t2⟩] fun K hK=>?_;simp(disch:=omega) only[kc,bO,ar.a,ab,Nat.reduceAdd,aw,ao,bH,cb,au,Nat.reduceEqDiff,cH,ax,bW,ak,aT,aI,List.find?_cons,aQ,bo,CallRes.plain,aR,aV,az,noRefTV,ap,aS,aP];apply hK)
   (refine ae (aa [] fun K hK=>?_);simp(disch:=omega) only[kc,ab,Nat.reduceAdd,aq,ao,ah,aD,aj,ac,Value.oneCell',ai,bj];apply hK)
   refine af rfl (fun h=>by simp at h<;>omega) (fun _=>ay ?_)
   show bX _ _ _ _
   (refine aa [⟨2,_,_,_,t1⟩,⟨4,_,_,_,hd⟩] fun K hK=>?_;simp(disch:=omega) only[kc,bO,ar.a,ab,Nat.reduceAdd,aw,ao,bH,cb,au,Nat.reduceEqDiff,cH,ax,bW,ak,aT,aI,List.find?_cons,aQ,bo,CallRes.plain,aR,aV,az,noRefTV,ap,aS,aP,Nat.reduceBEq,bz,aj];apply hK)
   (refine aa [] fun K hK=>?_;simp(disch:=omega) only[kc,ab,Nat.reduceAdd,aw,ao,bJ,cC,Nat.add_zero,au,Nat.reduceEqDiff,cH,ax,cg];apply hK)
   refine ae (aU ?_)
   refine ae (aU ?_)
   refine ae (aU ?_)
   (refine ae (ae (aa [] fun K hK=>?_));simp(disch:=omega) only[kc,ab,Nat.reduceAdd,aw,ao,bJ,cC,Nat.add_zero,au,Nat.reduceEqDiff,cH,ax,cg,aA,aq,ah,aD,aj,ac,Value.oneCell',bL,ai,bE,aM];apply hK)
   refine af rfl (fun _=>bF ?_) (fun h=>by simp at h<;>omega)
   show bX _ _ _ _
   (refine aa [⟨2,_,_,_,h6⟩] fun K hK=>?_;simp(disch:=omega) only[kc,bO,ar.a,ab,Nat.reduceAdd,co,aT,aI,ah,cp,aO,fW,ac,Value.oneCell',cellsOf,isPure,Nat.reduceMul,Nat.reduceLeDiff,List.contains_nil,kW,bL,ak,List.find?_cons,aQ,bo,CallRes.plain,aR,aV,az,noRefTV,ap,aS,aP];apply hK)
   ((refine aX [⟨2,_,_,_,h7⟩] [] (by simp) fun K hK=>?_);simp(disch:=omega) only[kc,bO,ar.a,ab,Nat.reduceAdd,ak,aT,aI,List.find?_cons,aQ,bo,CallRes.plain,aR,aV,az,noRefTV,ap,aS,aP];apply hK)
   show bX _ _ _ _
   (refine aa [] fun K hK=>?_;simp(disch:=omega) only[kc,ab,Nat.reduceAdd,cX,aj,eA];apply hK)
   refine bF ?_
   show bX _ _ _ _
   (refine aa [⟨2,_,_,_,h8⟩,⟨4,_,_,_,h9⟩] fun K hK=>?_;simp(disch:=omega) only[kc,bO,tZ,ar.a,ab,Nat.reduceAdd,ak,aT,aI,List.find?_cons,aQ,bo,CallRes.plain,aR,aV,az,noRefTV,ap,aS,aP,Nat.reduceBEq,ac,Value.oneCell',aB,dr,bN,aF,au,Nat.reduceEqDiff,cH,cellsOf,Nat.le_refl,isPure,bL,putCells,aH,aL];apply hK)
   (refine aE ⟨.inr rfl,aJ rfl ?_ rfl⟩;simp(disch:=omega) only[kc,bK,Tryz.results88,dc,aN,au,Nat.reduceEqDiff,cH,ax,aF,aW,Nat.reduceAdd,Nat.le_refl,b7,cZ])
 ·obtain⟨p1,p2⟩:=DF hb0 (show 0<=a by omega)
  have h8:=dP (decide (b<0)) (a.natAbs/b.natAbs)
  have h9:=dP false (a.natAbs%b.natAbs)
  rw[<- p1]at h8
  rw[<- p2]at h9
  clear p1 p2
  generalize a.natAbs/b.natAbs=q at*
  generalize a.natAbs%b.natAbs=r at*
  generalize a/b=Q at*
  generalize a%b=R at*
  refine aC Tryz.func88 rfl (by kernel_rfl) ?_;rw[Tryz.ntmps88]
  (refine aa [] fun K hK=>?_;simp(disch:=omega) only[kc,ab,Nat.reduceAdd,tZ,bj,List.replicate,cd,aT,aI,cellsOf,isPure,bL,au,Nat.reduceEqDiff,bs,aZ,Value.oneCell',cH,ac];apply hK)
  (refine aa [⟨2,_,_,_,t2⟩] fun K hK=>?_;simp(disch:=omega) only[kc,bO,ar.a,ab,Nat.reduceAdd,aw,ao,bH,cb,au,Nat.reduceEqDiff,cH,ax,bW,ak,aT,aI,List.find?_cons,aQ,bo,CallRes.plain,aR,aV,az,noRefTV,ap,aS,aP];apply hK)
  (refine ae (aa [] fun K hK=>?_);simp(disch:=omega) only[kc,ab,Nat.reduceAdd,aq,ao,ah,aD,aj,ac,Value.oneCell',ai,bj];apply hK)
  refine af rfl (fun h=>by simp at h<;>omega) (fun _=>ay ?_)
  show bX _ _ _ _
  (refine aa [⟨2,_,_,_,t1⟩,⟨4,_,_,_,hd⟩] fun K hK=>?_;simp(disch:=omega) only[kc,bO,ar.a,ab,Nat.reduceAdd,aw,ao,bH,cb,au,Nat.reduceEqDiff,cH,ax,bW,ak,aT,aI,List.find?_cons,aQ,bo,CallRes.plain,aR,aV,az,noRefTV,ap,aS,aP,Nat.reduceBEq,bz,aj];apply hK)
  (refine aa [] fun K hK=>?_;simp(disch:=omega) only[kc,ab,Nat.reduceAdd,aw,ao,bJ,cC,Nat.add_zero,au,Nat.reduceEqDiff,cH,ax,cg];apply hK)
  refine ae (aU ?_)
  refine ae (aU ?_)
  refine ae (aU ?_)
  (refine ae (ae (aa [] fun K hK=>?_));simp(disch:=omega) only[kc,ab,Nat.reduceAdd,aw,ao,bJ,cC,Nat.add_zero,au,Nat.reduceEqDiff,cH,ax,cg,aA,aq,ah,Option.map_none,aj,ac,Value.oneCell',aM];apply hK)
  refine af rfl (fun h=>by simp at h<;>omega) (fun _=>ay ?_)
  show bX _ _ _ _
  (refine aa [] fun K hK=>?_;simp(disch:=omega) only[kc,ab,Nat.reduceAdd,aw,ao,bJ,cC,Nat.add_zero,au,Nat.reduceEqDiff,cH,ax,cg];apply hK)
  refine af rfl (fun h=>by simp at h<;>omega) (fun _=>ay ?_)
  refine bF ?_
  show bX _ _ _ _
  (refine aa [⟨2,_,_,_,h8⟩,⟨4,_,_,_,h9⟩] fun K hK=>?_;simp(disch:=omega) only[kc,bO,tZ,ar.a,ab,Nat.reduceAdd,ak,aT,aI,List.find?_cons,aQ,bo,CallRes.plain,aR,aV,az,noRefTV,ap,aS,aP,Nat.reduceBEq,ac,Value.oneCell',aB,dr,bN,aF,au,Nat.reduceEqDiff,cH,cellsOf,Nat.le_refl,isPure,bL,putCells,aH,aL];apply hK)
  (refine aE ⟨.inr rfl,aJ rfl ?_ rfl⟩;simp(disch:=omega) only[kc,bK,Tryz.results88,dc,aN,au,Nat.reduceEqDiff,cH,ax,aF,aW,Nat.reduceAdd,Nat.le_refl,b7,cZ])
structure Fq (M:List (List Int)) where
 i:Nat
 hi:i<=M.length
 ok: ∀r∈M.take i,r.length=(M.headD []).length
theorem s7 (M:List (List Int)):CallC Tryz.prog 45 [ey M] ⟨[],Ef M⟩:=by
 by_cases h1:M.length<1
 ·rw[eD (fun h=>by have:=h.1;omega)]
  refine aC Tryz.func45 rfl (by kernel_rfl) ?_;rw[Tryz.ntmps45]
  (refine aa [] fun K hK=>?_;simp(disch:=omega) only[kc,ab,Nat.reduceAdd,ey,List.replicate,ac,Value.oneCell'];apply hK)
  (refine ae (aa [] fun K hK=>?_);simp(disch:=omega) only[kc,ab,Nat.reduceAdd,aq,ao,bi,aD,aj,ac,Value.oneCell',ai,bE,aA,reduceCtorEq,Option.map_none,aM];apply hK)
  refine af rfl (fun _=>?_) (fun h=>by simp at h<;>omega)
  (refine aa [] fun K hK=>?_;simp(disch:=omega) only[kc,ab,Nat.reduceAdd,ac,Value.oneCell'];apply hK)
  (refine aE ⟨.inr rfl,aJ rfl ?_ rfl⟩;simp(disch:=omega) only[bK,Tryz.results45,dc,aN,List.getElem?_cons_succ,List.getElem?_cons_zero,Option.bind_some,b7,Option.map_some])
 by_cases h2:16<M.length
 ·rw[eD (fun h=>by have:=h.2.1;omega)]
  refine aC Tryz.func45 rfl (by kernel_rfl) ?_;rw[Tryz.ntmps45]
  (refine aa [] fun K hK=>?_;simp(disch:=omega) only[kc,ab,Nat.reduceAdd,ey,List.replicate,ac,Value.oneCell'];apply hK)
  (refine ae (aa [] fun K hK=>?_);simp(disch:=omega) only[kc,ab,Nat.reduceAdd,aq,ao,bi,aD,aj,ac,Value.oneCell',ai,bj,aA,bL,bE,aM];apply hK)
  refine af rfl (fun _=>?_) (fun h=>by simp at h<;>omega)
  (refine aa [] fun K hK=>?_;simp(disch:=omega) only[kc,ab,Nat.reduceAdd,ac,Value.oneCell'];apply hK)
  (refine aE ⟨.inr rfl,aJ rfl ?_ rfl⟩;simp(disch:=omega) only[bK,Tryz.results45,dc,aN,List.getElem?_cons_succ,List.getElem?_cons_zero,Option.bind_some,b7,Option.map_some])
 have h0:=fV (M:=M) (by omega)
 have hmem0:M.headD []∈M:=List.mem_of_getElem? h0
 by_cases c1:(M.headD []).length<1
 ·rw[eD (fun h=>by have:=(h.2.2 _ hmem0).1;omega)]
  refine aC Tryz.func45 rfl (by kernel_rfl) ?_;rw[Tryz.ntmps45]
  (refine aa [] fun K hK=>?_;simp(disch:=omega) only[kc,ab,Nat.reduceAdd,ey,List.replicate,ac,Value.oneCell'];apply hK)
  (refine ae (aa [] fun K hK=>?_);simp(disch:=omega) only[kc,ab,Nat.reduceAdd,aq,ao,bi,aD,aj,ac,Value.oneCell',ai,bj,aA,bL,aM];apply hK)
  refine af rfl (fun h=>by simp at h<;>omega) (fun _=>ay ?_)
  show bX _ _ _ _
  (refine aa [] fun K hK=>?_;simp(disch:=omega) only[kc,ab,Nat.reduceAdd,ag,ao,ac,Value.oneCell',an,Int.reduceToNat,bi,bI,h0,fR,di,ax,dm,aq,ch,aD];apply hK)
  (refine ae (aa [] fun K hK=>?_);simp(disch:=omega) only[kc,ab,Nat.reduceAdd,aj,ac,Value.oneCell',ai,bE,aA,reduceCtorEq,Option.map_none,aM];apply hK)
  refine af rfl (fun _=>?_) (fun h=>by simp at h<;>omega)
  (refine aa [] fun K hK=>?_;simp(disch:=omega) only[kc,ab,Nat.reduceAdd,ac,Value.oneCell'];apply hK)
  (refine aE ⟨.inr rfl,aJ rfl ?_ rfl⟩;simp(disch:=omega) only[bK,Tryz.results45,dc,aN,List.getElem?_cons_succ,List.getElem?_cons_zero,Option.bind_some,b7,Option.map_some])
 by_cases c2:16<(M.headD []).length
 ·rw[eD (fun h=>by have:=(h.2.2 _ hmem0).2.1;omega)]
  refine aC Tryz.func45 rfl (by kernel_rfl) ?_;rw[Tryz.ntmps45]
  (refine aa [] fun K hK=>?_;simp(disch:=omega) only[kc,ab,Nat.reduceAdd,ey,List.replicate,ac,Value.oneCell'];apply hK)
  (refine ae (aa [] fun K hK=>?_);simp(disch:=omega) only[kc,ab,Nat.reduceAdd,aq,ao,bi,aD,aj,ac,Value.oneCell',ai,bj,aA,bL,aM];apply hK)
  refine af rfl (fun h=>by simp at h<;>omega) (fun _=>ay ?_)
  show bX _ _ _ _
  (refine aa [] fun K hK=>?_;simp(disch:=omega) only[kc,ab,Nat.reduceAdd,ag,ao,ac,Value.oneCell',an,Int.reduceToNat,bi,bI,h0,fR,di,ax,dm,aq,ch,aD];apply hK)
  (refine ae (aa [] fun K hK=>?_);simp(disch:=omega) only[kc,ab,Nat.reduceAdd,aj,ac,Value.oneCell',ai,bj,aA,bL,bE,aM];apply hK)
  refine af rfl (fun _=>?_) (fun h=>by simp at h<;>omega)
  (refine aa [] fun K hK=>?_;simp(disch:=omega) only[kc,ab,Nat.reduceAdd,ac,Value.oneCell'];apply hK)
  (refine aE ⟨.inr rfl,aJ rfl ?_ rfl⟩;simp(disch:=omega) only[bK,Tryz.results45,dc,aN,List.getElem?_cons_succ,List.getElem?_cons_zero,Option.bind_some,b7,Option.map_some])
 refine aC Tryz.func45 rfl (by kernel_rfl) ?_;rw[Tryz.ntmps45]
 (refine aa [] fun K hK=>?_;simp(disch:=omega) only[kc,ab,Nat.reduceAdd,ey,List.replicate,ac,Value.oneCell'];apply hK)
 (refine ae (aa [] fun K hK=>?_);simp(disch:=omega) only[kc,ab,Nat.reduceAdd,aq,ao,bi,aD,aj,ac,Value.oneCell',ai,bj,aA,bL,aM];apply hK)
 refine af rfl (fun h=>by simp at h<;>omega) (fun _=>ay ?_)
 show bX _ _ _ _
 (refine aa [] fun K hK=>?_;simp(disch:=omega) only[kc,ab,Nat.reduceAdd,ag,ao,ac,Value.oneCell',an,Int.reduceToNat,bi,bI,h0,fR,di,ax,dm,aq,ch,aD];apply hK)
 (refine ae (aa [] fun K hK=>?_);simp(disch:=omega) only[kc,ab,Nat.reduceAdd,aj,ac,Value.oneCell',ai,bj,aA,bL,aM];apply hK)
 refine af rfl (fun h=>by simp at h<;>omega) (fun _=>ay ?_)
 show bX _ _ _ _
 (refine ae (aa [] fun K hK=>?_);simp(disch:=omega) only[kc,ab,Nat.reduceAdd,aq,ao,bi,aD,ac,Value.oneCell'];apply hK)
 refine bT (G:=Fq M) (fun g=>⟨[ey M,jk,jk,jk,jk,.raw (.int .i64 ((M.headD []).length:Int)),jk,jk,jk,jk,jk,jk,jk,jk,jk,jk,jk,jk,jk,jk,jk,jk,jk,jk,jk,jk,ey M,.raw (.int .i64 (M.length:Int)),.raw (.int .i64 (g.i:Int)),jk,jk,jk,jk,jk,jk,jk,jk,jk,jk,jk],Hm []⟩) (fun g=>M.length-g.i) ⟨0,by omega,fun r hr=>by simp at hr⟩ ?_ ?_
 ·refine am trivial ?_
  simp[cu,bD,bA]
 ·rintro⟨i,hi,ok⟩
  simp only
  by_cases hm:i<M.length
  ·obtain⟨r,hr⟩:=getElem?_of_lt hm
   have hmem:r∈M:=List.mem_of_getElem? hr
   (refine aa [] fun K hK=>?_;simp(disch:=omega) only[kc,ab,ey,Hm,aj,ai,bE];apply hK)
   refine ae (af rfl (fun _=>ay ?_) (fun h=>by simp at h<;>omega))
   refine ae (aU ?_)
   (refine aa [] fun K hK=>?_;simp(disch:=omega) only[kc,ab,Nat.reduceAdd,ag,ao,an,bi,bI,hr,fR,di,ax,dm];apply hK)
   by_cases c3:r.length=(M.headD []).length
   ·(refine aa [] fun K hK=>?_;simp(disch:=omega) only[kc,ab,Nat.reduceAdd,aq,ao,ch,aD,aj,ai,bE];apply hK)
    refine af rfl (fun h=>by simp at h<;>omega) (fun _=>ay ?_)
    show bX _ _ _ _
    ((refine aX [] [] (by simp) fun K hK=>?_);simp(disch:=omega) only[kc,ab,aj,ac,Value.oneCell',ai,bC];apply hK)
    refine⟨⟨i+1,by omega,fun r' hr'=>?_⟩,by simp only;omega,am trivial ?_⟩
    ·rw[List.take_add_one,hr]at hr'
     rcases List.mem_append.1 hr' with h|h
     ·exact ok r' h
     ·have:r'=r:=by simpa using h
      subst this
      exact c3
    ·simp[cu,bD,bA]
   ·rw[eD (fun h=>by have:=(h.2.2 r hmem).2.2;omega)]
    (refine aa [] fun K hK=>?_;simp(disch:=omega) only[kc,ab,Nat.reduceAdd,aq,ao,ch,aD,aj,ai,bj,Bool.not_false];apply hK)
    refine af rfl (fun _=>?_) (fun h=>by simp at h<;>omega)
    (refine aa [] fun K hK=>?_;simp(disch:=omega) only[kc,ab,Nat.reduceAdd,ac,Value.oneCell'];apply hK)
    (refine aE ⟨.inr rfl,aJ rfl ?_ rfl⟩;simp(disch:=omega) only[bK,Tryz.results45,dc,aN,List.getElem?_cons_succ,List.getElem?_cons_zero,Option.bind_some,b7,Option.map_some])
  ·have hsh:sf M:=⟨by omega,by omega,fun r hr=>by
    have:=ok r (by rw[List.take_of_length_le (by omega)];exact hr)
    exact⟨by omega,by omega,this⟩⟩
   rw[iW hsh]
   (refine aa [] fun K hK=>?_;simp(disch:=omega) only[kc,ab,ey,Hm,aj,ai,bj];apply hK)
   refine ae (af rfl (fun h=>by simp at h<;>omega) (fun _=>bF ?_))
   show bX _ _ _ _
   (refine aa [] fun K hK=>?_;simp(disch:=omega) only[kc,ab,Nat.reduceAdd,aq,ao,bi,aD,ac,Value.oneCell'];apply hK)
   (refine aE ⟨.inr rfl,aJ rfl ?_ rfl⟩;simp(disch:=omega) only[bK,Tryz.results45,dc,aN,List.getElem?_cons_succ,List.getElem?_cons_zero,Option.bind_some,b7,Option.map_some])
theorem sJ (M:List (List Int)):CallC Tryz.prog 49 [em M] ⟨[],Ef M⟩:=by
 by_cases h1:M.length<1
 ·rw[eD (fun h=>by have:=h.1;omega)]
  refine aC Tryz.func49 rfl (by kernel_rfl) ?_;rw[Tryz.ntmps49]
  (refine aa [] fun K hK=>?_;simp(disch:=omega) only[kc,ab,Nat.reduceAdd,em,List.replicate,ac,Value.oneCell'];apply hK)
  (refine ae (aa [] fun K hK=>?_);simp(disch:=omega) only[kc,ab,Nat.reduceAdd,aq,ao,be,aD,aj,ac,Value.oneCell',ai,bE,aA,reduceCtorEq,Option.map_none,aM];apply hK)
  refine af rfl (fun _=>?_) (fun h=>by simp at h<;>omega)
  (refine aa [] fun K hK=>?_;simp(disch:=omega) only[kc,ab,Nat.reduceAdd,ac,Value.oneCell'];apply hK)
  (refine aE ⟨.inr rfl,aJ rfl ?_ rfl⟩;simp(disch:=omega) only[bK,Tryz.results49,dc,aN,List.getElem?_cons_succ,List.getElem?_cons_zero,Option.bind_some,b7,Option.map_some])
 by_cases h2:16<M.length
 ·rw[eD (fun h=>by have:=h.2.1;omega)]
  refine aC Tryz.func49 rfl (by kernel_rfl) ?_;rw[Tryz.ntmps49]
  (refine aa [] fun K hK=>?_;simp(disch:=omega) only[kc,ab,Nat.reduceAdd,em,List.replicate,ac,Value.oneCell'];apply hK)
  (refine ae (aa [] fun K hK=>?_);simp(disch:=omega) only[kc,ab,Nat.reduceAdd,aq,ao,be,aD,aj,ac,Value.oneCell',ai,bj,aA,bL,bE,aM];apply hK)
  refine af rfl (fun _=>?_) (fun h=>by simp at h<;>omega)
  (refine aa [] fun K hK=>?_;simp(disch:=omega) only[kc,ab,Nat.reduceAdd,ac,Value.oneCell'];apply hK)
  (refine aE ⟨.inr rfl,aJ rfl ?_ rfl⟩;simp(disch:=omega) only[bK,Tryz.results49,dc,aN,List.getElem?_cons_succ,List.getElem?_cons_zero,Option.bind_some,b7,Option.map_some])
 have h0:=fV (M:=M) (by omega)
 have hmem0:M.headD []∈M:=List.mem_of_getElem? h0
 by_cases c1:(M.headD []).length<1
 ·rw[eD (fun h=>by have:=(h.2.2 _ hmem0).1;omega)]
  refine aC Tryz.func49 rfl (by kernel_rfl) ?_;rw[Tryz.ntmps49]
  (refine aa [] fun K hK=>?_;simp(disch:=omega) only[kc,ab,Nat.reduceAdd,em,List.replicate,ac,Value.oneCell'];apply hK)
  (refine ae (aa [] fun K hK=>?_);simp(disch:=omega) only[kc,ab,Nat.reduceAdd,aq,ao,be,aD,aj,ac,Value.oneCell',ai,bj,aA,bL,aM];apply hK)
  refine af rfl (fun h=>by simp at h<;>omega) (fun _=>ay ?_)
  show bX _ _ _ _
  (refine aa [] fun K hK=>?_;simp(disch:=omega) only[kc,ab,Nat.reduceAdd,ag,ao,ac,Value.oneCell',an,Int.reduceToNat,be,bI,h0,fR,cj,ax,cq,aq,bQ,aD];apply hK)
  (refine ae (aa [] fun K hK=>?_);simp(disch:=omega) only[kc,ab,Nat.reduceAdd,aj,ac,Value.oneCell',ai,bE,aA,reduceCtorEq,Option.map_none,aM];apply hK)
  refine af rfl (fun _=>?_) (fun h=>by simp at h<;>omega)
  (refine aa [] fun K hK=>?_;simp(disch:=omega) only[kc,ab,Nat.reduceAdd,ac,Value.oneCell'];apply hK)
  (refine aE ⟨.inr rfl,aJ rfl ?_ rfl⟩;simp(disch:=omega) only[bK,Tryz.results49,dc,aN,List.getElem?_cons_succ,List.getElem?_cons_zero,Option.bind_some,b7,Option.map_some])
 by_cases c2:16<(M.headD []).length
 ·rw[eD (fun h=>by have:=(h.2.2 _ hmem0).2.1;omega)]
  refine aC Tryz.func49 rfl (by kernel_rfl) ?_;rw[Tryz.ntmps49]
  (refine aa [] fun K hK=>?_;simp(disch:=omega) only[kc,ab,Nat.reduceAdd,em,List.replicate,ac,Value.oneCell'];apply hK)
  (refine ae (aa [] fun K hK=>?_);simp(disch:=omega) only[kc,ab,Nat.reduceAdd,aq,ao,be,aD,aj,ac,Value.oneCell',ai,bj,aA,bL,aM];apply hK)
  refine af rfl (fun h=>by simp at h<;>omega) (fun _=>ay ?_)
  show bX _ _ _ _
  (refine aa [] fun K hK=>?_;simp(disch:=omega) only[kc,ab,Nat.reduceAdd,ag,ao,ac,Value.oneCell',an,Int.reduceToNat,be,bI,h0,fR,cj,ax,cq,aq,bQ,aD];apply hK)
  (refine ae (aa [] fun K hK=>?_);simp(disch:=omega) only[kc,ab,Nat.reduceAdd,aj,ac,Value.oneCell',ai,bj,aA,bL,bE,aM];apply hK)
  refine af rfl (fun _=>?_) (fun h=>by simp at h<;>omega)
  (refine aa [] fun K hK=>?_;simp(disch:=omega) only[kc,ab,Nat.reduceAdd,ac,Value.oneCell'];apply hK)
  (refine aE ⟨.inr rfl,aJ rfl ?_ rfl⟩;simp(disch:=omega) only[bK,Tryz.results49,dc,aN,List.getElem?_cons_succ,List.getElem?_cons_zero,Option.bind_some,b7,Option.map_some])
 refine aC Tryz.func49 rfl (by kernel_rfl) ?_;rw[Tryz.ntmps49]
 (refine aa [] fun K hK=>?_;simp(disch:=omega) only[kc,ab,Nat.reduceAdd,em,List.replicate,ac,Value.oneCell'];apply hK)
 (refine ae (aa [] fun K hK=>?_);simp(disch:=omega) only[kc,ab,Nat.reduceAdd,aq,ao,be,aD,aj,ac,Value.oneCell',ai,bj,aA,bL,aM];apply hK)
 refine af rfl (fun h=>by simp at h<;>omega) (fun _=>ay ?_)
 show bX _ _ _ _
 (refine aa [] fun K hK=>?_;simp(disch:=omega) only[kc,ab,Nat.reduceAdd,ag,ao,ac,Value.oneCell',an,Int.reduceToNat,be,bI,h0,fR,cj,ax,cq,aq,bQ,aD];apply hK)
 (refine ae (aa [] fun K hK=>?_);simp(disch:=omega) only[kc,ab,Nat.reduceAdd,aj,ac,Value.oneCell',ai,bj,aA,bL,aM];apply hK)
 refine af rfl (fun h=>by simp at h<;>omega) (fun _=>ay ?_)
 show bX _ _ _ _
 (refine ae (aa [] fun K hK=>?_);simp(disch:=omega) only[kc,ab,Nat.reduceAdd,aq,ao,be,aD,ac,Value.oneCell'];apply hK)
 refine bT (G:=Fq M) (fun g=>⟨[em M,jk,jk,jk,jk,.raw (.int .i64 ((M.headD []).length:Int)),jk,jk,jk,jk,jk,jk,jk,jk,jk,jk,jk,jk,jk,jk,jk,jk,jk,jk,jk,jk,em M,.raw (.int .i64 (M.length:Int)),.raw (.int .i64 (g.i:Int)),jk,jk,jk,jk,jk,jk,jk,jk,jk,jk,jk],Hm []⟩) (fun g=>M.length-g.i) ⟨0,by omega,fun r hr=>by simp at hr⟩ ?_ ?_
 ·refine am trivial ?_
  simp[cu,bD,bA]
 ·rintro⟨i,hi,ok⟩
  simp only
  by_cases hm:i<M.length
  ·obtain⟨r,hr⟩:=getElem?_of_lt hm
   have hmem:r∈M:=List.mem_of_getElem? hr
   (refine aa [] fun K hK=>?_;simp(disch:=omega) only[kc,ab,em,Hm,aj,ai,bE];apply hK)
   refine ae (af rfl (fun _=>ay ?_) (fun h=>by simp at h<;>omega))
   refine ae (aU ?_)
   (refine aa [] fun K hK=>?_;simp(disch:=omega) only[kc,ab,Nat.reduceAdd,ag,ao,an,be,bI,hr,fR,cj,ax,cq];apply hK)
   by_cases c3:r.length=(M.headD []).length
   ·(refine aa [] fun K hK=>?_;simp(disch:=omega) only[kc,ab,Nat.reduceAdd,aq,ao,bQ,aD,aj,ai,bE];apply hK)
    refine af rfl (fun h=>by simp at h<;>omega) (fun _=>ay ?_)
    show bX _ _ _ _
    ((refine aX [] [] (by simp) fun K hK=>?_);simp(disch:=omega) only[kc,ab,aj,ac,Value.oneCell',ai,bC];apply hK)
    refine⟨⟨i+1,by omega,fun r' hr'=>?_⟩,by simp only;omega,am trivial ?_⟩
    ·rw[List.take_add_one,hr]at hr'
     rcases List.mem_append.1 hr' with h|h
     ·exact ok r' h
     ·have:r'=r:=by simpa using h
      subst this
      exact c3
    ·simp[cu,bD,bA]
   ·rw[eD (fun h=>by have:=(h.2.2 r hmem).2.2;omega)]
    (refine aa [] fun K hK=>?_;simp(disch:=omega) only[kc,ab,Nat.reduceAdd,aq,ao,bQ,aD,aj,ai,bj,Bool.not_false];apply hK)
    refine af rfl (fun _=>?_) (fun h=>by simp at h<;>omega)
    (refine aa [] fun K hK=>?_;simp(disch:=omega) only[kc,ab,Nat.reduceAdd,ac,Value.oneCell'];apply hK)
    (refine aE ⟨.inr rfl,aJ rfl ?_ rfl⟩;simp(disch:=omega) only[bK,Tryz.results49,dc,aN,List.getElem?_cons_succ,List.getElem?_cons_zero,Option.bind_some,b7,Option.map_some])
  ·have hsh:sf M:=⟨by omega,by omega,fun r hr=>by
    have:=ok r (by rw[List.take_of_length_le (by omega)];exact hr)
    exact⟨by omega,by omega,this⟩⟩
   rw[iW hsh]
   (refine aa [] fun K hK=>?_;simp(disch:=omega) only[kc,ab,em,Hm,aj,ai,bj];apply hK)
   refine ae (af rfl (fun h=>by simp at h<;>omega) (fun _=>bF ?_))
   show bX _ _ _ _
   (refine aa [] fun K hK=>?_;simp(disch:=omega) only[kc,ab,Nat.reduceAdd,aq,ao,be,aD,ac,Value.oneCell'];apply hK)
   (refine aE ⟨.inr rfl,aJ rfl ?_ rfl⟩;simp(disch:=omega) only[bK,Tryz.results49,dc,aN,List.getElem?_cons_succ,List.getElem?_cons_zero,Option.bind_some,b7,Option.map_some])
section
theorem pI {P:Program} (w:World) (dT sT ty elem:TypeId) (g o dLen dCap:Nat) (a:Addr) (sLen sCap sz:Nat) (cur:Array Value) (t:TypeId) (cs:List Value)
  (hu:P.underlying dT=some (.slice elem)) (hs:(P.info? elem).map (·.size)=some sz)
  (hg:w.heap[g]?=some (.cells cur t (0,0))) (hn:cs.length=Nat.min sLen dLen*sz)
  (hsrc: ∀j v,cs[j]?=some v->w.cell? (a.add j)=some v) (hfit:o+cs.length<=cur.size) (h1: ∀v∈cs,v.oneCell'=true):
  (Builtin.copy_ #[dT,sT] ty #[.slice (some ⟨g,o,none⟩) dLen dCap,.slice (some a) sLen sCap]).run P w=
   .ok (goInt (Nat.min sLen dLen)) (w.setRow g (cur.toList.take o++cs++cur.toList.drop (o+cs.length)).toArray):=by
 have hl:=run_loadCells_list (P:=P) w a cs hsrc
 have hst:=run_storeCells_at P g o t cs 0 cur w hg (by simpa using hfit) h1
 cases hq:P.info? elem with
 |none=>simp[hq]at hs
 |some i=>
  have hi:i.size=sz:=by simpa[hq] using hs
  simp[Builtin.copy_,run_underlying hu,Builtin.lenOf,Builtin.firstCells,sizeOf,typeInfo,hq,hi,<- hn,hl,hst]
section
variable {P:Program} {s:AS} {a:Act} {w0 w:World} {O X:Nat->Prop}
theorem sq {ρ:eZ} (h1:a.defers=[]) (hsz:a.tmps.size=s.tmps.length) (hinv:gU w0 O X s.H ρ w) (htm:cn X ρ s a w) {o0 o':OObj} {fa fr b cc:Nat} (hrow:(s.H fa)[fr]?=some o0) (hρ:ρ fa fr=some (b,cc)) {w1:World} (hbut:But b w w1)
  (hes:o'.es=o0.es) (hsize:o'.elems.length=o0.elems.length) (hpure: ∀e∈o'.elems,∀x∈e,isPure x=true) (hob1:objRel (rho1 b cc) (famH 0 [o']) (Xo X ρ s.H) w1 0 0 o') {r:TV} {v:Value} (hnoref:noRefTV r=true) (hr1:r.rel (rho1 b cc) (famH 0 [o']) (Xo X ρ s.H) w1 v) (dst:Option Tmp):
  fM w0 O X (AS.put ⟨s.tmps,au s.H fa ((s.H fa).set fr o')⟩ dst r) (a.put dst v) w1:=by
 have hXb:Xo X ρ s.H b:= .inr ⟨fa,fr,o0,cc,hrow,hρ⟩
 have hfr:=(List.getElem?_eq_some_iff.1 hrow).1
 have hnew: ∀(x y:Nat) o1,(au s.H fa ((s.H fa).set fr o') x)[y]?=some o1->(x=fa/\y=fr/\o1=o')\/(¬(x=fa/\y=fr)/\(s.H x)[y]?=some o1):=fun x y o1 h=>by
  by_cases hx:x=fa
  ·subst hx
   rw[bV]at h
   by_cases hy:y=fr
   ·subst hy
    rw[List.getElem?_set_self hfr]at h
    injection h with h
    exact .inl ⟨rfl,rfl,h.symm⟩
   ·rw[List.getElem?_set_ne (Ne.symm hy)]at h
    exact .inr ⟨fun h=>hy h.2,h⟩
  ·rw[bv hx]at h
   exact .inr ⟨fun h=>hx h.1,h⟩
 have hlive: ∀(x y:Nat) o1,(s.H x)[y]?=some o1-> ∃o2,(au s.H fa ((s.H fa).set fr o') x)[y]?=some o2/\o2.es=o1.es/\o1.elems.length<=o2.elems.length/\ρ x y=ρ x y:=fun x y o1 h=>by
  by_cases hx:x=fa
  ·subst hx
   by_cases hy:y=fr
   ·subst hy
    rw[hrow]at h
    injection h with h
    subst h
    exact⟨o',by rw[bV,List.getElem?_set_self hfr],hes,by rw[hsize];exact Nat.le_refl _,rfl⟩
   ·exact⟨o1,by rw[bV,List.getElem?_set_ne (Ne.symm hy)];exact h,rfl,Nat.le_refl _,rfl⟩
  ·exact⟨o1,by rw[bv hx];exact h,rfl,Nat.le_refl _,rfl⟩
 have hback: ∀(x y:Nat) o1,(au s.H fa ((s.H fa).set fr o') x)[y]?=some o1-> ∃o2,(s.H x)[y]?=some o2:=fun x y o1 h=>by
  rcases hnew x y o1 h with⟨rfl,rfl,_⟩|⟨_,h⟩
  ·exact⟨o0,hrow⟩
  ·exact⟨o1,h⟩
 have hXo:Xo X ρ (au s.H fa ((s.H fa).set fr o'))=Xo X ρ s.H:=by
  funext j
  apply propext
  constructor
  ·rintro(h|⟨x,y,o1,n,h1,h2⟩)
   ·exact .inl h
   ·obtain⟨o2,h3⟩:=hback x y o1 h1
    exact .inr ⟨x,y,o2,n,h3,h2⟩
  ·rintro(h|⟨x,y,o1,n,h1,h2⟩)
   ·exact .inl h
   ·obtain⟨o2,h3,_⟩:=hlive x y o1 h1
    exact .inr ⟨x,y,o2,n,h3,h2⟩
 have mono: ∀x u,AV.rel ρ s.H (Xo X ρ s.H) w x u->AV.rel ρ (au s.H fa ((s.H fa).set fr o')) (Xo X ρ (au s.H fa ((s.H fa).set fr o'))) w1 x u:=fun x u hx=>
  iO hXb hbut hlive (fun x y o1 b' c' h1 h2 _=>by
   obtain⟨o2,h3⟩:=hback x y o1 h1
   exact .inr ⟨x,y,o2,c',h3,h2⟩) hx
 have hinv':gU w0 O X (au s.H fa ((s.H fa).set fr o')) ρ w1:=by
  refine⟨hinv.keep.but hbut (hinv.old fa fr o0 b cc hrow hρ).1,fun x y o1 h=>?_,fun x y x' y' o1 o2 j c1 c2 h h' q q'=>?_,fun x y o1 j c1 h q=>?_,fun j hj=>Nat.lt_of_lt_of_le (hinv.bar j hj) hbut.size,fun x y o1 h=>?_⟩
  ·rcases hnew x y o1 h with⟨rfl,rfl,rfl⟩|⟨hne,h⟩
   ·rw[hXo]
    exact io hpure hob1 (by simp[rho1,hρ])
   ·refine dV (hinv.objs x y o1 h) rfl (fun j c1 hj=>?_) mono
    refine hbut.block j (cK (hinv.objs x y o1 h) hj) ?_
    rintro rfl
    exact hne (hinv.inj x y fa fr o1 o0 j c1 cc h hrow hj hρ)
  ·obtain⟨o3,h3⟩:=hback x y o1 h
   obtain⟨o4,h4⟩:=hback x' y' o2 h'
   exact hinv.inj x y x' y' o3 o4 j c1 c2 h3 h4 q q'
  ·obtain⟨o3,h3⟩:=hback x y o1 h
   exact hinv.old x y o3 j c1 h3 q
  ·rcases hnew x y o1 h with⟨rfl,rfl,rfl⟩|⟨hne,h⟩
   ·exact dx hpure
   ·exact hinv.self x y o1 h
 have htm':cn X ρ ⟨s.tmps,au s.H fa ((s.H fa).set fr o')⟩ a w1:=fun t x hx=>by
  obtain⟨u,u1,u2⟩:=htm t x hx
  exact⟨u,u1,TV.rel_map u2 mono⟩
 refine⟨by rw[gX];exact h1,by rw[jN,er];exact hsz,ρ,by rw[gZ];exact hinv',pc hsz htm' ?_⟩
 show r.rel ρ (au s.H fa ((s.H fa).set fr o')) (Xo X ρ (au s.H fa ((s.H fa).set fr o'))) w1 v
 rw[hXo]
 exact j6 hnoref hr1
theorem Dh (hrel:fM w0 O X s a w) {o:Oper} {x y:Operand} {t t' e:TypeId} (ho:o.op= .call {callee:= .builtin .copy,args:= #[x,y],argTypes:= #[t,t']}) {fa fr len:Nat} {o0:OObj} {news:List (List AV)} {ty:TV}
  (hx:s.ev x=some (.one (.sl fa fr 0 len))) (hy:s.ev y=some ty) (hnews:newsOf s.H ty=some news) (hrow:(s.H fa)[fr]?=some o0) (hsl:dW P t=some e) (hse:iT P e=some o0.es) (hl0:0<len) (hlen:o0.elems.length=len) (hnl:news.length=len) (hne: ∀e∈news,e.length=o0.es)
  {K:Act->World->Prop} {Q:Exit->Act->World->Prop}
  (hK: ∀v w',fM w0 O X (AS.put ⟨s.tmps,au s.H fa ((s.H fa).set fr ⟨o0.ty,o0.es,news⟩)⟩ o.dst (.raw (.int .i64 (len:Int)))) (a.put o.dst v) w'->K (a.put o.dst v) w'):o.wp P a w K Q:=by
 obtain⟨h1,hsz,ρ,hinv,htm⟩:=hrel
 have htm:cn X ρ s a w:=htm
 obtain⟨o1,g1,g2,g3⟩:=dD htm x _ hx
 rw[hrow]at g1
 injection g1 with g1
 subst g1
 obtain⟨b,cc,hρ,hv⟩: ∃b cc,ρ fa fr=some (b,cc)/\a.eval x= .slice (some ⟨b,0*o0.es,none⟩) len (cc-0):=by
  rcases g3 with⟨_,_,g4,_⟩|g3
  ·omega
  ·exact g3
 have hob:=hinv.objs fa fr o0 hrow
 obtain⟨q1,hpos,q3⟩:=id hob
 rw[hρ]at q3
 obtain⟨cells,c1,c2,c3,c4,c5⟩:=q3
 obtain⟨us,⟨A,c,hvy,hrd⟩,hul,hone,hpu,hcell⟩:=kU hinv.objs hnews (dD htm y ty hy) hne hpos
 have hXb:Xo X ρ s.H b:= .inr ⟨fa,fr,o0,cc,hrow,hρ⟩
 have husl:0<us.length:=by rw[hul,hnl];exact Nat.mul_pos hl0 hpos
 obtain⟨b',off,rfl,hcs⟩:=hrd (fun h=>by rw[h]at husl;simp at husl)
 have hmin:Nat.min news.length len=len:=by rw[hnl];exact Nat.min_self len
 have hfit:0+us.length<=cells.size:=by rw[hul,hnl,c2,Nat.zero_add];exact Nat.mul_le_mul_right _ (by omega)
 obtain⟨ti,hti,hts⟩:=jF hse
 have hrun:=pI (P:=P) w t t' o.type e b 0 len (cc-0) ⟨b',off,none⟩ news.length c o0.es cells o0.ty us (dH hsl) (by rw[hti];simp[hts]) c1 (by rw[hmin,hul,hnl]) (fun j v hj=>by have hadd:(⟨b',off,none⟩:Addr).add j=⟨b',off+j,none⟩:=by{unfold Addr.add;split<;>simp_all};rw[hadd];exact hcs j v hj) hfit hone
 rw[hmin]at hrun
 rw[Nat.zero_mul]at hv
 have hbut:=But.setRow w b (cells.toList.take 0++us++cells.toList.drop (0+us.length)).toArray
 have hheap:=setRow_heap w b cells (cells.toList.take 0++us++cells.toList.drop (0+us.length)).toArray o0.ty (0,0) c1
 have hK':=fun v=>hK v (w.setRow b (cells.toList.take 0++us++cells.toList.drop (0+us.length)).toArray)
 generalize hw1:w.setRow b (cells.toList.take 0++us++cells.toList.drop (0+us.length)).toArray=w1 at*
 have hres:fM w0 O X (AS.put ⟨s.tmps,au s.H fa ((s.H fa).set fr ⟨o0.ty,o0.es,news⟩)⟩ o.dst (.raw (.int .i64 (len:Int)))) (a.put o.dst (goInt len)) w1:=by
  refine sq h1 hsz hinv htm hrow hρ hbut (o':=⟨o0.ty,o0.es,news⟩) rfl (by simp only;omega) hpu ?_ rfl (eE rfl) o.dst
  refine⟨hne,hpos,?_⟩
  have hr:rho1 b cc 0 0=some (b,cc):=by simp[rho1]
  rw[hr]
  refine⟨_,hheap,?_,by simp only;omega,c4,fun i e j z he hz=>?_⟩
  ·simp at hfit⊢;omega
  ·obtain⟨u,u1,u2,u3⟩:=hcell i e j z he hz
   refine⟨u,?_,u2,?_⟩
   ·simp only[List.take_zero,List.nil_append,List.getElem?_toArray]
    rw[List.getElem?_append_left (List.getElem?_eq_some_iff.1 u1).1]
    exact u1
   ·have hzp:=hpu e (List.mem_of_getElem? he) z (List.mem_of_getElem? hz)
    have:=iO (ρ':=ρ) (H':=s.H) hXb hbut (fun x y o1 h=>⟨o1,h,rfl,Nat.le_refl _,rfl⟩) (fun x y o1 b' c' h1 h2 _=> .inr ⟨x,y,o1,c',h1,h2⟩) u3
    cases z with
    |p z=>exact this
    |_=>cases hzp
 have hrun':(execOp a.eval o).run P w= .ok (.value (goInt len)) w1:=by
  unfold execOp
  simp only[ho,resolve,invoke,builtin,Sem.run_bind,Sem.run_pure,Result.andThen_ok,List.map_toArray,List.map_cons,List.map_nil,hv,hvy,hrun]
 unfold Oper.wp
 rw[hrun']
 exact hK' _ hres
def cpTs (ops:Array Oper) (m:Nat) (s:AS):Option (TypeId×TV×TV):=match ops[m]? with
 |some ⟨_,.call ⟨.builtin .copy,⟨[x,y]⟩,⟨[t,_]⟩⟩,_,_,_,none⟩=>match s.ev x,s.ev y with
  |some tx,some ty=>some (t,tx,ty)
  |_,_=>none
 |_=>none
structure EH (P:Program) (ops:Array Oper) (m:Nat) (t e:TypeId) (ty:TV) (len fa fr:Nat) (o0:OObj) (news:List (List AV)) (s:AS):Prop where
 ts:cpTs ops m s=some (t,.one (.sl fa fr 0 len),ty)
 row:(s.H fa)[fr]?=some o0
 news:newsOf s.H ty=some news
 len:o0.elems.length=len
theorem Ag (m:Nat) (t e:TypeId) (ty:TV) (len fa fr:Nat) (o0:OObj) (news:List (List AV)) (items:List (ar P)) (ow:List Nat) {id:Nat} {ops:Array Oper} {Q:Exit->AS->Prop} (hsl:dW P t=some e) (hse:iT P e=some o0.es) (hl0:0<len) (hnl:news.length=len) (hne: ∀e∈news,e.length=o0.es) (hl:s.tmps.length<=1000000) (hm:m<ops.toList.length)
  (h:dS P (items.map ar.a) ow (cY ops (ops.toList.take m) 0) (some s) (fun s1=>EH P ops m t e ty len fa fr o0 news s1/\s1.tmps.length<=1000000/\dS P (items.map ar.a) ow (cY ops (ops.toList.drop (m+1)) (m+1)) (some (yO ops m (.raw (.int .i64 (len:Int))) fa fr ⟨o0.ty,o0.es,news⟩ s1)) (Q .normal))):bX P (.region id ops false) Q s:=fun w0 O X a w r0=>by
 obtain⟨s1,h1,⟨q1,q2,q3,q4⟩,hl1,h2⟩:=dw P (items.map ar.a) ow ops _ 0 s _ hl h
 obtain⟨s',h3,h4⟩:=dw P (items.map ar.a) ow ops _ (m+1) _ _ (by unfold yO;rw[er];exact hl1) h2
 unfold cpTs at q1
 split at q1
 ·rename_i dst x y t0 t1 typ pos aft ho
  split at q1
  ·rename_i tx ty0 hx hy
   injection q1 with q1
   injection q1 with q1 q5
   injection q5 with q5 q6
   subst q1 q5 q6
   refine wp_region ?_
   have hsz:ops.size=(ops.toList.take m).length+(1+(ops.toList.drop (m+1)).length):=by simp at hm⊢;omega
   rw[hsz,List.range_eq_range',<- List.range'_append_1,Nat.zero_add]
   have hml:(ops.toList.take m).length=m:=by rw[List.length_take];omega
   refine oJ (ar.ok items) (ops.toList.take m) 0 s s1 a w (fun j o hj=>?_) h1 r0 fun a' w' r'=>?_
   ·rw[List.getElem?_take]at hj
    split at hj
    ·simpa using hj
    ·cases hj
   ·rw[hml,Nat.add_comm 1,List.range'_succ]
    simp only[wpOps,ho]
    rw[if_pos (by simp[Region.wanted])]
    refine .inl (Dh r' rfl hx hy q3 q2 hsl hse hl0 q4 hnl hne fun v w1 hr1=>?_)
    refine jb (ar.ok items) (Q:=fun e a' w'=> ∃s',Q e s'/\fM w0 O X s' a' w') (ops.toList.drop (m+1)) (m+1) _ s' _ _ (fun j o hj=>?_) h3 ?_ (fun a' w' hr=>⟨s',h4,hr⟩)
    ·rw[List.getElem?_drop]at hj
     simpa using hj
    ·have:CM ops m=dst:=by unfold CM;rw[ho];rfl
     unfold yO
     rw[this]
     exact hr1
  ·cases q1
 ·cases q1
theorem yf (m:Nat) (t e:TypeId) (ty:TV) (len fa fr:Nat) (o0:OObj) (news:List (List AV)) (items:List (ar P)) (ow:List Nat) {id:Nat} {ops:Array Oper} {Q:Exit->AS->Prop} (hsl:dW P t=some e) (hse:iT P e=some o0.es) (hl0:0<len) (hnl:news.length=len) (hne: ∀e∈news,e.length=o0.es) (hl:s.tmps.length<=1000000) (hm:m<ops.toList.length)
  (h: ∀K:AS->Prop,(∀s1,(EH P ops m t e ty len fa fr o0 news s1/\s1.tmps.length<=1000000/\ ∀K:AS->Prop,(∀s',Q .normal s'->K s')->dS P (items.map ar.a) ow (cY ops (ops.toList.drop (m+1)) (m+1)) (some (yO ops m (.raw (.int .i64 (len:Int))) fa fr ⟨o0.ty,o0.es,news⟩ s1)) K)->K s1)->dS P (items.map ar.a) ow (cY ops (ops.toList.take m) 0) (some s) K):bX P (.region id ops false) Q s:=
 Ag m t e ty len fa fr o0 news items ow hsl hse hl0 hnl hne hl hm (h _ fun s1 ⟨q1,q2,q3⟩=>⟨q1,q2,q3 _ fun _ h=>h⟩)
end
end
theorem D4 {s:AS} {w0 w:World} {O X:Nat->Prop} {ρ:eZ} {act:Act} (a:Nat) (hok:vd s.H a) (hinv:gU w0 O X s.H ρ w) (htm:cn X ρ s act w):gU w0 O X (au s.H a []) ρ w/\cn X ρ ⟨s.tmps.map (gR s.H a),au s.H a []⟩ act w:=by
 have hna: ∀(x y:Nat) o,(au s.H a [] x)[y]?=some o->x≠a/\(s.H x)[y]?=some o:=fun x y o ho=>by
  by_cases hx:x=a
  ·subst hx;rw[bV]at ho;simp at ho
  ·rw[bv hx]at ho;exact⟨hx,ho⟩
 have hXo: ∀b,Xo X ρ (au s.H a []) b->Xo X ρ s.H b:=fun b hb=>by
  rcases hb with hb|⟨x,y,o,n,g1,g2⟩
  ·exact .inl hb
  ·exact .inr ⟨x,y,o,n,(hna x y o g1).2,g2⟩
 have hZb: ∀(r:Nat) o,(s.H a)[r]?=some o-> ∀b c,ρ a r=some (b,c)-> ¬Xo X ρ (au s.H a []) b:=fun r o ho b c hr hX=>by
  rcases hX with hX|⟨x,y,o',n,g1,g2⟩
  ·exact(hinv.old a r o b c ho hr).2 hX
  ·obtain⟨hx,g1'⟩:=hna x y o' g1
   exact hx (hinv.inj x y a r o' o b n c g1' ho g2 hr).1
 have hpure: ∀x u,isPure x=true->AV.rel ρ s.H (Xo X ρ s.H) w x u->cO (Xo X ρ (au s.H a [])) w (kW x) u:=fun x u hp h=>by
  cases x<;>first|exact cO.weaken (fun b _ hb=>hXo b hb) h|cases hp
 have hcell: ∀(r:Nat) o,(s.H a)[r]?=some o-> ∀e∈o.elems,∀x∈e,∀u,AV.rel ρ s.H (Xo X ρ s.H) w x u->cO (Xo X ρ (au s.H a [])) w (jE s.H a x) u:=fun r o ho e he x hx u hu=>by
  rcases hok r o ho e he x hx with hp|⟨r',off,len,o',rfl,ho',hpr⟩
  ·have:=hpure x u hp hu
   cases x<;>first|exact this|cases hp
  ·simp only[jE,ho']
   exact nF (hinv.objs a r' o' ho') ho' (fun e he y hy u hu=>hpure y u (hpr e he y hy) hu) (hZb r' o' ho') hu
 have hmap: ∀x v,AV.rel ρ s.H (Xo X ρ s.H) w x v->AV.rel ρ (au s.H a []) (Xo X ρ (au s.H a [])) w (eX s.H a x) v:=fun x v h=>by
  cases x with
  |p x=>exact cO.weaken (fun b _ hb=>hXo b hb) h
  |sl b r off len=>
   simp only[eX]
   by_cases hb:b=a
   ·subst hb
    rw[if_pos rfl]
    have h':=h
    obtain⟨o,g1,g2,g3⟩:=h
    rw[g1]
    exact nF (hinv.objs b r o g1) g1 (hcell r o g1) (hZb r o g1) h'
   ·rw[if_neg hb]
    obtain⟨o,g1,g2⟩:=h
    exact⟨o,by rw[bv hb];exact g1,g2⟩
  |ptr b r i j=>
   simp only[eX]
   by_cases hb:b=a
   ·subst hb;rw[if_pos rfl];trivial
   ·rw[if_neg hb]
    obtain⟨o,b',c,g1,g2⟩:=h
    exact⟨o,b',c,by rw[bv hb];exact g1,g2⟩
  |junk=>trivial
 have hagg: ∀cs v,cE ρ s.H (Xo X ρ s.H) w cs v->cE ρ (au s.H a []) (Xo X ρ (au s.H a [])) w (cs.map (eX s.H a)) v:=fun cs v h=>by
  obtain⟨vs,g1,g2,g3⟩:=h
  refine⟨vs,g1,by simpa using g2,fun j x hx=>?_⟩
  rw[List.getElem?_map]at hx
  obtain⟨y,hy,rfl⟩:=Option.map_eq_some_iff.1 hx
  obtain⟨u,u1,u2,u3⟩:=g3 j y hy
  exact⟨u,u1,u2,hmap y u u3⟩
 refine⟨⟨hinv.keep,fun x y o ho=>?_,fun x y x' y' o o' b c c' ho ho'=>hinv.inj x y x' y' o o' b c c' (hna x y o ho).2 (hna x' y' o' ho').2,fun x y o b c ho=>hinv.old x y o b c (hna x y o ho).2,hinv.bar,fun x y o ho=>hinv.self x y o (hna x y o ho).2⟩,fun t x hx=>?_⟩
 ·obtain⟨hx,ho'⟩:=hna x y o ho
  obtain⟨q1,q2,q3⟩:=hinv.objs x y o ho'
  refine⟨q1,q2,?_⟩
  cases hr:ρ x y with
  |none=>rw[hr]at q3;exact q3
  |some bc=>
   obtain⟨b,c⟩:=bc
   rw[hr]at q3
   obtain⟨cells,p1,p2,p3,p4,p5⟩:=q3
   refine⟨cells,p1,p2,p3,p4,fun i e j z he hz=>?_⟩
   obtain⟨u,u1,u2,u3⟩:=p5 i e j z he hz
   have hs:=hinv.self x y o ho' e (List.mem_of_getElem? he) z (List.mem_of_getElem? hz)
   have:=hmap z u u3
   refine⟨u,u1,u2,?_⟩
   cases z with
   |sl z _ _ _=>have hs:z=x:=hs;subst hs;simpa[eX,hx] using this
   |ptr z _ _ _=>have hs:z=x:=hs;subst hs;simpa[eX,hx] using this
   |p z=>exact this
   |junk=>trivial
 ·simp only[List.getElem?_map]at hx
  obtain⟨y,hy,rfl⟩:=Option.map_eq_some_iff.1 hx
  obtain⟨v,v1,v2⟩:=htm t y hy
  refine⟨v,v1,?_⟩
  cases y with
  |one x=>exact hmap x v v2
  |agg cs=>exact hagg cs v v2
  |fn f cs=>obtain⟨u,h1,h2⟩:=v2;exact⟨u,hagg cs u h1,h2⟩
  |tup ts=>
   obtain⟨vs,g1,g2,g3⟩:=v2
   refine⟨vs,g1,by simpa using g2,fun j b cs hj=>?_⟩
   rw[List.getElem?_map]at hj
   obtain⟨z,hz,hzz⟩:=Option.map_eq_some_iff.1 hj
   obtain⟨b',cs'⟩:=z
   simp at hzz
   obtain⟨rfl,rfl⟩:=hzz
   obtain⟨u,u1,u2⟩:=g3 j b' cs' hz
   refine⟨u,u1,?_⟩
   rcases u2 with⟨u2,u3⟩|⟨u2,q,rfl,u4⟩
   ·exact .inl ⟨u2,hagg _ _ u3⟩
   ·exact .inr ⟨u2,_,rfl,hmap q u u4⟩
theorem zT {s:AS} (a k:Nat) {ty:TypeId} {es:Nat} {cs:List PV} (hH:s.H a=[⟨ty,es,[cs.map AV.p]⟩]) (hk:s.tmps[k]?=some (.one (.ptr a 0 0 0))):du s ⟨(s.tmps.map (gR s.H a)).set k (.one (.p (.ptr cs))),au s.H a []⟩:=by
 rintro w0 O X act w ⟨h1,hsz,ρ,hinv,htm⟩
 have htm:cn X ρ s act w:=htm
 have hrow:(s.H a)[0]?=some ⟨ty,es,[cs.map AV.p]⟩:=by rw[hH];rfl
 have hok:vd s.H a:=fun r o ho e he x hx=>by
  rw[hH]at ho
  cases r with
  |succ r=>simp at ho
  |zero=>
   simp at ho
   subst ho
   simp at he
   subst he
   obtain⟨y,_,rfl⟩:=List.mem_map.1 hx
   exact .inl rfl
 obtain⟨hinv',htm'⟩:=D4 a hok hinv htm
 refine⟨h1,by simpa using hsz,ρ,hinv',fun t x hx=>?_⟩
 by_cases e:t=k
 ·subst e
  simp only at hx
  have hlt:=(List.getElem?_eq_some_iff.1 hk).1
  rw[List.getElem?_set_self (by simpa using hlt)]at hx
  injection hx with hx
  subst hx
  obtain⟨v,v1,o,b,c,g1,g2,g3,rfl⟩:=htm t _ hk
  rw[hrow]at g1
  injection g1 with g1
  subst g1
  refine⟨_,v1,?_⟩
  obtain⟨q1,q2,q3⟩:=hinv.objs a 0 _ hrow
  rw[g2]at q3
  obtain⟨cells,p1,p2,p3,p4,p5⟩:=q3
  have hXo: ∀b,Xo X ρ (au s.H a []) b->Xo X ρ s.H b:=fun b hb=>by
   rcases hb with hb|⟨x,y,o,n,g1,g2⟩
   ·exact .inl hb
   ·by_cases hx:x=a
    ·subst hx;rw[bV]at g1;simp at g1
    ·rw[bv hx]at g1;exact .inr ⟨x,y,o,n,g1,g2⟩
  have hnb: ¬Xo X ρ (au s.H a []) b:=fun hX=>by
   rcases hX with hX|⟨x,y,o',n,g1,g3⟩
   ·exact(hinv.old a 0 _ b c hrow g2).2 hX
   ·by_cases hx:x=a
    ·subst hx;rw[bV]at g1;simp at g1
    ·rw[bv hx]at g1
     exact hx (hinv.inj x y a 0 o' _ b n c g1 hrow g3 g2).1
  show cO _ w (.ptr cs) _
  rw[show(0:Nat)*(⟨ty,es,[cs.map AV.p]⟩:OObj).es+0=0 by simp]
  have hkey: ∀(j:Nat) x,cs[j]?=some x-> ∃u:Value,cells[j]?=some u/\cO (Xo X ρ (au s.H a [])) w x u:=fun j x hx=>by
   obtain⟨u,u1,u2,u3⟩:=p5 0 (cs.map AV.p) j (.p x) rfl (by rw[List.getElem?_map,hx];rfl)
   refine⟨u,by simpa using u1,cO.weaken (fun b _ hb=>hXo b hb) u3⟩
  refine cO.ptr b 0 cs (fun j=>(cells[j]?).getD undef) hnb (Array.getElem?_eq_some_iff.1 p1).1 (fun j x hx=>?_) (fun j x hx=>?_)
  ·obtain⟨u,u1,u2⟩:=hkey j x hx
   rw[cell_of_row _ b _ cells _ _ p1,Nat.zero_add,u1];rfl
  ·obtain⟨u,u1,u2⟩:=hkey j x hx
   simp only[u1,Option.getD_some]
   exact u2
 ·simp only at hx
  rw[List.getElem?_set_ne (Ne.symm e)]at hx
  exact htm' t x hx
abbrev kO (M:List (List Int)):AV:= .p (.ptr [.sl (ls (fR fI) M)])
theorem EP {n c:Nat} {f:Nat->Nat->Int} {i j:Nat} (hi:i<n) (hj:j<c) (hc:c<=16) (hn:n<=16) (hf: -9223372036854775808<=f i j/\f i j<=9223372036854775807):
  CallC Tryz.prog 47 [.raw (.int .i64 (i:Int)),.raw (.int .i64 (j:Int)),.one (kO (dp n c f))] ⟨[],tZ (f i j)⟩:=by
 have hml:=ci n c f
 have hr:=df c f hi
 have hjr:=ce (f i) hj
 have hS:=tn (f i j) hf.1 hf.2
 refine aC Tryz.func47 rfl (by kernel_rfl) ?_;rw[Tryz.ntmps47]
 (refine aa [] fun K hK=>?_;simp(disch:=omega) only[kc,ab,kO,Nat.reduceAdd,List.replicate,bs,aT,aI,aZ,Value.oneCell',bL];apply hK)
 (refine aa [⟨7,_,_,_,hS⟩] fun K hK=>?_;simp(disch:=omega) only[kc,tZ,ar.a,ab,Nat.reduceAdd,ao,ax,rN,nN,ag,an,bi,bI,hr,fR,di,dm,ch,hjr,fI,ji,lG,ak,aT,aI,List.find?_cons,aQ,bo,CallRes.plain,aR,aV,az,noRefTV,ap,aS,aP,aB,dr,bN,aF,au,cellsOf,Nat.le_refl,isPure,bL,putCells,aH,aL];apply hK)
 (refine aE ⟨.inr rfl,aJ rfl ?_ rfl⟩;simp(disch:=omega) only[kc,bK,Tryz.results47,aN,au,cH,ax,aF,aW,Nat.reduceAdd,Nat.le_refl,tZ])
def ut (d n c i:Nat) (g:Nat->Nat->Int):List OObj:=⟨91,1,gd d (List.replicate i c)++List.replicate (n-i) [.p (.sl [])]⟩::(dp i c g).map jp
theorem qD (d n c:Nat) (g:Nat->Nat->Int):([⟨91,1,List.replicate n [.raw (.slice none 0 0)]⟩]:List OObj).map zO=ut d n c 0 g:=by
 simp[ut,dp,zO,gd,ur,uG]
theorem tN (d n c:Nat) (g:Nat->Nat->Int):ut d n c n g=js d n c g:=by
 simp[ut]
theorem sY {d n c i:Nat} (g:Nat->Nat->Int) (hi:i<n) (hz: ∀b,b<c->g i b=0):
  ((⟨91,1,(gd d (List.replicate i c)++List.replicate (n-i) [AV.p (PV.sl [])]).set i [.sl d (i+1) 0 c]⟩::(dp i c g).map jp++[⟨53,2,List.replicate c [.raw (.bool false),.raw (.slice none 0 0)]⟩]:List OObj)).map zO=ut d n c (i+1) g:=by
 have e1:(gd d (List.replicate i c)++List.replicate (n-i) [AV.p (PV.sl [])]).set i [.sl d (i+1) 0 c]=gd d (List.replicate (i+1) c)++List.replicate (n-(i+1)) [AV.p (PV.sl [])]:=by
  rw[List.set_append_right _ _ (by simp[cV]),cV,List.length_replicate,Nat.sub_self,List.replicate_succ' (n:=i),lF,List.length_replicate,List.append_assoc]
  congr 1
  rw[show n-i=n-(i+1)+1 by omega,List.replicate_succ]
  rfl
 have e2:da c (g i)=List.replicate c 0:=by
  apply List.ext_getElem?
  intro b
  by_cases hb:b<c
  ·rw[ce _ hb,List.getElem?_replicate,if_pos hb,hz b hb]
  ·rw[List.getElem?_eq_none (by rw[cL];omega),List.getElem?_eq_none (by simp;omega)]
 have e3:dp (i+1) c g=dp i c g++[da c (g i)]:=by simp[dp,List.range_succ]
 rw[e1]
 simp only[List.cons_append,List.map_cons,List.map_append,ut,e3,List.map_map]
 congr 1
 ·simp[zO,Dm,ur,uG]
 ·congr 1
  ·refine List.map_congr_left fun r _=>?_
   simp[zO,jp,Ey]
  ·simp[e2,zO,jp,lc,fZ,ur,uG,cD,ls]
end Go.Proofs.YtpgghglbpcabkaaGreat
