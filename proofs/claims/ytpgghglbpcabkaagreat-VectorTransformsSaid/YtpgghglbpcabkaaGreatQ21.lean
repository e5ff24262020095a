/-
  Part 22 of a proof (walks and plain facts).
-/
import Derived.Test.YtpgghglbpcabkaaGreatQ20
set_option linter.all false
set_option maxRecDepth 100000
set_option maxHeartbeats 64000000
namespace Go.Proofs.YtpgghglbpcabkaaGreat
open Go.RowKit
theorem Jl {a b:Int} (hb:b≠0) (ha:0<=a):a/b=gE (decide (b<0)) (a.natAbs/b.natAbs)/\a%b=gE false (a.natAbs%b.natAbs):=by
 have e1:tr a b=gE false (a.natAbs%b.natAbs):=by unfold tr;rw[decide_eq_false (by omega)]
 have e2:tq a b=gE (decide (b<0)) (a.natAbs/b.natAbs):=by unfold tq;rw[decide_eq_false (show ¬a<0 by omega)];by_cases h:b<0<;>simp[h]
 rw[<- e1,<- e2]
 exact y9 hb (by rw[e1];unfold gE;simp;omega)
theorem GP {a b:Int} (hb:b≠0) (ha:a<0) (h:a.natAbs%b.natAbs=0):a/b=gE (!decide (b<0)) (a.natAbs/b.natAbs)/\a%b=gE false (a.natAbs%b.natAbs):=by
 have e1:tr a b=gE false (a.natAbs%b.natAbs):=by unfold tr;rw[h];unfold gE;simp
 have e2:tq a b=gE (!decide (b<0)) (a.natAbs/b.natAbs):=by unfold tq;rw[decide_eq_true ha];by_cases h:b<0<;>simp[h]
 rw[<- e1,<- e2]
 exact y9 hb (by rw[e1,h];unfold gE;simp)
theorem Jk {a b:Int} (hb:b≠0) (ha:a<0) (h:a.natAbs%b.natAbs≠0):a/b=gE (!decide (b<0)) (a.natAbs/b.natAbs+1)/\a%b=gE false (b.natAbs-a.natAbs%b.natAbs):=by
 have e1:tr a b= -((a.natAbs%b.natAbs:Nat):Int):=by unfold tr;rw[decide_eq_true ha];rfl
 have hlt:a.natAbs%b.natAbs<b.natAbs:=Nat.mod_lt _ (by omega)
 by_cases hbn:b<0
 ·obtain⟨p1,p2⟩:=AT (a:=a) hbn (by rw[e1];omega)
  have e2:tq a b=((a.natAbs/b.natAbs:Nat):Int):=by unfold tq;rw[decide_eq_true ha,decide_eq_true hbn];rfl
  rw[p1,p2,e1,e2,decide_eq_true hbn]
  generalize a.natAbs/b.natAbs=q at*
  generalize a.natAbs%b.natAbs=r at*
  unfold gE
  constructor<;>simp<;>omega
 ·obtain⟨p1,p2⟩:=AU (a:=a) (show 0<b by omega) (by rw[e1];omega)
  have e2:tq a b= -((a.natAbs/b.natAbs:Nat):Int):=by unfold tq;rw[decide_eq_true ha,decide_eq_false hbn];rfl
  rw[p1,p2,e1,e2,decide_eq_false hbn]
  generalize a.natAbs/b.natAbs=q at*
  generalize a.natAbs%b.natAbs=r at*
  unfold gE
  constructor<;>simp<;>omega
def Bd (z:Int):Prop:=Sz z 268435456
theorem CC (a b:Int) (hb0:b≠0) (ha:Bd a) (hb:Bd b):CallC Tryz.prog 88 [tZ a,tZ b] ⟨[],.tup [(true,cZ (a/b)),(true,cZ (a%b)),(false,[.p (.raw (.bool true))])]⟩:=by
 have la:(be a.natAbs).length<=268435456:=je ha
 have lb:(be b.natAbs).length<=268435456:=je hb
 have t1:=fg (be a.natAbs) (by omega)
 have t2:=fg (be b.natAbs) (by omega)
 rw[gP]at t1 t2
 have hl0:(be b.natAbs).length≠0:=fun h=>hb0 (by have:=gc.1 h;omega)
 have hd:=CD a.natAbs b.natAbs (by omega) la lb
 unfold xr at hd
 have hr0:=gc (n:=a.natAbs%b.natAbs)
 have hlt:a.natAbs%b.natAbs<b.natAbs:=Nat.mod_lt _ (by omega)
 have lq:=nR (show a.natAbs/b.natAbs<=a.natAbs from Nat.div_le_self _ _)
 have lr:=nR (Nat.le_of_lt hlt)
 by_cases han:a<0
 ·by_cases hr:a.natAbs%b.natAbs=0
  ·obtain⟨p1,p2⟩:=GP hb0 han hr
   have h8:=ff (!decide (b<0)) (a.natAbs/b.natAbs)
   have h9:=ff false (a.natAbs%b.natAbs)
   rw[<- p1]at h8
   rw[<- p2]at h9
   have hl:(be (a.natAbs%b.natAbs)).length=0:=hr0.2 hr
   clear p1 p2
   generalize a.natAbs/b.natAbs=q at*
   generalize a.natAbs%b.natAbs=r at*
   generalize a/b=Q at*
   generalize a%b=R at*
   refine ax Tryz.func88 rfl (by kernel_rfl) ?_;rw[Tryz.ntmps88]
   (refine aa [] fun K hK=>?_;simp(disch:=omega) only[kc,ab,Nat.reduceAdd,tZ,bA,List.replicate,cf,aN,aC,cellsOf,isPure,bH,aJ,Nat.reduceEqDiff,bu,bi,Value.oneCell',cP,ac];apply hK)
   (refine aa [⟨2,_,_,_,t2⟩] fun K hK=>?_;simp(disch:=omega) only[kc,ca,ar.a,ab,Nat.reduceAdd,aK,au,bU,cH,aJ,Nat.reduceEqDiff,cP,aA,cj,ai,aN,aC,List.find?_cons,aD,aX,CallRes.plain,aF,aH,ap,noRefTV,am,aG,aE];apply hK)
   (refine ae (aa [] fun K hK=>?_);simp(disch:=omega) only[kc,ab,Nat.reduceAdd,aw,au,an,aR,ak,ac,Value.oneCell',ah,bf];apply hK)
   refine af rfl (fun h=>by simp at h<;>omega) (fun _=>aq ?_)
   show bT _ _ _ _
   (refine aa [⟨2,_,_,_,t1⟩,⟨4,_,_,_,hd⟩] fun K hK=>?_;simp(disch:=omega) only[kc,ca,ar.a,ab,Nat.reduceAdd,aK,au,bU,cH,aJ,Nat.reduceEqDiff,cP,aA,cj,ai,aN,aC,List.find?_cons,aD,aX,CallRes.plain,aF,aH,ap,noRefTV,am,aG,aE,Nat.reduceBEq,aV,ak];apply hK)
   (refine aa [] fun K hK=>?_;simp(disch:=omega) only[kc,ab,Nat.reduceAdd,aK,au,bP,db,Nat.add_zero,aJ,Nat.reduceEqDiff,cP,aA,cE];apply hK)
   refine ae (aI ?_)
   refine ae (aI ?_)
   refine ae (aI ?_)
   (refine ae (ae (aa [] fun K hK=>?_));simp(disch:=omega) only[kc,ab,Nat.reduceAdd,aK,au,bP,db,Nat.add_zero,aJ,Nat.reduceEqDiff,cP,aA,cE,aB,aw,an,aR,ak,ac,Value.oneCell',bH,ah,bf,aQ];apply hK)
   refine af rfl (fun h=>by simp at h<;>omega) (fun _=>aq ?_)
   show bT _ _ _ _
   (refine aa [] fun K hK=>?_;simp(disch:=omega) only[kc,ab,Nat.reduceAdd,aK,au,bP,db,Nat.add_zero,aJ,Nat.reduceEqDiff,cP,aA,cE];apply hK)
   refine af rfl (fun _=>bv ?_) (fun h=>by simp at h<;>omega)
   show bT _ _ _ _
   (refine aa [] fun K hK=>?_;simp(disch:=omega) only[kc,ab,Nat.reduceAdd,bW,ak,dc];apply hK)
   refine bv ?_
   show bT _ _ _ _
   (refine aa [⟨2,_,_,_,h8⟩,⟨4,_,_,_,h9⟩] fun K hK=>?_;simp(disch:=omega) only[kc,ca,tZ,ar.a,ab,Nat.reduceAdd,ai,aN,aC,List.find?_cons,aD,aX,CallRes.plain,aF,aH,ap,noRefTV,am,aG,aE,Nat.reduceBEq,ac,Value.oneCell',az,df,bJ,aM,aJ,Nat.reduceEqDiff,cP,cellsOf,Nat.le_refl,isPure,bH,putCells,aS,aT];apply hK)
   (refine ay ⟨.inr rfl,aO rfl ?_ rfl⟩;simp(disch:=omega) only[kc,bE,Tryz.results88,cY,aP,aJ,Nat.reduceEqDiff,cP,aA,aM,aW,Nat.reduceAdd,Nat.le_refl,bX,cZ])
  ·obtain⟨p1,p2⟩:=Jk hb0 han hr
   have h6:=uz (be (a.natAbs/b.natAbs)) [1] (bz _) (by intro x hx;simp at hx;omega) (by omega) (by simp)
   rw[aY,show natV [1]=1 from rfl,show ca [1]= .one (.p (.sl [[.raw (.int .u32 1)]]))from rfl]at h6
   have h7:=pI (be b.natAbs) (be (a.natAbs%b.natAbs)) (bz _) (bz _) lr (by rw[aY,aY];omega) (by omega)
   rw[aY,aY]at h7
   have h8:=ff (!decide (b<0)) (a.natAbs/b.natAbs+1)
   have h9:=ff false (b.natAbs-a.natAbs%b.natAbs)
   rw[<- p1]at h8
   rw[<- p2]at h9
   have hl:(be (a.natAbs%b.natAbs)).length≠0:=fun h=>hr (hr0.1 h)
   clear p1 p2
   generalize b.natAbs-a.natAbs%b.natAbs=br at*
   generalize a.natAbs/b.natAbs=q at*
   generalize a.natAbs%b.natAbs=r at*
   generalize a/b=Q at*
   generalize a%b=R at*
   refine ax Tryz.func88 rfl (by kernel_rfl) ?_;rw[Tryz.ntmps88]
   (refine aa [] fun K hK=>?_;simp(disch:=omega) only[kc,ab,Nat.reduceAdd,tZ,bA,List.replicate,cf,aN,aC,cellsOf,isPure,bH,aJ,Nat.reduceEqDiff,bu,bi,Value.oneCell',cP,ac];apply hK)
   (refine aa [⟨2,_,_,_,t2⟩] fun K hK=>?_;simp(disch:=omega) only[kc,ca,ar.a,ab,Nat.reduceAdd,aK,au,bU,cH,aJ,Nat.reduceEqDiff,cP,aA,cj,ai,aN,aC,List.find?_cons,aD,aX,CallRes.plain,aF,aH,ap,noRefTV,am,aG,aE];apply hK)
   (refine ae (aa [] fun K hK=>?_);simp(disch:=omega) only[kc,ab,Nat.reduceAdd,aw,au,an,aR,ak,ac,Value.oneCell',ah,bf];apply hK)
   refine af rfl (fun h=>by simp at h<;>omega) (fun _=>aq ?_)
   show bT _ _ _ _
   (refine aa [⟨2,_,_,_,t1⟩,⟨4,_,_,_,hd⟩] fun K hK=>?_;simp(disch:=omega) only[kc,ca,ar.a,ab,Nat.reduceAdd,aK,au,bU,cH,aJ,Nat.reduceEqDiff,cP,aA,cj,ai,aN,aC,List.find?_cons,aD,aX,CallRes.plain,aF,aH,ap,noRefTV,am,aG,aE,Nat.reduceBEq,aV,ak];apply hK)
   (refine aa [] fun K hK=>?_;simp(disch:=omega) only[kc,ab,Nat.reduceAdd,aK,au,bP,db,Nat.add_zero,aJ,Nat.reduceEqDiff,cP,aA,cE];apply hK)
   refine ae (aI ?_)
   refine ae (aI ?_)
   refine ae (aI ?_)
   (refine ae (ae (aa [] fun K hK=>?_));simp(disch:=omega) only[kc,ab,Nat.reduceAdd,aK,au,bP,db,Nat.add_zero,aJ,Nat.reduceEqDiff,cP,aA,cE,aB,aw,an,aR,ak,ac,Value.oneCell',bH,ah,bA,aQ];apply hK)
   refine af rfl (fun _=>bv ?_) (fun h=>by simp at h<;>omega)
   show bT _ _ _ _
   (refine aa [⟨2,_,_,_,h6⟩] fun K hK=>?_;simp(disch:=omega) only[kc,ca,ar.a,ab,Nat.reduceAdd,b8,aN,aC,an,dn,bs,fW,ac,Value.oneCell',cellsOf,isPure,Nat.reduceMul,Nat.reduceLeDiff,List.contains_nil,ka,bH,ai,List.find?_cons,aD,aX,CallRes.plain,aF,aH,ap,noRefTV,am,aG,aE];apply hK)
   ((refine aU [⟨2,_,_,_,h7⟩] [] (by simp) fun K hK=>?_);simp(disch:=omega) only[kc,ca,ar.a,ab,Nat.reduceAdd,ai,aN,aC,List.find?_cons,aD,aX,CallRes.plain,aF,aH,ap,noRefTV,am,aG,aE];apply hK)
   show bT _ _ _ _
   (refine aa [] fun K hK=>?_;simp(disch:=omega) only[kc,ab,Nat.reduceAdd,bW,ak,dc];apply hK)
   refine bv ?_
   show bT _ _ _ _
   (refine aa [⟨2,_,_,_,h8⟩,⟨4,_,_,_,h9⟩] fun K hK=>?_;simp(disch:=omega) only[kc,ca,tZ,ar.a,ab,Nat.reduceAdd,ai,aN,aC,List.find?_cons,aD,aX,CallRes.plain,aF,aH,ap,noRefTV,am,aG,aE,Nat.reduceBEq,ac,Value.oneCell',az,df,bJ,aM,aJ,Nat.reduceEqDiff,cP,cellsOf,Nat.le_refl,isPure,bH,putCells,aS,aT];apply hK)
   (refine ay ⟨.inr rfl,aO rfl ?_ rfl⟩;simp(disch:=omega) only[kc,bE,Tryz.results88,cY,aP,aJ,Nat.reduceEqDiff,cP,aA,aM,aW,Nat.reduceAdd,Nat.le_refl,bX,cZ])
 ·obtain⟨p1,p2⟩:=Jl hb0 (show 0<=a by omega)
  have h8:=ff (decide (b<0)) (a.natAbs/b.natAbs)
  have h9:=ff false (a.natAbs%b.natAbs)
  rw[<- p1]at h8
  rw[<- p2]at h9
  clear p1 p2
  generalize a.natAbs/b.natAbs=q at*
  generalize a.natAbs%b.natAbs=r at*
  generalize a/b=Q at*
  generalize a%b=R at*
  refine ax Tryz.func88 rfl (by kernel_rfl) ?_;rw[Tryz.ntmps88]
  (refine aa [] fun K hK=>?_;simp(disch:=omega) only[kc,ab,Nat.reduceAdd,tZ,bf,List.replicate,cf,aN,aC,cellsOf,isPure,bH,aJ,Nat.reduceEqDiff,bu,bi,Value.oneCell',cP,ac];apply hK)
  (refine aa [⟨2,_,_,_,t2⟩] fun K hK=>?_;simp(disch:=omega) only[kc,ca,ar.a,ab,Nat.reduceAdd,aK,au,bU,cH,aJ,Nat.reduceEqDiff,cP,aA,cj,ai,aN,aC,List.find?_cons,aD,aX,CallRes.plain,aF,aH,ap,noRefTV,am,aG,aE];apply hK)
  (refine ae (aa [] fun K hK=>?_);simp(disch:=omega) only[kc,ab,Nat.reduceAdd,aw,au,an,aR,ak,ac,Value.oneCell',ah,bf];apply hK)
  refine af rfl (fun h=>by simp at h<;>omega) (fun _=>aq ?_)
  show bT _ _ _ _
  (refine aa [⟨2,_,_,_,t1⟩,⟨4,_,_,_,hd⟩] fun K hK=>?_;simp(disch:=omega) only[kc,ca,ar.a,ab,Nat.reduceAdd,aK,au,bU,cH,aJ,Nat.reduceEqDiff,cP,aA,cj,ai,aN,aC,List.find?_cons,aD,aX,CallRes.plain,aF,aH,ap,noRefTV,am,aG,aE,Nat.reduceBEq,aV,ak];apply hK)
  (refine aa [] fun K hK=>?_;simp(disch:=omega) only[kc,ab,Nat.reduceAdd,aK,au,bP,db,Nat.add_zero,aJ,Nat.reduceEqDiff,cP,aA,cE];apply hK)
  refine ae (aI ?_)
  refine ae (aI ?_)
  refine ae (aI ?_)
  (refine ae (ae (aa [] fun K hK=>?_));simp(disch:=omega) only[kc,ab,Nat.reduceAdd,aK,au,bP,db,Nat.add_zero,aJ,Nat.reduceEqDiff,cP,aA,cE,aB,aw,an,Option.map_none,ak,ac,Value.oneCell',aQ];apply hK)
  refine af rfl (fun h=>by simp at h<;>omega) (fun _=>aq ?_)
  show bT _ _ _ _
  (refine aa [] fun K hK=>?_;simp(disch:=omega) only[kc,ab,Nat.reduceAdd,aK,au,bP,db,Nat.add_zero,aJ,Nat.reduceEqDiff,cP,aA,cE];apply hK)
  refine af rfl (fun h=>by simp at h<;>omega) (fun _=>aq ?_)
  refine bv ?_
  show bT _ _ _ _
  (refine aa [⟨2,_,_,_,h8⟩,⟨4,_,_,_,h9⟩] fun K hK=>?_;simp(disch:=omega) only[kc,ca,tZ,ar.a,ab,Nat.reduceAdd,ai,aN,aC,List.find?_cons,aD,aX,CallRes.plain,aF,aH,ap,noRefTV,am,aG,aE,Nat.reduceBEq,ac,Value.oneCell',az,df,bJ,aM,aJ,Nat.reduceEqDiff,cP,cellsOf,Nat.le_refl,isPure,bH,putCells,aS,aT];apply hK)
  (refine ay ⟨.inr rfl,aO rfl ?_ rfl⟩;simp(disch:=omega) only[kc,bE,Tryz.results88,cY,aP,aJ,Nat.reduceEqDiff,cP,aA,aM,aW,Nat.reduceAdd,Nat.le_refl,bX,cZ])
structure KS (M:List (List Int)) where
 i:Nat
 hi:i<=M.length
 ok: ∀r∈M.take i,r.length=(M.headD []).length
theorem yk (M:List (List Int)):CallC Tryz.prog 45 [ck M] ⟨[],JF M⟩:=by
 by_cases h1:M.length<1
 ·rw[gh (fun h=>by have:=h.1;omega)]
  refine ax Tryz.func45 rfl (by kernel_rfl) ?_;rw[Tryz.ntmps45]
  (refine aa [] fun K hK=>?_;simp(disch:=omega) only[kc,ab,Nat.reduceAdd,ck,List.replicate,ac,Value.oneCell'];apply hK)
  (refine ae (aa [] fun K hK=>?_);simp(disch:=omega) only[kc,ab,Nat.reduceAdd,aw,au,aL,aR,ak,ac,Value.oneCell',ah,bA,aB,reduceCtorEq,Option.map_none,aQ];apply hK)
  refine af rfl (fun _=>?_) (fun h=>by simp at h<;>omega)
  (refine aa [] fun K hK=>?_;simp(disch:=omega) only[kc,ab,Nat.reduceAdd,ac,Value.oneCell'];apply hK)
  (refine ay ⟨.inr rfl,aO rfl ?_ rfl⟩;simp(disch:=omega) only[bE,Tryz.results45,cY,aP,List.getElem?_cons_succ,List.getElem?_cons_zero,Option.bind_some,bX,Option.map_some])
 by_cases h2:16<M.length
 ·rw[gh (fun h=>by have:=h.2.1;omega)]
  refine ax Tryz.func45 rfl (by kernel_rfl) ?_;rw[Tryz.ntmps45]
  (refine aa [] fun K hK=>?_;simp(disch:=omega) only[kc,ab,Nat.reduceAdd,ck,List.replicate,ac,Value.oneCell'];apply hK)
  (refine ae (aa [] fun K hK=>?_);simp(disch:=omega) only[kc,ab,Nat.reduceAdd,aw,au,aL,aR,ak,ac,Value.oneCell',ah,bf,aB,bH,bA,aQ];apply hK)
  refine af rfl (fun _=>?_) (fun h=>by simp at h<;>omega)
  (refine aa [] fun K hK=>?_;simp(disch:=omega) only[kc,ab,Nat.reduceAdd,ac,Value.oneCell'];apply hK)
  (refine ay ⟨.inr rfl,aO rfl ?_ rfl⟩;simp(disch:=omega) only[bE,Tryz.results45,cY,aP,List.getElem?_cons_succ,List.getElem?_cons_zero,Option.bind_some,bX,Option.map_some])
 have h0:=gI (M:=M) (by omega)
 have hmem0:M.headD []∈M:=List.mem_of_getElem? h0
 by_cases c1:(M.headD []).length<1
 ·rw[gh (fun h=>by have:=(h.2.2 _ hmem0).1;omega)]
  refine ax Tryz.func45 rfl (by kernel_rfl) ?_;rw[Tryz.ntmps45]
  (refine aa [] fun K hK=>?_;simp(disch:=omega) only[kc,ab,Nat.reduceAdd,ck,List.replicate,ac,Value.oneCell'];apply hK)
  (refine ae (aa [] fun K hK=>?_);simp(disch:=omega) only[kc,ab,Nat.reduceAdd,aw,au,aL,aR,ak,ac,Value.oneCell',ah,bf,aB,bH,aQ];apply hK)
  refine af rfl (fun h=>by simp at h<;>omega) (fun _=>aq ?_)
  show bT _ _ _ _
  (refine aa [] fun K hK=>?_;simp(disch:=omega) only[kc,ab,Nat.reduceAdd,ag,au,ac,Value.oneCell',ao,Int.reduceToNat,aL,bG,h0,fR,b7,aA,ce,aw,bM,aR];apply hK)
  (refine ae (aa [] fun K hK=>?_);simp(disch:=omega) only[kc,ab,Nat.reduceAdd,ak,ac,Value.oneCell',ah,bA,aB,reduceCtorEq,Option.map_none,aQ];apply hK)
  refine af rfl (fun _=>?_) (fun h=>by simp at h<;>omega)
  (refine aa [] fun K hK=>?_;simp(disch:=omega) only[kc,ab,Nat.reduceAdd,ac,Value.oneCell'];apply hK)
  (refine ay ⟨.inr rfl,aO rfl ?_ rfl⟩;simp(disch:=omega) only[bE,Tryz.results45,cY,aP,List.getElem?_cons_succ,List.getElem?_cons_zero,Option.bind_some,bX,Option.map_some])
 by_cases c2:16<(M.headD []).length
 ·rw[gh (fun h=>by have:=(h.2.2 _ hmem0).2.1;omega)]
  refine ax Tryz.func45 rfl (by kernel_rfl) ?_;rw[Tryz.ntmps45]
  (refine aa [] fun K hK=>?_;simp(disch:=omega) only[kc,ab,Nat.reduceAdd,ck,List.replicate,ac,Value.oneCell'];apply hK)
  (refine ae (aa [] fun K hK=>?_);simp(disch:=omega) only[kc,ab,Nat.reduceAdd,aw,au,aL,aR,ak,ac,Value.oneCell',ah,bf,aB,bH,aQ];apply hK)
  refine af rfl (fun h=>by simp at h<;>omega) (fun _=>aq ?_)
  show bT _ _ _ _
  (refine aa [] fun K hK=>?_;simp(disch:=omega) only[kc,ab,Nat.reduceAdd,ag,au,ac,Value.oneCell',ao,Int.reduceToNat,aL,bG,h0,fR,b7,aA,ce,aw,bM,aR];apply hK)
  (refine ae (aa [] fun K hK=>?_);simp(disch:=omega) only[kc,ab,Nat.reduceAdd,ak,ac,Value.oneCell',ah,bf,aB,bH,bA,aQ];apply hK)
  refine af rfl (fun _=>?_) (fun h=>by simp at h<;>omega)
  (refine aa [] fun K hK=>?_;simp(disch:=omega) only[kc,ab,Nat.reduceAdd,ac,Value.oneCell'];apply hK)
  (refine ay ⟨.inr rfl,aO rfl ?_ rfl⟩;simp(disch:=omega) only[bE,Tryz.results45,cY,aP,List.getElem?_cons_succ,List.getElem?_cons_zero,Option.bind_some,bX,Option.map_some])
 refine ax Tryz.func45 rfl (by kernel_rfl) ?_;rw[Tryz.ntmps45]
 (refine aa [] fun K hK=>?_;simp(disch:=omega) only[kc,ab,Nat.reduceAdd,ck,List.replicate,ac,Value.oneCell'];apply hK)
 (refine ae (aa [] fun K hK=>?_);simp(disch:=omega) only[kc,ab,Nat.reduceAdd,aw,au,aL,aR,ak,ac,Value.oneCell',ah,bf,aB,bH,aQ];apply hK)
 refine af rfl (fun h=>by simp at h<;>omega) (fun _=>aq ?_)
 show bT _ _ _ _
 (refine aa [] fun K hK=>?_;simp(disch:=omega) only[kc,ab,Nat.reduceAdd,ag,au,ac,Value.oneCell',ao,Int.reduceToNat,aL,bG,h0,fR,b7,aA,ce,aw,bM,aR];apply hK)
 (refine ae (aa [] fun K hK=>?_);simp(disch:=omega) only[kc,ab,Nat.reduceAdd,ak,ac,Value.oneCell',ah,bf,aB,bH,aQ];apply hK)
 refine af rfl (fun h=>by simp at h<;>omega) (fun _=>aq ?_)
 show bT _ _ _ _
 (refine ae (aa [] fun K hK=>?_);simp(disch:=omega) only[kc,ab,Nat.reduceAdd,aw,au,aL,aR,ac,Value.oneCell'];apply hK)
 refine bD (G:=KS M) (fun g=>⟨[ck M,jk,jk,jk,jk,.raw (.int .i64 ((M.headD []).length:Int)),jk,jk,jk,jk,jk,jk,jk,jk,jk,jk,jk,jk,jk,jk,jk,jk,jk,jk,jk,jk,ck M,.raw (.int .i64 (M.length:Int)),.raw (.int .i64 (g.i:Int)),jk,jk,jk,jk,jk,jk,jk,jk,jk,jk,jk],Hm []⟩) (fun g=>M.length-g.i) ⟨0,by omega,fun r hr=>by simp at hr⟩ ?_ ?_
 ·refine aj trivial ?_
  simp[b9,bo,bj]
 ·rintro⟨i,hi,ok⟩
  simp only
  by_cases hm:i<M.length
  ·obtain⟨r,hr⟩:=getElem?_of_lt hm
   have hmem:r∈M:=List.mem_of_getElem? hr
   (refine aa [] fun K hK=>?_;simp(disch:=omega) only[kc,ab,ck,Hm,ak,ah,bA];apply hK)
   refine ae (af rfl (fun _=>aq ?_) (fun h=>by simp at h<;>omega))
   refine ae (aI ?_)
   (refine aa [] fun K hK=>?_;simp(disch:=omega) only[kc,ab,Nat.reduceAdd,ag,au,ao,aL,bG,hr,fR,b7,aA,ce];apply hK)
   by_cases c3:r.length=(M.headD []).length
   ·(refine aa [] fun K hK=>?_;simp(disch:=omega) only[kc,ab,Nat.reduceAdd,aw,au,bM,aR,ak,ah,bA];apply hK)
    refine af rfl (fun h=>by simp at h<;>omega) (fun _=>aq ?_)
    show bT _ _ _ _
    ((refine aU [] [] (by simp) fun K hK=>?_);simp(disch:=omega) only[kc,ab,ak,ac,Value.oneCell',ah,bC];apply hK)
    refine⟨⟨i+1,by omega,fun r' hr'=>?_⟩,by simp only;omega,aj trivial ?_⟩
    ·rw[List.take_add_one,hr]at hr'
     rcases List.mem_append.1 hr' with h|h
     ·exact ok r' h
     ·have:r'=r:=by simpa using h
      subst this
      exact c3
    ·simp[b9,bo,bj]
   ·rw[gh (fun h=>by have:=(h.2.2 r hmem).2.2;omega)]
    (refine aa [] fun K hK=>?_;simp(disch:=omega) only[kc,ab,Nat.reduceAdd,aw,au,bM,aR,ak,ah,bf,Bool.not_false];apply hK)
    refine af rfl (fun _=>?_) (fun h=>by simp at h<;>omega)
    (refine aa [] fun K hK=>?_;simp(disch:=omega) only[kc,ab,Nat.reduceAdd,ac,Value.oneCell'];apply hK)
    (refine ay ⟨.inr rfl,aO rfl ?_ rfl⟩;simp(disch:=omega) only[bE,Tryz.results45,cY,aP,List.getElem?_cons_succ,List.getElem?_cons_zero,Option.bind_some,bX,Option.map_some])
  ·have hsh:vg M:=⟨by omega,by omega,fun r hr=>by
    have:=ok r (by rw[List.take_of_length_le (by omega)];exact hr)
    exact⟨by omega,by omega,this⟩⟩
   rw[gO hsh]
   (refine aa [] fun K hK=>?_;simp(disch:=omega) only[kc,ab,ck,Hm,ak,ah,bf];apply hK)
   refine ae (af rfl (fun h=>by simp at h<;>omega) (fun _=>bv ?_))
   show bT _ _ _ _
   (refine aa [] fun K hK=>?_;simp(disch:=omega) only[kc,ab,Nat.reduceAdd,aw,au,aL,aR,ac,Value.oneCell'];apply hK)
   (refine ay ⟨.inr rfl,aO rfl ?_ rfl⟩;simp(disch:=omega) only[bE,Tryz.results45,cY,aP,List.getElem?_cons_succ,List.getElem?_cons_zero,Option.bind_some,bX,Option.map_some])
theorem yl (M:List (List Int)):CallC Tryz.prog 49 [ci M] ⟨[],JF M⟩:=by
 by_cases h1:M.length<1
 ·rw[gh (fun h=>by have:=h.1;omega)]
  refine ax Tryz.func49 rfl (by kernel_rfl) ?_;rw[Tryz.ntmps49]
  (refine aa [] fun K hK=>?_;simp(disch:=omega) only[kc,ab,Nat.reduceAdd,ci,List.replicate,ac,Value.oneCell'];apply hK)
  (refine ae (aa [] fun K hK=>?_);simp(disch:=omega) only[kc,ab,Nat.reduceAdd,aw,au,aZ,aR,ak,ac,Value.oneCell',ah,bA,aB,reduceCtorEq,Option.map_none,aQ];apply hK)
  refine af rfl (fun _=>?_) (fun h=>by simp at h<;>omega)
  (refine aa [] fun K hK=>?_;simp(disch:=omega) only[kc,ab,Nat.reduceAdd,ac,Value.oneCell'];apply hK)
  (refine ay ⟨.inr rfl,aO rfl ?_ rfl⟩;simp(disch:=omega) only[bE,Tryz.results49,cY,aP,List.getElem?_cons_succ,List.getElem?_cons_zero,Option.bind_some,bX,Option.map_some])
 by_cases h2:16<M.length
 ·rw[gh (fun h=>by have:=h.2.1;omega)]
  refine ax Tryz.func49 rfl (by kernel_rfl) ?_;rw[Tryz.ntmps49]
  (refine aa [] fun K hK=>?_;simp(disch:=omega) only[kc,ab,Nat.reduceAdd,ci,List.replicate,ac,Value.oneCell'];apply hK)
  (refine ae (aa [] fun K hK=>?_);simp(disch:=omega) only[kc,ab,Nat.reduceAdd,aw,au,aZ,aR,ak,ac,Value.oneCell',ah,bf,aB,bH,bA,aQ];apply hK)
  refine af rfl (fun _=>?_) (fun h=>by simp at h<;>omega)
  (refine aa [] fun K hK=>?_;simp(disch:=omega) only[kc,ab,Nat.reduceAdd,ac,Value.oneCell'];apply hK)
  (refine ay ⟨.inr rfl,aO rfl ?_ rfl⟩;simp(disch:=omega) only[bE,Tryz.results49,cY,aP,List.getElem?_cons_succ,List.getElem?_cons_zero,Option.bind_some,bX,Option.map_some])
 have h0:=gI (M:=M) (by omega)
 have hmem0:M.headD []∈M:=List.mem_of_getElem? h0
 by_cases c1:(M.headD []).length<1
 ·rw[gh (fun h=>by have:=(h.2.2 _ hmem0).1;omega)]
  refine ax Tryz.func49 rfl (by kernel_rfl) ?_;rw[Tryz.ntmps49]
  (refine aa [] fun K hK=>?_;simp(disch:=omega) only[kc,ab,Nat.reduceAdd,ci,List.replicate,ac,Value.oneCell'];apply hK)
  (refine ae (aa [] fun K hK=>?_);simp(disch:=omega) only[kc,ab,Nat.reduceAdd,aw,au,aZ,aR,ak,ac,Value.oneCell',ah,bf,aB,bH,aQ];apply hK)
  refine af rfl (fun h=>by simp at h<;>omega) (fun _=>aq ?_)
  show bT _ _ _ _
  (refine aa [] fun K hK=>?_;simp(disch:=omega) only[kc,ab,Nat.reduceAdd,ag,au,ac,Value.oneCell',ao,Int.reduceToNat,aZ,bG,h0,fR,cw,aA,cu,aw,bL,aR];apply hK)
  (refine ae (aa [] fun K hK=>?_);simp(disch:=omega) only[kc,ab,Nat.reduceAdd,ak,ac,Value.oneCell',ah,bA,aB,reduceCtorEq,Option.map_none,aQ];apply hK)
  refine af rfl (fun _=>?_) (fun h=>by simp at h<;>omega)
  (refine aa [] fun K hK=>?_;simp(disch:=omega) only[kc,ab,Nat.reduceAdd,ac,Value.oneCell'];apply hK)
  (refine ay ⟨.inr rfl,aO rfl ?_ rfl⟩;simp(disch:=omega) only[bE,Tryz.results49,cY,aP,List.getElem?_cons_succ,List.getElem?_cons_zero,Option.bind_some,bX,Option.map_some])
 by_cases c2:16<(M.headD []).length
 ·rw[gh (fun h=>by have:=(h.2.2 _ hmem0).2.1;omega)]
  refine ax Tryz.func49 rfl (by kernel_rfl) ?_;rw[Tryz.ntmps49]
  (refine aa [] fun K hK=>?_;simp(disch:=omega) only[kc,ab,Nat.reduceAdd,ci,List.replicate,ac,Value.oneCell'];apply hK)
  (refine ae (aa [] fun K hK=>?_);simp(disch:=omega) only[kc,ab,Nat.reduceAdd,aw,au,aZ,aR,ak,ac,Value.oneCell',ah,bf,aB,bH,aQ];apply hK)
  refine af rfl (fun h=>by simp at h<;>omega) (fun _=>aq ?_)
  show bT _ _ _ _
  (refine aa [] fun K hK=>?_;simp(disch:=omega) only[kc,ab,Nat.reduceAdd,ag,au,ac,Value.oneCell',ao,Int.reduceToNat,aZ,bG,h0,fR,cw,aA,cu,aw,bL,aR];apply hK)
  (refine ae (aa [] fun K hK=>?_);simp(disch:=omega) only[kc,ab,Nat.reduceAdd,ak,ac,Value.oneCell',ah,bf,aB,bH,bA,aQ];apply hK)
  refine af rfl (fun _=>?_) (fun h=>by simp at h<;>omega)
  (refine aa [] fun K hK=>?_;simp(disch:=omega) only[kc,ab,Nat.reduceAdd,ac,Value.oneCell'];apply hK)
  (refine ay ⟨.inr rfl,aO rfl ?_ rfl⟩;simp(disch:=omega) only[bE,Tryz.results49,cY,aP,List.getElem?_cons_succ,List.getElem?_cons_zero,Option.bind_some,bX,Option.map_some])
 refine ax Tryz.func49 rfl (by kernel_rfl) ?_;rw[Tryz.ntmps49]
 (refine aa [] fun K hK=>?_;simp(disch:=omega) only[kc,ab,Nat.reduceAdd,ci,List.replicate,ac,Value.oneCell'];apply hK)
 (refine ae (aa [] fun K hK=>?_);simp(disch:=omega) only[kc,ab,Nat.reduceAdd,aw,au,aZ,aR,ak,ac,Value.oneCell',ah,bf,aB,bH,aQ];apply hK)
 refine af rfl (fun h=>by simp at h<;>omega) (fun _=>aq ?_)
 show bT _ _ _ _
 (refine aa [] fun K hK=>?_;simp(disch:=omega) only[kc,ab,Nat.reduceAdd,ag,au,ac,Value.oneCell',ao,Int.reduceToNat,aZ,bG,h0,fR,cw,aA,cu,aw,bL,aR];apply hK)
 (refine ae (aa [] fun K hK=>?_);simp(disch:=omega) only[kc,ab,Nat.reduceAdd,ak,ac,Value.oneCell',ah,bf,aB,bH,aQ];apply hK)
 refine af rfl (fun h=>by simp at h<;>omega) (fun _=>aq ?_)
 show bT _ _ _ _
 (refine ae (aa [] fun K hK=>?_);simp(disch:=omega) only[kc,ab,Nat.reduceAdd,aw,au,aZ,aR,ac,Value.oneCell'];apply hK)
 refine bD (G:=KS M) (fun g=>⟨[ci M,jk,jk,jk,jk,.raw (.int .i64 ((M.headD []).length:Int)),jk,jk,jk,jk,jk,jk,jk,jk,jk,jk,jk,jk,jk,jk,jk,jk,jk,jk,jk,jk,ci M,.raw (.int .i64 (M.length:Int)),.raw (.int .i64 (g.i:Int)),jk,jk,jk,jk,jk,jk,jk,jk,jk,jk,jk],Hm []⟩) (fun g=>M.length-g.i) ⟨0,by omega,fun r hr=>by simp at hr⟩ ?_ ?_
 ·refine aj trivial ?_
  simp[b9,bo,bj]
 ·rintro⟨i,hi,ok⟩
  simp only
  by_cases hm:i<M.length
  ·obtain⟨r,hr⟩:=getElem?_of_lt hm
   have hmem:r∈M:=List.mem_of_getElem? hr
   (refine aa [] fun K hK=>?_;simp(disch:=omega) only[kc,ab,ci,Hm,ak,ah,bA];apply hK)
   refine ae (af rfl (fun _=>aq ?_) (fun h=>by simp at h<;>omega))
   refine ae (aI ?_)
   (refine aa [] fun K hK=>?_;simp(disch:=omega) only[kc,ab,Nat.reduceAdd,ag,au,ao,aZ,bG,hr,fR,cw,aA,cu];apply hK)
   by_cases c3:r.length=(M.headD []).length
   ·(refine aa [] fun K hK=>?_;simp(disch:=omega) only[kc,ab,Nat.reduceAdd,aw,au,bL,aR,ak,ah,bA];apply hK)
    refine af rfl (fun h=>by simp at h<;>omega) (fun _=>aq ?_)
    show bT _ _ _ _
    ((refine aU [] [] (by simp) fun K hK=>?_);simp(disch:=omega) only[kc,ab,ak,ac,Value.oneCell',ah,bC];apply hK)
    refine⟨⟨i+1,by omega,fun r' hr'=>?_⟩,by simp only;omega,aj trivial ?_⟩
    ·rw[List.take_add_one,hr]at hr'
     rcases List.mem_append.1 hr' with h|h
     ·exact ok r' h
     ·have:r'=r:=by simpa using h
      subst this
      exact c3
    ·simp[b9,bo,bj]
   ·rw[gh (fun h=>by have:=(h.2.2 r hmem).2.2;omega)]
    (refine aa [] fun K hK=>?_;simp(disch:=omega) only[kc,ab,Nat.reduceAdd,aw,au,bL,aR,ak,ah,bf,Bool.not_false];apply hK)
    refine af rfl (fun _=>?_) (fun h=>by simp at h<;>omega)
    (refine aa [] fun K hK=>?_;simp(disch:=omega) only[kc,ab,Nat.reduceAdd,ac,Value.oneCell'];apply hK)
    (refine ay ⟨.inr rfl,aO rfl ?_ rfl⟩;simp(disch:=omega) only[bE,Tryz.results49,cY,aP,List.getElem?_cons_succ,List.getElem?_cons_zero,Option.bind_some,bX,Option.map_some])
  ·have hsh:vg M:=⟨by omega,by omega,fun r hr=>by
    have:=ok r (by rw[List.take_of_length_le (by omega)];exact hr)
    exact⟨by omega,by omega,this⟩⟩
   rw[gO hsh]
   (refine aa [] fun K hK=>?_;simp(disch:=omega) only[kc,ab,ci,Hm,ak,ah,bf];apply hK)
   refine ae (af rfl (fun h=>by simp at h<;>omega) (fun _=>bv ?_))
   show bT _ _ _ _
   (refine aa [] fun K hK=>?_;simp(disch:=omega) only[kc,ab,Nat.reduceAdd,aw,au,aZ,aR,ac,Value.oneCell'];apply hK)
   (refine ay ⟨.inr rfl,aO rfl ?_ rfl⟩;simp(disch:=omega) only[bE,Tryz.results49,cY,aP,List.getElem?_cons_succ,List.getElem?_cons_zero,Option.bind_some,bX,Option.map_some])
section
theorem tS {P:Program} (w:World) (dT sT ty elem:TypeId) (g o dLen dCap:Nat) (a:Addr) (sLen sCap sz:Nat) (cur:Array Value) (t:TypeId) (cs:List Value)
  (hu:P.underlying dT=some (.slice elem)) (hs:(P.info? elem).map (·.size)=some sz)
  (hg:w.heap[g]?=some (.cells cur t (0,0))) (hn:cs.length=Nat.min sLen dLen*sz)
  (hsrc: ∀j v,cs[j]?=some v->w.cell? (a.add j)=some v) (hfit:o+cs.length<=cur.size) (h1: ∀v∈cs,v.oneCell'=true):
  (Builtin.copy_ #[dT,sT] ty #[.slice (some ⟨g,o,none⟩) dLen dCap,.slice (some a) sLen sCap]).run P w=
   .ok (goInt (Nat.min sLen dLen)) (w.setRow g (cur.toList.take o++cs++cur.toList.drop (o+cs.length)).toArray):=by
 have hl:=run_loadCells_list (P:=P) w a cs hsrc
 have hst:=run_storeCells_at P g o t cs 0 cur w hg (by simpa using hfit) h1
 cases hq:P.info? elem with
 |none=>simp[hq]at hs
 |some i=>
  have hi:i.size=sz:=by simpa[hq] using hs
  simp[Builtin.copy_,run_underlying hu,Builtin.lenOf,Builtin.firstCells,sizeOf,typeInfo,hq,hi,<- hn,hl,hst]
section
variable {P:Program} {s:AS} {a:Act} {w0 w:World} {O X:Nat->Prop}
theorem ya {ρ:gm} (h1:a.defers=[]) (hsz:a.tmps.size=s.tmps.length) (hinv:i7 w0 O X s.H ρ w) (htm:di X ρ s a w) {o0 o':OObj} {fa fr b cc:Nat} (hrow:(s.H fa)[fr]?=some o0) (hρ:ρ fa fr=some (b,cc)) {w1:World} (hbut:But b w w1)
  (hes:o'.es=o0.es) (hsize:o'.elems.length=o0.elems.length) (hpure: ∀e∈o'.elems,∀x∈e,isPure x=true) (hob1:objRel (rho1 b cc) (famH 0 [o']) (Xo X ρ s.H) w1 0 0 o') {r:TV} {v:Value} (hnoref:noRefTV r=true) (hr1:r.rel (rho1 b cc) (famH 0 [o']) (Xo X ρ s.H) w1 v) (dst:Option Tmp):
  ik w0 O X (AS.put ⟨s.tmps,aJ s.H fa ((s.H fa).set fr o')⟩ dst r) (a.put dst v) w1:=by
 have hXb:Xo X ρ s.H b:= .inr ⟨fa,fr,o0,cc,hrow,hρ⟩
 have hfr:=(List.getElem?_eq_some_iff.1 hrow).1
 have hnew: ∀(x y:Nat) o1,(aJ s.H fa ((s.H fa).set fr o') x)[y]?=some o1->(x=fa/\y=fr/\o1=o')\/(¬(x=fa/\y=fr)/\(s.H x)[y]?=some o1):=fun x y o1 h=>by
  by_cases hx:x=fa
  ·subst hx
   rw[cz]at h
   by_cases hy:y=fr
   ·subst hy
    rw[List.getElem?_set_self hfr]at h
    injection h with h
    exact .inl ⟨rfl,rfl,h.symm⟩
   ·rw[List.getElem?_set_ne (Ne.symm hy)]at h
    exact .inr ⟨fun h=>hy h.2,h⟩
  ·rw[bO hx]at h
   exact .inr ⟨fun h=>hx h.1,h⟩
 have hlive: ∀(x y:Nat) o1,(s.H x)[y]?=some o1-> ∃o2,(aJ s.H fa ((s.H fa).set fr o') x)[y]?=some o2/\o2.es=o1.es/\o1.elems.length<=o2.elems.length/\ρ x y=ρ x y:=fun x y o1 h=>by
  by_cases hx:x=fa
  ·subst hx
   by_cases hy:y=fr
   ·subst hy
    rw[hrow]at h
    injection h with h
    subst h
    exact⟨o',by rw[cz,List.getElem?_set_self hfr],hes,by rw[hsize];exact Nat.le_refl _,rfl⟩
   ·exact⟨o1,by rw[cz,List.getElem?_set_ne (Ne.symm hy)];exact h,rfl,Nat.le_refl _,rfl⟩
  ·exact⟨o1,by rw[bO hx];exact h,rfl,Nat.le_refl _,rfl⟩
 have hback: ∀(x y:Nat) o1,(aJ s.H fa ((s.H fa).set fr o') x)[y]?=some o1-> ∃o2,(s.H x)[y]?=some o2:=fun x y o1 h=>by
  rcases hnew x y o1 h with⟨rfl,rfl,_⟩|⟨_,h⟩
  ·exact⟨o0,hrow⟩
  ·exact⟨o1,h⟩
 have hXo:Xo X ρ (aJ s.H fa ((s.H fa).set fr o'))=Xo X ρ s.H:=by
  funext j
  apply propext
  constructor
  ·rintro(h|⟨x,y,o1,n,h1,h2⟩)
   ·exact .inl h
   ·obtain⟨o2,h3⟩:=hback x y o1 h1
    exact .inr ⟨x,y,o2,n,h3,h2⟩
  ·rintro(h|⟨x,y,o1,n,h1,h2⟩)
   ·exact .inl h
   ·obtain⟨o2,h3,_⟩:=hlive x y o1 h1
    exact .inr ⟨x,y,o2,n,h3,h2⟩
 have mono: ∀x u,AV.rel ρ s.H (Xo X ρ s.H) w x u->AV.rel ρ (aJ s.H fa ((s.H fa).set fr o')) (Xo X ρ (aJ s.H fa ((s.H fa).set fr o'))) w1 x u:=fun x u hx=>
  kd hXb hbut hlive (fun x y o1 b' c' h1 h2 _=>by
   obtain⟨o2,h3⟩:=hback x y o1 h1
   exact .inr ⟨x,y,o2,c',h3,h2⟩) hx
 have hinv':i7 w0 O X (aJ s.H fa ((s.H fa).set fr o')) ρ w1:=by
  refine⟨hinv.keep.but hbut (hinv.old fa fr o0 b cc hrow hρ).1,fun x y o1 h=>?_,fun x y x' y' o1 o2 j c1 c2 h h' q q'=>?_,fun x y o1 j c1 h q=>?_,fun j hj=>Nat.lt_of_lt_of_le (hinv.bar j hj) hbut.size,fun x y o1 h=>?_⟩
  ·rcases hnew x y o1 h with⟨rfl,rfl,rfl⟩|⟨hne,h⟩
   ·rw[hXo]
    exact jP hpure hob1 (by simp[rho1,hρ])
   ·refine fk (hinv.objs x y o1 h) rfl (fun j c1 hj=>?_) mono
    refine hbut.block j (dB (hinv.objs x y o1 h) hj) ?_
    rintro rfl
    exact hne (hinv.inj x y fa fr o1 o0 j c1 cc h hrow hj hρ)
  ·obtain⟨o3,h3⟩:=hback x y o1 h
   obtain⟨o4,h4⟩:=hback x' y' o2 h'
   exact hinv.inj x y x' y' o3 o4 j c1 c2 h3 h4 q q'
  ·obtain⟨o3,h3⟩:=hback x y o1 h
   exact hinv.old x y o3 j c1 h3 q
  ·rcases hnew x y o1 h with⟨rfl,rfl,rfl⟩|⟨hne,h⟩
   ·exact eo hpure
   ·exact hinv.self x y o1 h
 have htm':di X ρ ⟨s.tmps,aJ s.H fa ((s.H fa).set fr o')⟩ a w1:=fun t x hx=>by
  obtain⟨u,u1,u2⟩:=htm t x hx
  exact⟨u,u1,TV.rel_map u2 mono⟩
 refine⟨by rw[jx];exact h1,by rw[mb,fp];exact hsz,ρ,by rw[jw];exact hinv',sP hsz htm' ?_⟩
 show r.rel ρ (aJ s.H fa ((s.H fa).set fr o')) (Xo X ρ (aJ s.H fa ((s.H fa).set fr o'))) w1 v
 rw[hXo]
 exact mQ hnoref hr1
theorem GJ (hrel:ik w0 O X s a w) {o:Oper} {x y:Operand} {t t' e:TypeId} (ho:o.op= .call {callee:= .builtin .copy,args:= #[x,y],argTypes:= #[t,t']}) {fa fr len:Nat} {o0:OObj} {news:List (List AV)} {ty:TV}
  (hx:s.ev x=some (.one (.sl fa fr 0 len))) (hy:s.ev y=some ty) (hnews:newsOf s.H ty=some news) (hrow:(s.H fa)[fr]?=some o0) (hsl:fb P t=some e) (hse:kD P e=some o0.es) (hl0:0<len) (hlen:o0.elems.length=len) (hnl:news.length=len) (hne: ∀e∈news,e.length=o0.es)
  {K:Act->World->Prop} {Q:Exit->Act->World->Prop}
  (hK: ∀v w',ik w0 O X (AS.put ⟨s.tmps,aJ s.H fa ((s.H fa).set fr ⟨o0.ty,o0.es,news⟩)⟩ o.dst (.raw (.int .i64 (len:Int)))) (a.put o.dst v) w'->K (a.put o.dst v) w'):o.wp P a w K Q:=by
 obtain⟨h1,hsz,ρ,hinv,htm⟩:=hrel
 have htm:di X ρ s a w:=htm
 obtain⟨o1,g1,g2,g3⟩:=ew htm x _ hx
 rw[hrow]at g1
 injection g1 with g1
 subst g1
 obtain⟨b,cc,hρ,hv⟩: ∃b cc,ρ fa fr=some (b,cc)/\a.eval x= .slice (some ⟨b,0*o0.es,none⟩) len (cc-0):=by
  rcases g3 with⟨_,_,g4,_⟩|g3
  ·omega
  ·exact g3
 have hob:=hinv.objs fa fr o0 hrow
 obtain⟨q1,hpos,q3⟩:=id hob
 rw[hρ]at q3
 obtain⟨cells,c1,c2,c3,c4,c5⟩:=q3
 obtain⟨us,⟨A,c,hvy,hrd⟩,hul,hone,hpu,hcell⟩:=nZ hinv.objs hnews (ew htm y ty hy) hne hpos
 have hXb:Xo X ρ s.H b:= .inr ⟨fa,fr,o0,cc,hrow,hρ⟩
 have husl:0<us.length:=by rw[hul,hnl];exact Nat.mul_pos hl0 hpos
 obtain⟨b',off,rfl,hcs⟩:=hrd (fun h=>by rw[h]at husl;simp at husl)
 have hmin:Nat.min news.length len=len:=by rw[hnl];exact Nat.min_self len
 have hfit:0+us.length<=cells.size:=by rw[hul,hnl,c2,Nat.zero_add];exact Nat.mul_le_mul_right _ (by omega)
 obtain⟨ti,hti,hts⟩:=mp hse
 have hrun:=tS (P:=P) w t t' o.type e b 0 len (cc-0) ⟨b',off,none⟩ news.length c o0.es cells o0.ty us (eP hsl) (by rw[hti];simp[hts]) c1 (by rw[hmin,hul,hnl]) (fun j v hj=>by have hadd:(⟨b',off,none⟩:Addr).add j=⟨b',off+j,none⟩:=by{unfold Addr.add;split<;>simp_all};rw[hadd];exact hcs j v hj) hfit hone
 rw[hmin]at hrun
 rw[Nat.zero_mul]at hv
 have hbut:=But.setRow w b (cells.toList.take 0++us++cells.toList.drop (0+us.length)).toArray
 have hheap:=setRow_heap w b cells (cells.toList.take 0++us++cells.toList.drop (0+us.length)).toArray o0.ty (0,0) c1
 have hK':=fun v=>hK v (w.setRow b (cells.toList.take 0++us++cells.toList.drop (0+us.length)).toArray)
 generalize hw1:w.setRow b (cells.toList.take 0++us++cells.toList.drop (0+us.length)).toArray=w1 at*
 have hres:ik w0 O X (AS.put ⟨s.tmps,aJ s.H fa ((s.H fa).set fr ⟨o0.ty,o0.es,news⟩)⟩ o.dst (.raw (.int .i64 (len:Int)))) (a.put o.dst (goInt len)) w1:=by
  refine ya h1 hsz hinv htm hrow hρ hbut (o':=⟨o0.ty,o0.es,news⟩) rfl (by simp only;omega) hpu ?_ rfl (gf rfl) o.dst
  refine⟨hne,hpos,?_⟩
  have hr:rho1 b cc 0 0=some (b,cc):=by simp[rho1]
  rw[hr]
  refine⟨_,hheap,?_,by simp only;omega,c4,fun i e j z he hz=>?_⟩
  ·simp at hfit⊢;omega
  ·obtain⟨u,u1,u2,u3⟩:=hcell i e j z he hz
   refine⟨u,?_,u2,?_⟩
   ·simp only[List.take_zero,List.nil_append,List.getElem?_toArray]
    rw[List.getElem?_append_left (List.getElem?_eq_some_iff.1 u1).1]
    exact u1
   ·have hzp:=hpu e (List.mem_of_getElem? he) z (List.mem_of_getElem? hz)
    have:=kd (ρ':=ρ) (H':=s.H) hXb hbut (fun x y o1 h=>⟨o1,h,rfl,Nat.le_refl _,rfl⟩) (fun x y o1 b' c' h1 h2 _=> .inr ⟨x,y,o1,c',h1,h2⟩) u3
    cases z with
    |p z=>exact this
    |_=>cases hzp
 have hrun':(execOp a.eval o).run P w= .ok (.value (goInt len)) w1:=by
  unfold execOp
  simp only[ho,resolve,invoke,builtin,Sem.run_bind,Sem.run_pure,Result.andThen_ok,List.map_toArray,List.map_cons,List.map_nil,hv,hvy,hrun]
 unfold Oper.wp
 rw[hrun']
 exact hK' _ hres
def cpTs (ops:Array Oper) (m:Nat) (s:AS):Option (TypeId×TV×TV):=match ops[m]? with
 |some ⟨_,.call ⟨.builtin .copy,⟨[x,y]⟩,⟨[t,_]⟩⟩,_,_,_,none⟩=>match s.ev x,s.ev y with
  |some tx,some ty=>some (t,tx,ty)
  |_,_=>none
 |_=>none
structure JV (P:Program) (ops:Array Oper) (m:Nat) (t e:TypeId) (ty:TV) (len fa fr:Nat) (o0:OObj) (news:List (List AV)) (s:AS):Prop where
 ts:cpTs ops m s=some (t,.one (.sl fa fr 0 len),ty)
 row:(s.H fa)[fr]?=some o0
 news:newsOf s.H ty=some news
 len:o0.elems.length=len
theorem DC (m:Nat) (t e:TypeId) (ty:TV) (len fa fr:Nat) (o0:OObj) (news:List (List AV)) (items:List (ar P)) (ow:List Nat) {id:Nat} {ops:Array Oper} {Q:Exit->AS->Prop} (hsl:fb P t=some e) (hse:kD P e=some o0.es) (hl0:0<len) (hnl:news.length=len) (hne: ∀e∈news,e.length=o0.es) (hl:s.tmps.length<=1000000) (hm:m<ops.toList.length)
  (h:eE P (items.map ar.a) ow (dC ops (ops.toList.take m) 0) (some s) (fun s1=>JV P ops m t e ty len fa fr o0 news s1/\s1.tmps.length<=1000000/\eE P (items.map ar.a) ow (dC ops (ops.toList.drop (m+1)) (m+1)) (some (Cl ops m (.raw (.int .i64 (len:Int))) fa fr ⟨o0.ty,o0.es,news⟩ s1)) (Q .normal))):bT P (.region id ops false) Q s:=fun w0 O X a w r0=>by
 obtain⟨s1,h1,⟨q1,q2,q3,q4⟩,hl1,h2⟩:=dF P (items.map ar.a) ow ops _ 0 s _ hl h
 obtain⟨s',h3,h4⟩:=dF P (items.map ar.a) ow ops _ (m+1) _ _ (by unfold Cl;rw[fp];exact hl1) h2
 unfold cpTs at q1
 split at q1
 ·rename_i dst x y t0 t1 typ pos aft ho
  split at q1
  ·rename_i tx ty0 hx hy
   injection q1 with q1
   injection q1 with q1 q5
   injection q5 with q5 q6
   subst q1 q5 q6
   refine wp_region ?_
   have hsz:ops.size=(ops.toList.take m).length+(1+(ops.toList.drop (m+1)).length):=by simp at hm⊢;omega
   rw[hsz,List.range_eq_range',<- List.range'_append_1,Nat.zero_add]
   have hml:(ops.toList.take m).length=m:=by rw[List.length_take];omega
   refine mf (ar.ok items) (ops.toList.take m) 0 s s1 a w (fun j o hj=>?_) h1 r0 fun a' w' r'=>?_
   ·rw[List.getElem?_take]at hj
    split at hj
    ·simpa using hj
    ·cases hj
   ·rw[hml,Nat.add_comm 1,List.range'_succ]
    simp only[wpOps,ho]
    rw[if_pos (by simp[Region.wanted])]
    refine .inl (GJ r' rfl hx hy q3 q2 hsl hse hl0 q4 hnl hne fun v w1 hr1=>?_)
    refine iy (ar.ok items) (Q:=fun e a' w'=> ∃s',Q e s'/\ik w0 O X s' a' w') (ops.toList.drop (m+1)) (m+1) _ s' _ _ (fun j o hj=>?_) h3 ?_ (fun a' w' hr=>⟨s',h4,hr⟩)
    ·rw[List.getElem?_drop]at hj
     simpa using hj
    ·have:cwD ops m=dst:=by unfold cwD;rw[ho];rfl
     unfold Cl
     rw[this]
     exact hr1
  ·cases q1
 ·cases q1
theorem BT (m:Nat) (t e:TypeId) (ty:TV) (len fa fr:Nat) (o0:OObj) (news:List (List AV)) (items:List (ar P)) (ow:List Nat) {id:Nat} {ops:Array Oper} {Q:Exit->AS->Prop} (hsl:fb P t=some e) (hse:kD P e=some o0.es) (hl0:0<len) (hnl:news.length=len) (hne: ∀e∈news,e.length=o0.es) (hl:s.tmps.length<=1000000) (hm:m<ops.toList.length)
  (h: ∀K:AS->Prop,(∀s1,(JV P ops m t e ty len fa fr o0 news s1/\s1.tmps.length<=1000000/\ ∀K:AS->Prop,(∀s',Q .normal s'->K s')->eE P (items.map ar.a) ow (dC ops (ops.toList.drop (m+1)) (m+1)) (some (Cl ops m (.raw (.int .i64 (len:Int))) fa fr ⟨o0.ty,o0.es,news⟩ s1)) K)->K s1)->eE P (items.map ar.a) ow (dC ops (ops.toList.take m) 0) (some s) K):bT P (.region id ops false) Q s:=
 DC m t e ty len fa fr o0 news items ow hsl hse hl0 hnl hne hl hm (h _ fun s1 ⟨q1,q2,q3⟩=>⟨q1,q2,q3 _ fun _ h=>h⟩)
end
end
theorem Jm {s:AS} {w0 w:World} {O X:Nat->Prop} {ρ:gm} {act:Act} (a:Nat) (hok:vJ s.H a) (hinv:i7 w0 O X s.H ρ w) (htm:di X ρ s act w):i7 w0 O X (aJ s.H a []) ρ w/\di X ρ ⟨s.tmps.map (gH s.H a),aJ s.H a []⟩ act w:=by
 have hna: ∀(x y:Nat) o,(aJ s.H a [] x)[y]?=some o->x≠a/\(s.H x)[y]?=some o:=fun x y o ho=>by
  by_cases hx:x=a
  ·subst hx;rw[cz]at ho;simp at ho
  ·rw[bO hx]at ho;exact⟨hx,ho⟩
 have hXo: ∀b,Xo X ρ (aJ s.H a []) b->Xo X ρ s.H b:=fun b hb=>by
  rcases hb with hb|⟨x,y,o,n,g1,g2⟩
  ·exact .inl hb
  ·exact .inr ⟨x,y,o,n,(hna x y o g1).2,g2⟩
 have hZb: ∀(r:Nat) o,(s.H a)[r]?=some o-> ∀b c,ρ a r=some (b,c)-> ¬Xo X ρ (aJ s.H a []) b:=fun r o ho b c hr hX=>by
  rcases hX with hX|⟨x,y,o',n,g1,g2⟩
  ·exact(hinv.old a r o b c ho hr).2 hX
  ·obtain⟨hx,g1'⟩:=hna x y o' g1
   exact hx (hinv.inj x y a r o' o b n c g1' ho g2 hr).1
 have hpure: ∀x u,isPure x=true->AV.rel ρ s.H (Xo X ρ s.H) w x u->dy (Xo X ρ (aJ s.H a [])) w (ka x) u:=fun x u hp h=>by
  cases x<;>first|exact dy.weaken (fun b _ hb=>hXo b hb) h|cases hp
 have hcell: ∀(r:Nat) o,(s.H a)[r]?=some o-> ∀e∈o.elems,∀x∈e,∀u,AV.rel ρ s.H (Xo X ρ s.H) w x u->dy (Xo X ρ (aJ s.H a [])) w (ke s.H a x) u:=fun r o ho e he x hx u hu=>by
  rcases hok r o ho e he x hx with hp|⟨r',off,len,o',rfl,ho',hpr⟩
  ·have:=hpure x u hp hu
   cases x<;>first|exact this|cases hp
  ·simp only[ke,ho']
   exact mR (hinv.objs a r' o' ho') ho' (fun e he y hy u hu=>hpure y u (hpr e he y hy) hu) (hZb r' o' ho') hu
 have hmap: ∀x v,AV.rel ρ s.H (Xo X ρ s.H) w x v->AV.rel ρ (aJ s.H a []) (Xo X ρ (aJ s.H a [])) w (fu s.H a x) v:=fun x v h=>by
  cases x with
  |p x=>exact dy.weaken (fun b _ hb=>hXo b hb) h
  |sl b r off len=>
   simp only[fu]
   by_cases hb:b=a
   ·subst hb
    rw[if_pos rfl]
    have h':=h
    obtain⟨o,g1,g2,g3⟩:=h
    rw[g1]
    exact mR (hinv.objs b r o g1) g1 (hcell r o g1) (hZb r o g1) h'
   ·rw[if_neg hb]
    obtain⟨o,g1,g2⟩:=h
    exact⟨o,by rw[bO hb];exact g1,g2⟩
  |ptr b r i j=>
   simp only[fu]
   by_cases hb:b=a
   ·subst hb;rw[if_pos rfl];trivial
   ·rw[if_neg hb]
    obtain⟨o,b',c,g1,g2⟩:=h
    exact⟨o,b',c,by rw[bO hb];exact g1,g2⟩
  |junk=>trivial
 have hagg: ∀cs v,dv ρ s.H (Xo X ρ s.H) w cs v->dv ρ (aJ s.H a []) (Xo X ρ (aJ s.H a [])) w (cs.map (fu s.H a)) v:=fun cs v h=>by
  obtain⟨vs,g1,g2,g3⟩:=h
  refine⟨vs,g1,by simpa using g2,fun j x hx=>?_⟩
  rw[List.getElem?_map]at hx
  obtain⟨y,hy,rfl⟩:=Option.map_eq_some_iff.1 hx
  obtain⟨u,u1,u2,u3⟩:=g3 j y hy
  exact⟨u,u1,u2,hmap y u u3⟩
 refine⟨⟨hinv.keep,fun x y o ho=>?_,fun x y x' y' o o' b c c' ho ho'=>hinv.inj x y x' y' o o' b c c' (hna x y o ho).2 (hna x' y' o' ho').2,fun x y o b c ho=>hinv.old x y o b c (hna x y o ho).2,hinv.bar,fun x y o ho=>hinv.self x y o (hna x y o ho).2⟩,fun t x hx=>?_⟩
 ·obtain⟨hx,ho'⟩:=hna x y o ho
  obtain⟨q1,q2,q3⟩:=hinv.objs x y o ho'
  refine⟨q1,q2,?_⟩
  cases hr:ρ x y with
  |none=>rw[hr]at q3;exact q3
  |some bc=>
   obtain⟨b,c⟩:=bc
   rw[hr]at q3
   obtain⟨cells,p1,p2,p3,p4,p5⟩:=q3
   refine⟨cells,p1,p2,p3,p4,fun i e j z he hz=>?_⟩
   obtain⟨u,u1,u2,u3⟩:=p5 i e j z he hz
   have hs:=hinv.self x y o ho' e (List.mem_of_getElem? he) z (List.mem_of_getElem? hz)
   have:=hmap z u u3
   refine⟨u,u1,u2,?_⟩
   cases z with
   |sl z _ _ _=>have hs:z=x:=hs;subst hs;simpa[fu,hx] using this
   |ptr z _ _ _=>have hs:z=x:=hs;subst hs;simpa[fu,hx] using this
   |p z=>exact this
   |junk=>trivial
 ·simp only[List.getElem?_map]at hx
  obtain⟨y,hy,rfl⟩:=Option.map_eq_some_iff.1 hx
  obtain⟨v,v1,v2⟩:=htm t y hy
  refine⟨v,v1,?_⟩
  cases y with
  |one x=>exact hmap x v v2
  |agg cs=>exact hagg cs v v2
  |fn f cs=>obtain⟨u,h1,h2⟩:=v2;exact⟨u,hagg cs u h1,h2⟩
  |tup ts=>
   obtain⟨vs,g1,g2,g3⟩:=v2
   refine⟨vs,g1,by simpa using g2,fun j b cs hj=>?_⟩
   rw[List.getElem?_map]at hj
   obtain⟨z,hz,hzz⟩:=Option.map_eq_some_iff.1 hj
   obtain⟨b',cs'⟩:=z
   simp at hzz
   obtain⟨rfl,rfl⟩:=hzz
   obtain⟨u,u1,u2⟩:=g3 j b' cs' hz
   refine⟨u,u1,?_⟩
   rcases u2 with⟨u2,u3⟩|⟨u2,q,rfl,u4⟩
   ·exact .inl ⟨u2,hagg _ _ u3⟩
   ·exact .inr ⟨u2,_,rfl,hmap q u u4⟩
theorem DB {s:AS} (a k:Nat) {ty:TypeId} {es:Nat} {cs:List PV} (hH:s.H a=[⟨ty,es,[cs.map AV.p]⟩]) (hk:s.tmps[k]?=some (.one (.ptr a 0 0 0))):dG s ⟨(s.tmps.map (gH s.H a)).set k (.one (.p (.ptr cs))),aJ s.H a []⟩:=by
 rintro w0 O X act w ⟨h1,hsz,ρ,hinv,htm⟩
 have htm:di X ρ s act w:=htm
 have hrow:(s.H a)[0]?=some ⟨ty,es,[cs.map AV.p]⟩:=by rw[hH];rfl
 have hok:vJ s.H a:=fun r o ho e he x hx=>by
  rw[hH]at ho
  cases r with
  |succ r=>simp at ho
  |zero=>
   simp at ho
   subst ho
   simp at he
   subst he
   obtain⟨y,_,rfl⟩:=List.mem_map.1 hx
   exact .inl rfl
 obtain⟨hinv',htm'⟩:=Jm a hok hinv htm
 refine⟨h1,by simpa using hsz,ρ,hinv',fun t x hx=>?_⟩
 by_cases e:t=k
 ·subst e
  simp only at hx
  have hlt:=(List.getElem?_eq_some_iff.1 hk).1
  rw[List.getElem?_set_self (by simpa using hlt)]at hx
  injection hx with hx
  subst hx
  obtain⟨v,v1,o,b,c,g1,g2,g3,rfl⟩:=htm t _ hk
  rw[hrow]at g1
  injection g1 with g1
  subst g1
  refine⟨_,v1,?_⟩
  obtain⟨q1,q2,q3⟩:=hinv.objs a 0 _ hrow
  rw[g2]at q3
  obtain⟨cells,p1,p2,p3,p4,p5⟩:=q3
  have hXo: ∀b,Xo X ρ (aJ s.H a []) b->Xo X ρ s.H b:=fun b hb=>by
   rcases hb with hb|⟨x,y,o,n,g1,g2⟩
   ·exact .inl hb
   ·by_cases hx:x=a
    ·subst hx;rw[cz]at g1;simp at g1
    ·rw[bO hx]at g1;exact .inr ⟨x,y,o,n,g1,g2⟩
  have hnb: ¬Xo X ρ (aJ s.H a []) b:=fun hX=>by
   rcases hX with hX|⟨x,y,o',n,g1,g3⟩
   ·exact(hinv.old a 0 _ b c hrow g2).2 hX
   ·by_cases hx:x=a
    ·subst hx;rw[cz]at g1;simp at g1
    ·rw[bO hx]at g1
     exact hx (hinv.inj x y a 0 o' _ b n c g1 hrow g3 g2).1
  show dy _ w (.ptr cs) _
  rw[show(0:Nat)*(⟨ty,es,[cs.map AV.p]⟩:OObj).es+0=0 by simp]
  have hkey: ∀(j:Nat) x,cs[j]?=some x-> ∃u:Value,cells[j]?=some u/\dy (Xo X ρ (aJ s.H a [])) w x u:=fun j x hx=>by
   obtain⟨u,u1,u2,u3⟩:=p5 0 (cs.map AV.p) j (.p x) rfl (by rw[List.getElem?_map,hx];rfl)
   refine⟨u,by simpa using u1,dy.weaken (fun b _ hb=>hXo b hb) u3⟩
  refine dy.ptr b 0 cs (fun j=>(cells[j]?).getD undef) hnb (Array.getElem?_eq_some_iff.1 p1).1 (fun j x hx=>?_) (fun j x hx=>?_)
  ·obtain⟨u,u1,u2⟩:=hkey j x hx
   rw[cell_of_row _ b _ cells _ _ p1,Nat.zero_add,u1];rfl
  ·obtain⟨u,u1,u2⟩:=hkey j x hx
   simp only[u1,Option.getD_some]
   exact u2
 ·simp only at hx
  rw[List.getElem?_set_ne (Ne.symm e)]at hx
  exact htm' t x hx
abbrev nC (M:List (List Int)):AV:= .p (.ptr [.sl (ls (fR fI) M)])
theorem J8 {n c:Nat} {f:Nat->Nat->Int} {i j:Nat} (hi:i<n) (hj:j<c) (hc:c<=16) (hn:n<=16) (hf: -9223372036854775808<=f i j/\f i j<=9223372036854775807):
  CallC Tryz.prog 47 [.raw (.int .i64 (i:Int)),.raw (.int .i64 (j:Int)),.one (nC (cd n c f))] ⟨[],tZ (f i j)⟩:=by
 have hml:=bQ n c f
 have hr:=cS c f hi
 have hjr:=bK (f i) hj
 have hS:=xB (f i j) hf.1 hf.2
 refine ax Tryz.func47 rfl (by kernel_rfl) ?_;rw[Tryz.ntmps47]
 (refine aa [] fun K hK=>?_;simp(disch:=omega) only[kc,ab,nC,Nat.reduceAdd,List.replicate,bu,aN,aC,bi,Value.oneCell',bH];apply hK)
 (refine aa [⟨7,_,_,_,hS⟩] fun K hK=>?_;simp(disch:=omega) only[kc,tZ,ar.a,ab,Nat.reduceAdd,au,aA,wK,tz,ag,ao,aL,bG,hr,fR,b7,ce,bM,hjr,fI,dL,fF,ai,aN,aC,List.find?_cons,aD,aX,CallRes.plain,aF,aH,ap,noRefTV,am,aG,aE,az,df,bJ,aM,aJ,cellsOf,Nat.le_refl,isPure,bH,putCells,aS,aT];apply hK)
 (refine ay ⟨.inr rfl,aO rfl ?_ rfl⟩;simp(disch:=omega) only[kc,bE,Tryz.results47,aP,aJ,cP,aA,aM,aW,Nat.reduceAdd,Nat.le_refl,tZ])
def yC (d n c i:Nat) (g:Nat->Nat->Int):List OObj:=⟨91,1,gY d (List.replicate i c)++List.replicate (n-i) [.p (.sl [])]⟩::(cd i c g).map lN
theorem uh (d n c:Nat) (g:Nat->Nat->Int):([⟨91,1,List.replicate n [.raw (.slice none 0 0)]⟩]:List OObj).map zO=yC d n c 0 g:=by
 simp[yC,cd,zO,gY,yA,yE]
theorem xj (d n c:Nat) (g:Nat->Nat->Int):yC d n c n g=gV d n c g:=by
 simp[yC]
theorem xk {d n c i:Nat} (g:Nat->Nat->Int) (hi:i<n) (hz: ∀b,b<c->g i b=0):
  ((⟨91,1,(gY d (List.replicate i c)++List.replicate (n-i) [AV.p (PV.sl [])]).set i [.sl d (i+1) 0 c]⟩::(cd i c g).map lN++[⟨53,2,List.replicate c [.raw (.bool false),.raw (.slice none 0 0)]⟩]:List OObj)).map zO=yC d n c (i+1) g:=by
 have e1:(gY d (List.replicate i c)++List.replicate (n-i) [AV.p (PV.sl [])]).set i [.sl d (i+1) 0 c]=gY d (List.replicate (i+1) c)++List.replicate (n-(i+1)) [AV.p (PV.sl [])]:=by
  rw[List.set_append_right _ _ (by simp[dN]),dN,List.length_replicate,Nat.sub_self,List.replicate_succ' (n:=i),mm,List.length_replicate,List.append_assoc]
  congr 1
  rw[show n-i=n-(i+1)+1 by omega,List.replicate_succ]
  rfl
 have e2:de c (g i)=List.replicate c 0:=by
  apply List.ext_getElem?
  intro b
  by_cases hb:b<c
  ·rw[bK _ hb,List.getElem?_replicate,if_pos hb,hz b hb]
  ·rw[List.getElem?_eq_none (by rw[cq];omega),List.getElem?_eq_none (by simp;omega)]
 have e3:cd (i+1) c g=cd i c g++[de c (g i)]:=by simp[cd,List.range_succ]
 rw[e1]
 simp only[List.cons_append,List.map_cons,List.map_append,yC,e3,List.map_map]
 congr 1
 ·simp[zO,IF,yA,yE]
 ·congr 1
  ·refine List.map_congr_left fun r _=>?_
   simp[zO,lN,Kj]
  ·simp[e2,zO,lN,lc,fZ,yA,yE,dx,ls]
theorem AC {d n c i k:Nat} (h:k<i):(gY d (List.replicate i c)++List.replicate (n-i) [AV.p (PV.sl [])])[k]?=some [.sl d (k+1) 0 c]:=by
 rw[List.getElem?_append_left (by simp[dN];exact h),cX d c h]
theorem AD {d n c i:Nat} (h:i<=n):(gY d (List.replicate i c)++List.replicate (n-i) [AV.p (PV.sl [])]).length=n:=by simp[dN];omega
theorem Gw (n c:Nat) (f:Nat->Nat->Int) (hn1:1<=n) (hn:n<=16) (hc1:1<=c) (hc:c<=16) (hf: ∀i j,i<n->j<c-> -9223372036854775808<=f i j/\f i j<=9223372036854775807):
  CallC Tryz.prog 46 [.raw (.int .i64 (n:Int)),.raw (.int .i64 (c:Int)),.fn 47 [nC (cd n c f)]] ⟨gV 0 n c f,.one (.sl 0 0 0 n)⟩:=by
 refine ax Tryz.func46 rfl (by kernel_rfl) ?_;rw[Tryz.ntmps46]
 (refine aa [] fun K hK=>?_;simp(disch:=omega) only[kc,ab,nC,Nat.reduceAdd,List.replicate,ac,Value.oneCell'];apply hK)
 (refine aa [] fun K hK=>?_;simp(disch:=omega) only[kc,ab,Nat.reduceAdd,bZ,aN,aC,aZ,kG,cw,pp,Int.natCast_nonneg,Value.oneCell',and_true,bH];apply hK)
 (refine ae (aa [] fun K hK=>?_);simp(disch:=omega) only[kc,ab,Nat.reduceAdd,aw,au,aZ,ac,Value.oneCell'];apply hK)
 refine bD (G:=mz n) (fun g=>⟨[jk,.raw (.int .i64 (c:Int)),.fn 47 [nC (cd n c f)],jk,jk,jk,jk,.one (.sl 11 0 0 n),jk,jk,jk,jk,jk,.raw (.int .i64 (n:Int)),.raw (.int .i64 (g.i:Int)),jk,jk,jk,jk,jk,jk,jk,jk,jk,jk,jk,jk,jk,jk,jk,jk,jk,jk,jk,jk,jk,jk,jk,jk,jk,jk,jk,jk],Hm [(11,yC 11 n c g.i (part f g.i 0))]⟩) (fun g=>n-g.i) ⟨0,by omega⟩ ?_ ?_
 ·refine(gL 11).trans (aj ⟨uh 11 n c _,trivial⟩ ?_)
  simp[b9,bo,bj]
 ·rintro⟨i,hi⟩
  simp only
  by_cases hm:i<n
  ·have hg:=wP (d:=11) (c:=c) hm
   (refine aa [] fun K hK=>?_;simp(disch:=omega) only[kc,ab,nC,Hm,ak,ah,bA];apply hK)
   refine ae (af rfl (fun _=>aq ?_) (fun h=>by simp at h<;>omega))
   refine ae (aI ?_)
   (refine aa [] fun K hK=>?_;simp(disch:=omega) only[kc,ab];apply hK)
   simp only[yC]
   (refine aa [] fun K hK=>?_;simp(disch:=omega) only[kc,ab,Nat.reduceAdd,bZ,aN,aC,bL,bi,aM,lC,Int.natCast_nonneg,Value.oneCell',and_true,bH,Nat.reduceEqDiff,ag,au,ao,aZ,aJ,cw,az,df,bJ,hg,putCells,cP,List.length_replicate,List.all_replicate,isPure,List.length_map,bQ,aS,aT,Nat.reduceBEq];apply hK)
   refine bT.weak ((gL 11).trans (aj (tm:=[jk,.raw (.int .i64 (c:Int)),.fn 47 [nC (cd n c f)],jk,jk,jk,jk,.one (.sl 11 0 0 n),.raw (.int .i64 (i:Int)),jk,jk,jk,jk,.raw (.int .i64 (n:Int)),.raw (.int .i64 (i:Int)),jk,jk,jk,jk,jk,jk,jk,jk,jk,jk,jk,jk,jk,jk,jk,jk,jk,jk,jk,jk,jk,jk,jk,jk,jk,jk,jk,jk]) (l:=[(11,yC 11 n c (i+1) (part f i 0))]) ⟨xk (part f i 0) hm (fun b _=>by simp[part]),trivial⟩ (by simp[b9,bo,bj]))) ?_
   have a1:=AC (d:=11) (n:=n) (c:=c) (show i<i+1 by omega)
   have a2:=AD (d:=11) (n:=n) (c:=c) (show i+1<=n by omega)
   have a3:=eY (n:=i+1) c (part f i 0) (show i<i+1 by omega)
   simp only[yC]
   (refine aa [] fun K hK=>?_;simp(disch:=omega) only[kc,ab,Nat.reduceAdd,nC,Hm,ag,au,ao,aZ,cw,bH,a1,aA,cu,aw,bL,ac,Value.oneCell'];apply hK)
   refine bD (G:=mz c) (fun g=>⟨[jk,.raw (.int .i64 (c:Int)),.fn 47 [nC (cd n c f)],jk,jk,jk,jk,.one (.sl 11 0 0 n),.raw (.int .i64 (i:Int)),jk,jk,jk,jk,.raw (.int .i64 (n:Int)),.raw (.int .i64 (i:Int)),jk,jk,jk,jk,jk,jk,jk,jk,jk,jk,jk,.raw (.int .i64 (c:Int)),.raw (.int .i64 (g.i:Int)),jk,jk,jk,jk,jk,jk,jk,jk,jk,jk,jk,jk,jk,jk,jk],Hm [(11,yC 11 n c (i+1) (part f i g.i))]⟩) (fun g=>c-g.i) ⟨0,by omega⟩ ?_ ?_
   ·refine aj ⟨rfl,trivial⟩ ?_
    simp[b9,bo,bj]
   ·rintro⟨j,hj⟩
    simp only
    by_cases hm2:j<c
    ·have hS:=J8 (n:=n) (c:=c) (f:=f) hm hm2 hc hn (hf i j hm hm2)
     have g2:=eY (n:=i+1) c (part f i j) (show i<i+1 by omega)
     have g3:=bK (part f i j i) hm2
     (refine aa [] fun K hK=>?_;simp(disch:=omega) only[kc,ab,nC,Hm,ak,ah,bA];apply hK)
     refine ae (af rfl (fun _=>aq ?_) (fun h=>by simp at h<;>omega))
     refine ae (aI ?_)
     (refine aa [] fun K hK=>?_;simp(disch:=omega) only[kc,ab];apply hK)
     simp only[yC]
     ((refine dW bY [⟨8,_,_,_,hS⟩] [] (by kernel_rfl) (by simp) fun K hK=>?_);simp(disch:=omega) only[kc,nC,tZ,ar.a,ab,Nat.reduceAdd,ag,au,ao,aZ,cw,bH,a1,aA,cu,CX,aN,aC,B6,List.find?_cons,aD,aX,CallRes.plain,aF,aH,ap,noRefTV,am,aG,aE,bL,g2,aM,az,df,bJ,cb,fZ,g3,cellsOf,Nat.le_refl,isPure,putCells,jO,aS,aT];apply hK)
     show bT _ _ _ _
     ((refine aU [] [] (by simp) fun K hK=>?_);simp(disch:=omega) only[kc,ab,ak,ac,Value.oneCell',ah,bC];apply hK)
     refine⟨⟨j+1,by omega⟩,by simp only;omega,aj ⟨?_,trivial⟩ ?_⟩
     ·show _::_=_::_
      rw[dt fun a b _ _=>ji f i j a b]
     ·simp[b9,bo,bj]
    ·have hjc:j=c:=by omega
     subst hjc
     (refine aa [] fun K hK=>?_;simp(disch:=omega) only[kc,ab,nC,Hm,ak,ah,bf];apply hK)
     refine ae (af rfl (fun h=>by simp at h<;>omega) (fun _=>bv ?_))
     show bT _ _ _ _
     ((refine aU [] [] (by simp) fun K hK=>?_);simp(disch:=omega) only[kc,ab,ak,ac,Value.oneCell',ah,bC];apply hK)
     refine⟨⟨i+1,by omega⟩,by simp only;omega,aj ⟨?_,trivial⟩ ?_⟩
     ·show _::_=_::_
      rw[dt fun a b _ hb=>kv f i a b hb]
     ·simp[b9,bo,bj]
  ·have hin:i=n:=by omega
   subst hin
   rw[xj]
   (refine aa [] fun K hK=>?_;simp(disch:=omega) only[kc,ab,nC,Hm,ak,ah,bf];apply hK)
   refine ae (af rfl (fun h=>by simp at h<;>omega) (fun _=>bv ?_))
   show bT _ _ _ _
   (refine aa [] fun K hK=>?_;simp(disch:=omega) only[kc,ab];apply hK)
   refine ay ⟨.inr rfl,_,dG.refl _,?_⟩
   refine⟨.one (.sl 11 0 0 i),11,?_,rfl,?_,rfl⟩
   ·simp(disch:=omega) only[bE,Tryz.results46,aP,List.getElem?_cons_succ,List.getElem?_cons_zero]
   ·show gV 0 i c f=(gV 11 i c (part f i 0)).map (dm 0)
    rw[gM 11 0]
    show _::_=_::_
    rw[dt fun a b ha _=>ku f a b ha]
theorem wa (M:List (List Int)) (hM: ¬vg M):CallC Tryz.prog 20 [ck M] ⟨[],Ek⟩:=by
 have hS:=yk M
 rw[gh hM]at hS
 unfold Ek
 refine ax Tryz.func20 rfl (by kernel_rfl) ?_;rw[Tryz.ntmps20]
 (refine aa [] fun K hK=>?_;simp(disch:=omega) only[kc,ab,Nat.reduceAdd,ck,List.replicate,cf,aN,aC,cellsOf,isPure,bH,ac,Value.oneCell'];apply hK)
 (refine aa [⟨1,_,_,_,hS⟩] fun K hK=>?_;simp(disch:=omega) only[kc,ck,ar.a,ab,Nat.reduceAdd,au,aJ,aA,wK,tz,ai,aN,aC,List.find?_cons,aD,aX,CallRes.plain,aF,aH,ap,noRefTV,am,aG,aE,aV,ak];apply hK)
 (refine ae (aa [] fun K hK=>?_);simp(disch:=omega) only[kc,ab,bW,ak,dc,Bool.not_false];apply hK)
 refine af rfl (fun _=>?_) (fun h=>by simp at h)
 (refine aa [] fun K hK=>?_;simp(disch:=omega) only[kc,ab,ac,Value.oneCell'];apply hK)
 (refine ay ⟨.inr rfl,aO rfl ?_ rfl⟩;simp(disch:=omega) only[bE,Tryz.results20,cY,aP,List.getElem?_cons_succ,List.getElem?_cons_zero,Option.bind_some,bX,Option.map_some])
theorem xV (n c:Nat) (f:Nat->Nat->Int) (hn1:1<=n) (hn:n<=16) (hc1:1<=c) (hc:c<=16) (hf: ∀i j,i<n->j<c-> -9223372036854775808<=f i j/\f i j<=9223372036854775807):
  CallC Tryz.prog 20 [ck (cd n c f)] ⟨[],xy (cd n c f)⟩:=by
 have hml:=bQ n c f
 have h0:=gI (M:=cd n c f) (by omega)
 have h1:=cS (n:=n) c f (i:=0) (by omega)
 have hhd:(cd n c f).headD []=de c (f 0):=by rw[h1]at h0;injection h0 with h0;exact h0.symm
 have hsh:vg (cd n c f):=⟨by omega,by omega,fun r hr=>by
  obtain⟨i,_,rfl⟩:=List.mem_map.1 hr
  rw[hhd]
  simp[rOk,cq];omega⟩
 have hS:=yk (cd n c f)
 rw[gO hsh,hml,hhd,cq]at hS
 have hB:=Gw n c f hn1 hn hc1 hc hf
 unfold xy
 refine ax Tryz.func20 rfl (by kernel_rfl) ?_;rw[Tryz.ntmps20]
 (refine aa [] fun K hK=>?_;simp(disch:=omega) only[kc,ab,Nat.reduceAdd,ck,List.replicate,cf,aN,aC,cellsOf,isPure,bH,ac,Value.oneCell'];apply hK)
 (refine aa [⟨1,_,_,_,hS⟩] fun K hK=>?_;simp(disch:=omega) only[kc,ck,ar.a,ab,Nat.reduceAdd,au,aJ,aA,wK,tz,ai,aN,aC,List.find?_cons,aD,aX,CallRes.plain,aF,aH,ap,noRefTV,am,aG,aE,aV,ak];apply hK)
 (refine ae (aa [] fun K hK=>?_);simp(disch:=omega) only[kc,ab,bW,ak,dc];apply hK)
 refine af rfl (fun h=>by simp at h) (fun _=>aq ?_)
 show bT _ _ _ _
 refine bT.weak ((DB 1 1 (cs:=[.sl (ls (fR fI) (cd n c f))]) rfl rfl).trans (aj (tm:=[jk,.one (nC (cd n c f)),jk,jk,.raw (.int .i64 (n:Int)),.raw (.int .i64 (c:Int)),jk,jk,jk,jk,jk,jk,jk,jk,jk,jk,jk,jk,jk]) (l:=[]) trivial (by simp[b9,bo,bj,gH,fu,aJ,Hm]))) ?_
 (refine aa [⟨3,_,_,_,hB⟩] fun K hK=>?_;simp(disch:=omega) only[kc,nC,ar.a,ab,Nat.reduceAdd,Hm,v7,au,List.isEmpty_toArray,aD,lT,ai,aN,aC,List.find?_cons,aX,CallRes.plain,List.isEmpty_cons,aF,aH,ap,isPure,Bool.not_false,noRefTV,am,Bool.or_false,aG,aE,dm,ac,Value.oneCell'];apply hK)
 refine bT.weak (aj (tm:=[jk,jk,.one (.sl 18 0 0 n),.raw (.bool true),jk,jk,jk,jk,jk,jk,jk,jk,jk,jk,jk,jk,jk,jk,jk]) (l:=[(18,gV 18 n c f)]) ⟨gM 0 18 n c f,trivial⟩ (by simp[b9,bo,bj])) ?_
 refine bT.weak ((cQ 18 (jJ rfl)).trans (aj (tm:=[jk,jk,ci (cd n c f),.raw (.bool true),jk,jk,jk,jk,jk,jk,jk,jk,jk,jk,jk,jk,jk,jk,jk]) (l:=[]) trivial (by simp[b9,bo,bj];exact⟨(IA (H:=Hm [(18,gV 18 n c f)]) (d:=18) (n:=n) (c:=c) (f:=f) rfl).symm,rfl⟩))) ?_
 (refine ay ⟨.inr rfl,aO rfl ?_ rfl⟩;simp(disch:=omega) only[bE,Tryz.results20,cY,aP,ci,List.getElem?_cons_succ,List.getElem?_cons_zero,Option.bind_some,bX,Option.map_some])
end Go.Proofs.YtpgghglbpcabkaaGreat
