/-
  Part 10 of a proof (walks and plain facts).
-/
import Derived.Test.YtpgghglbpcabkaaGreatP08
set_option linter.all false
set_option maxRecDepth 100000
set_option maxHeartbeats 64000000
namespace Go.Proofs.YtpgghglbpcabkaaGreat
open Go.RowKit
abbrev js (d n c:Nat) (f:Nat->Nat->Int):List OObj:=⟨91,1,gd d (List.replicate n c)⟩::(dp n c f).map jp
theorem zc (n c:Nat) (f:Nat->Nat->Int):(dp n c f).map List.length=List.replicate n c:=by
 apply List.ext_getElem?
 intro i
 rw[List.getElem?_map,List.getElem?_replicate]
 by_cases h:i<n
 ·rw[df _ _ h,if_pos h];simp[cL]
 ·rw[List.getElem?_eq_none (by rw[ci];omega),if_neg h];rfl
theorem vw (d n c:Nat) (f:Nat->Nat->Int):Dt d (dp n c f)=js d n c f:=by rw[Dt,zc]
theorem C6 (n c:Nat):List.replicate n (List.replicate c (0:Int))=dp n c fun _ _=>0:=by
 apply List.ext_getElem?
 intro i
 rw[List.getElem?_replicate]
 by_cases h:i<n
 ·rw[df _ _ h,if_pos h]
  congr 1
  apply List.ext_getElem?
  intro j
  rw[List.getElem?_replicate]
  by_cases h:j<c
  ·rw[ce _ h,if_pos h]
  ·rw[List.getElem?_eq_none (by rw[cL];omega),if_neg h]
 ·rw[List.getElem?_eq_none (by rw[ci];omega),if_neg h]
theorem dj {n i:Nat} (d c:Nat) (h:i<n):(gd d (List.replicate n c))[i]?=some [.sl d (i+1) 0 c]:=by
 simp[gd,h]
theorem et {n i:Nat} (c:Nat) (f:Nat->Nat->Int) (h:i<n):((dp n c f).map jp)[i]?=some ⟨53,2,lc fZ (da c (f i))⟩:=by
 rw[List.getElem?_map,df _ _ h];rfl
def upd (f:Nat->Nat->Int) (i j:Nat) (v:Int):Nat->Nat->Int:=fun a=>if a=i then(fun b=>if b=j then v else f i b)else f a
theorem nH {n i j:Nat} (c:Nat) (f:Nat->Nat->Int) (v:Int):((dp n c f).map jp).set i ⟨53,2,(lc fZ (da c (f i))).set j [.p (.raw (.bool (decide (v<0)))),.p (.sl (ls fU (aK v.natAbs)))]⟩=(dp n c (upd f i j v)).map jp:=by
 have e:(⟨53,2,(lc fZ (da c (f i))).set j [.p (.raw (.bool (decide (v<0)))),.p (.sl (ls fU (aK v.natAbs)))]⟩:OObj)=jp (da c fun b=>if b=j then v else f i b):=by
  rw[<- sM,jp,<- AO];rfl
 rw[e,<- List.map_set,rq];rfl
theorem dC {n c:Nat} {f g:Nat->Nat->Int} (h: ∀i j,i<n->j<c->f i j=g i j):(dp n c f).map jp=(dp n c g).map jp:=by rw[qv h]
theorem lH (d e n c:Nat) (f:Nat->Nat->Int):(js d n c f).map (db e)=js e n c f:=by rw[<- vw,<- vw,xb]
theorem w7 {H:OH} {d n c:Nat} {f:Nat->Nat->Int} (h:H d=js d n c f):vd H d:=fun r o ho e he x hx=>by
 rw[h]at ho
 cases r with
 |succ r=>
  rw[List.getElem?_cons_succ,List.getElem?_map]at ho
  obtain⟨l,hl,rfl⟩:=Option.map_eq_some_iff.1 ho
  exact .inl (gQ _ _ l e he x hx)
 |zero=>
  simp at ho
  subst ho
  simp only at he
  obtain⟨k,hk⟩:=List.mem_iff_getElem?.1 he
  have hkn:k<n:=by
   have:=(List.getElem?_eq_some_iff.1 hk).1
   rwa[cV,List.length_replicate]at this
  rw[dj d c hkn]at hk
  injection hk with hk
  subst hk
  simp at hx
  subst hx
  refine .inr ⟨k+1,0,c,jp (da c (f k)),rfl,?_,gQ _ _ _⟩
  rw[h,List.getElem?_cons_succ,List.getElem?_map,df _ _ hkn];rfl
theorem Fr {H:OH} {d n c:Nat} {f:Nat->Nat->Int} (h:H d=js d n c f):gR H d (.one (.sl d 0 0 n))=em (dp n c f):=by
 have e:((gd d (List.replicate n c)).map (List.map (jE H d)))=ls (fR fZ) (dp n c f):=by
  apply List.ext_getElem?
  intro i
  rw[List.getElem?_map,bI]
  by_cases hi:i<n
  ·rw[dj d c hi,df _ _ hi]
   simp only[Option.map_some,List.map_cons,List.map_nil,jE,h,List.getElem?_cons_succ,et _ _ hi,fR,ew,wR,vZ]
   rw[List.drop_zero,List.take_of_length_le (by rw[cL];omega)]
  ·rw[List.getElem?_eq_none (by rw[cV,List.length_replicate];omega),List.getElem?_eq_none (by rw[ci];omega)];rfl
 simp only[gR,eX,if_true,h,List.getElem?_cons_zero]
 rw[List.drop_zero,List.take_of_length_le (by rw[cV,List.length_replicate];omega),e]
abbrev ey (M:List (List Int)):TV:= .one (.p (.sl (ls (fR fI) M)))
def BL:TV:= .tup [(false,[.p (.raw (.slice none 0 0))]),(false,[.p (.raw (.bool false))])]
def yS (M:List (List Int)):TV:= .tup [(false,[.p (.sl (ls (fR fZ) M))]),(false,[.p (.raw (.bool true))])]
structure uu (n:Nat) where
 i:Nat
 hi:i<=n
def part (f:Nat->Nat->Int) (i j:Nat):Nat->Nat->Int:=fun a b=>if a<i\/(a=i/\b<j)then f a b else 0
theorem mI (f:Nat->Nat->Int) (i j a b:Nat):upd (part f i j) i j (f i j) a b=part f i (j+1) a b:=by
 unfold upd part
 by_cases h1:a=i
 ·subst h1
  by_cases h2:b=j
  ·subst h2;simp
  ·have:b<j+1↔b<j:=by omega
   simp[h2,this]
 ·simp[h1]
theorem pF {c:Nat} (f:Nat->Nat->Int) (i a b:Nat) (hb:b<c):part f i c a b=part f (i+1) 0 a b:=by
 unfold part
 by_cases h1:a<i
 ·rw[if_pos (.inl h1),if_pos (.inl (by omega))]
 ·by_cases h2:a=i
  ·rw[if_pos (.inr ⟨h2,hb⟩),if_pos (.inl (by omega))]
  ·rw[if_neg (by omega),if_neg (by omega)]
theorem lI {n:Nat} (f:Nat->Nat->Int) (a b:Nat) (ha:a<n):part f n 0 a b=f a b:=by
 unfold part;rw[if_pos (.inl ha)]
theorem xG (f:Nat->Nat->Int):part f 0 0=fun _ _=>0:=by
 funext a b;unfold part;rw[if_neg (by omega)]
theorem uC (n c:Nat) (f:Nat->Nat->Int) (hn1:1<=n) (hn:n<=16) (hc1:1<=c) (hc:c<=16) (hf: ∀i j,i<n->j<c-> -9223372036854775808<=f i j/\f i j<=9223372036854775807):
  CallC Tryz.prog 23 [ey (dp n c f)] ⟨[],yS (dp n c f)⟩:=by
 have hml:=ci n c f
 have h0:=df (n:=n) c f (i:=0) (by omega)
 have hZ:=Eu n c hn hc
 rw[C6,vw]at hZ
 refine aC Tryz.func23 rfl (by kernel_rfl) ?_;rw[Tryz.ntmps23]
 (refine aa [] fun K hK=>?_;simp(disch:=omega) only[kc,ab,ey,List.replicate,ac,Value.oneCell'];apply hK)
 (refine ae (aa [] fun K hK=>?_);simp(disch:=omega) only[kc,ab,Nat.reduceAdd,aq,ao,bi,aD,hml,aj,ac,Value.oneCell',ai,bj,aA,bL,aM];apply hK)
 refine af rfl (fun h=>by simp at h<;>omega) (fun _=>ay ?_)
 show bX _ _ _ _
 (refine ae (aa [] fun K hK=>?_);simp(disch:=omega) only[kc,ab,Nat.reduceAdd,aq,ao,bi,aD,hml,ac,Value.oneCell'];apply hK)
 refine bT (G:=uu n) (fun g=>⟨[ey (dp n c f),jk,.raw (.slice none 0 0),.raw (.bool false),jk,jk,jk,jk,jk,jk,jk,jk,jk,jk,jk,jk,jk,ey (dp n c f),.raw (.int .i64 (n:Int)),.raw (.int .i64 (g.i:Int)),jk,jk,jk,jk,jk,jk,jk,jk,jk,jk,jk,jk,jk,jk,jk,jk,jk,jk,jk,jk,jk,jk,jk,jk,jk,jk,jk,jk,jk,jk,jk,jk,jk,jk,jk,jk,jk,jk,jk,jk,jk,jk,jk,jk,jk,jk,jk,jk,jk,jk,jk,jk,jk,jk,jk,jk,jk,jk],Hm []⟩) (fun g=>n-g.i) ⟨0,by omega⟩ ?_ ?_
 ·refine am trivial ?_
  simp[cu,bD,bA]
 ·rintro⟨i,hi⟩
  simp only
  by_cases hm:i<n
  ·have hr:=df c f hm
   (refine aa [] fun K hK=>?_;simp(disch:=omega) only[kc,ab,ey,Hm,aj,ai,bE];apply hK)
   refine ae (af rfl (fun _=>ay ?_) (fun h=>by simp at h<;>omega))
   refine ae (aU ?_)
   (refine aa [] fun K hK=>?_;simp(disch:=omega) only[kc,ab,Nat.reduceAdd,ag,ao,an,bi,bI,hr,fR,di,ax,dm];apply hK)
   (refine aa [] fun K hK=>?_;simp(disch:=omega) only[kc,ab,Nat.reduceAdd,aq,ao,ch,aD,cL,aj,ac,Value.oneCell',ai,bj,aA,bL,aM,ag,an,Int.reduceToNat,bi,bI,h0,fR,di,ax,dm,bE];apply hK)
   refine af rfl (fun h=>by simp at h<;>omega) (fun _=>ay ?_)
   show bX _ _ _ _
   ((refine aX [] [] (by simp) fun K hK=>?_);simp(disch:=omega) only[kc,ab,aj,ac,Value.oneCell',ai,bC];apply hK)
   refine⟨⟨i+1,by omega⟩,by simp only;omega,am trivial ?_⟩
   simp[cu,bD,bA]
  ·(refine aa [] fun K hK=>?_;simp(disch:=omega) only[kc,ab,ey,Hm,aj,ai,bj];apply hK)
   refine ae (af rfl (fun h=>by simp at h<;>omega) (fun _=>bF ?_))
   show bX _ _ _ _
   (refine aa [⟨6,_,_,_,hZ⟩] fun K hK=>?_;simp(disch:=omega) only[kc,ar.a,ab,Nat.reduceAdd,aq,ao,bi,aD,hml,ag,ac,Value.oneCell',an,Int.reduceToNat,bI,h0,fR,di,ax,dm,ch,cL,ak,aT,aI,List.find?_cons,aQ,bo,CallRes.plain,List.isEmpty_cons,aR,aV,az,Bool.not_false,noRefTV,ap,Bool.or_false,aS,aP,db];apply hK)
   (refine ae (aa [] fun K hK=>?_);simp(disch:=omega) only[kc,ab,Nat.reduceAdd,aq,ao,bi,aD,hml,ac,Value.oneCell'];apply hK)
   refine bT (G:=uu n) (fun g=>⟨[ey (dp n c f),jk,.raw (.slice none 0 0),.raw (.bool false),jk,jk,.one (.sl 47 0 0 n),jk,jk,jk,jk,jk,jk,jk,jk,jk,jk,jk,jk,jk,jk,jk,jk,jk,jk,jk,jk,jk,jk,jk,jk,jk,jk,jk,jk,jk,jk,jk,jk,jk,jk,jk,jk,jk,jk,jk,jk,jk,jk,.raw (.int .i64 (n:Int)),.raw (.int .i64 (g.i:Int)),jk,jk,jk,jk,jk,jk,jk,jk,jk,jk,jk,jk,jk,jk,jk,jk,jk,jk,jk,jk,jk,jk,jk,jk,jk,jk,jk],Hm [(47,js 47 n c (part f g.i 0))]⟩) (fun g=>n-g.i) ⟨0,by omega⟩ ?_ ?_
   ·refine am ⟨?_,trivial⟩ ?_
    ·rw[xG];exact lH 0 47 n c _
    ·simp[cu,bD,bA]
   ·rintro⟨i,hi⟩
    simp only
    by_cases hm2:i<n
    ·have hr:=df c f hm2
     (refine aa [] fun K hK=>?_;simp(disch:=omega) only[kc,ab,ey,Hm,aj,ai,bE];apply hK)
     refine ae (af rfl (fun _=>ay ?_) (fun h=>by simp at h<;>omega))
     refine ae (aU ?_)
     (refine aa [] fun K hK=>?_;simp(disch:=omega) only[kc,ab];apply hK)
     (refine aa [] fun K hK=>?_;simp(disch:=omega) only[kc,ab,Nat.reduceAdd,ag,ao,an,bi,bI,hr,fR,di,ax,dm,aq,ch,aD,cL,ac,Value.oneCell'];apply hK)
     refine bT (G:=uu c) (fun g=>⟨[ey (dp n c f),jk,.raw (.slice none 0 0),.raw (.bool false),jk,jk,.one (.sl 47 0 0 n),.raw (.int .i64 (i:Int)),jk,jk,jk,jk,jk,jk,jk,jk,jk,jk,jk,jk,jk,jk,jk,jk,jk,jk,jk,jk,jk,jk,jk,jk,jk,jk,jk,jk,jk,jk,jk,jk,jk,jk,jk,jk,jk,jk,jk,jk,jk,.raw (.int .i64 (n:Int)),.raw (.int .i64 (i:Int)),jk,jk,jk,jk,jk,jk,.raw (.int .i64 (c:Int)),.raw (.int .i64 (g.i:Int)),jk,jk,jk,jk,jk,jk,jk,jk,jk,jk,jk,jk,jk,jk,jk,jk,jk,jk,jk],Hm [(47,js 47 n c (part f i g.i))]⟩) (fun g=>c-g.i) ⟨0,by omega⟩ ?_ ?_
     ·refine am ⟨rfl,trivial⟩ ?_
      simp[cu,bD,bA]
     ·rintro⟨j,hj⟩
      simp only
      by_cases hm3:j<c
      ·have hjr:=ce (f i) hm3
       have hS:=ns (f i j) (hf i j hm2 hm3).1 (hf i j hm2 hm3).2
       have g1:=dj (n:=n) (i:=i) 47 c hm2
       have g2:=et c (part f i j) hm2
       have g3:=ce (part f i j i) hm3
       (refine aa [] fun K hK=>?_;simp(disch:=omega) only[kc,ab,ey,Hm,aj,ai,bE];apply hK)
       refine ae (af rfl (fun _=>ay ?_) (fun h=>by simp at h<;>omega))
       refine ae (aU ?_)
       (refine aa [] fun K hK=>?_;simp(disch:=omega) only[kc,ab];apply hK)
       ((refine fB bU [⟨12,_,_,_,hS⟩] [] (by kernel_rfl) (by simp) fun K hK=>?_);simp(disch:=omega) only[kc,tZ,ar.a,ab,Nat.reduceAdd,ag,ao,an,be,cj,bL,g1,ax,cq,bi,bI,hr,fR,di,dm,ch,hjr,fI,ji,lG,ak,aT,aI,List.find?_cons,aQ,bo,CallRes.plain,aR,aV,az,noRefTV,ap,aS,aP,bQ,g2,aF,aB,dr,bN,b8,fZ,g3,cellsOf,Nat.le_refl,isPure,putCells,nH,aH,aL];apply hK)
       show bX _ _ _ _
       ((refine aX [] [] (by simp) fun K hK=>?_);simp(disch:=omega) only[kc,ab,aj,ac,Value.oneCell',ai,bC];apply hK)
       refine⟨⟨j+1,by omega⟩,by simp only;omega,am ⟨?_,trivial⟩ ?_⟩
       ·show _::_=_::_
        rw[dC fun a b _ _=>mI f i j a b]
       ·simp[cu,bD,bA]
      ·have hjc:j=c:=by omega
       subst hjc
       (refine aa [] fun K hK=>?_;simp(disch:=omega) only[kc,ab,ey,Hm,aj,ai,bj];apply hK)
       refine ae (af rfl (fun h=>by simp at h<;>omega) (fun _=>bF ?_))
       show bX _ _ _ _
       ((refine aX [] [] (by simp) fun K hK=>?_);simp(disch:=omega) only[kc,ab,aj,ac,Value.oneCell',ai,bC];apply hK)
       refine⟨⟨i+1,by omega⟩,by simp only;omega,am ⟨?_,trivial⟩ ?_⟩
       ·show _::_=_::_
        rw[dC fun a b _ hb=>pF f i a b hb]
       ·simp[cu,bD,bA]
    ·have hin:i=n:=by omega
     subst hin
     (refine aa [] fun K hK=>?_;simp(disch:=omega) only[kc,ab,ey,Hm,aj,ai,bj];apply hK)
     refine ae (af rfl (fun h=>by simp at h<;>omega) (fun _=>bF ?_))
     show bX _ _ _ _
     have e:js 47 i c (part f i 0)=js 47 i c f:=by
      show _::_=_::_
      rw[dC fun a b ha _=>lI f a b ha]
     rw[e]
     refine bX.weak ((d4 47 (w7 rfl)).trans (am (tm:=[jk,jk,jk,jk,jk,jk,em (dp i c f),jk,jk,jk,jk,jk,jk,jk,jk,jk,jk,jk,jk,jk,jk,jk,jk,jk,jk,jk,jk,jk,jk,jk,jk,jk,jk,jk,jk,jk,jk,jk,jk,jk,jk,jk,jk,jk,jk,jk,jk,jk,jk,jk,jk,jk,jk,jk,jk,jk,jk,jk,jk,jk,jk,jk,jk,jk,jk,jk,jk,jk,jk,jk,jk,jk,jk,jk,jk,jk,jk,jk]) (l:=[]) trivial (by simp[cu,bD,bA];exact(Fr (H:=Hm [(47,js 47 i c f)]) (d:=47) (n:=i) (c:=c) (f:=f) rfl).symm))) ?_
     (refine aa [] fun K hK=>?_;simp(disch:=omega) only[kc,ab,Nat.reduceAdd,em,Hm,ac,Value.oneCell'];apply hK)
     (refine aE ⟨.inr rfl,aJ rfl ?_ rfl⟩;simp(disch:=omega) only[bK,Tryz.results23,dc,aN,List.getElem?_cons_succ,List.getElem?_cons_zero,Option.bind_some,b7,Option.map_some,yS])
structure Fv (M:List (List Int)) where
 i:Nat
 hi:i<=M.length
 ok: ∀r∈M.take i,rOk (M.headD []).length r
theorem sk (M:List (List Int)) (hM: ¬sf M):CallC Tryz.prog 23 [ey M] ⟨[],BL⟩:=by
 by_cases h1:M.length<1
 ·refine aC Tryz.func23 rfl (by kernel_rfl) ?_;rw[Tryz.ntmps23]
  (refine aa [] fun K hK=>?_;simp(disch:=omega) only[kc,ab,ey,List.replicate,ac,Value.oneCell'];apply hK)
  (refine ae (aa [] fun K hK=>?_);simp(disch:=omega) only[kc,ab,Nat.reduceAdd,aq,ao,bi,aD,aj,ac,Value.oneCell',ai,bE,aA,reduceCtorEq,Option.map_none,aM];apply hK)
  refine af rfl (fun _=>?_) (fun h=>by simp at h<;>omega)
  (refine aa [] fun K hK=>?_;simp(disch:=omega) only[kc,ab,ac,Value.oneCell'];apply hK)
  (refine aE ⟨.inr rfl,aJ rfl ?_ rfl⟩;simp(disch:=omega) only[bK,Tryz.results23,dc,aN,List.getElem?_cons_succ,List.getElem?_cons_zero,Option.bind_some,b7,Option.map_some,BL])
 by_cases h2:16<M.length
 ·refine aC Tryz.func23 rfl (by kernel_rfl) ?_;rw[Tryz.ntmps23]
  (refine aa [] fun K hK=>?_;simp(disch:=omega) only[kc,ab,ey,List.replicate,ac,Value.oneCell'];apply hK)
  (refine ae (aa [] fun K hK=>?_);simp(disch:=omega) only[kc,ab,Nat.reduceAdd,aq,ao,bi,aD,aj,ac,Value.oneCell',ai,bj,aA,bL,bE,aM];apply hK)
  refine af rfl (fun _=>?_) (fun h=>by simp at h<;>omega)
  (refine aa [] fun K hK=>?_;simp(disch:=omega) only[kc,ab,ac,Value.oneCell'];apply hK)
  (refine aE ⟨.inr rfl,aJ rfl ?_ rfl⟩;simp(disch:=omega) only[bK,Tryz.results23,dc,aN,List.getElem?_cons_succ,List.getElem?_cons_zero,Option.bind_some,b7,Option.map_some,BL])
 have h0:=fV (M:=M) (by omega)
 refine aC Tryz.func23 rfl (by kernel_rfl) ?_;rw[Tryz.ntmps23]
 (refine aa [] fun K hK=>?_;simp(disch:=omega) only[kc,ab,ey,List.replicate,ac,Value.oneCell'];apply hK)
 (refine ae (aa [] fun K hK=>?_);simp(disch:=omega) only[kc,ab,Nat.reduceAdd,aq,ao,bi,aD,aj,ac,Value.oneCell',ai,bj,aA,bL,aM];apply hK)
 refine af rfl (fun h=>by simp at h<;>omega) (fun _=>ay ?_)
 show bX _ _ _ _
 (refine ae (aa [] fun K hK=>?_);simp(disch:=omega) only[kc,ab,Nat.reduceAdd,aq,ao,bi,aD,ac,Value.oneCell'];apply hK)
 refine bT (G:=Fv M) (fun g=>⟨[ey M,jk,.raw (.slice none 0 0),.raw (.bool false),jk,jk,jk,jk,jk,jk,jk,jk,jk,jk,jk,jk,jk,ey M,.raw (.int .i64 (M.length:Int)),.raw (.int .i64 (g.i:Int)),jk,jk,jk,jk,jk,jk,jk,jk,jk,jk,jk,jk,jk,jk,jk,jk,jk,jk,jk,jk,jk,jk,jk,jk,jk,jk,jk,jk,jk,jk,jk,jk,jk,jk,jk,jk,jk,jk,jk,jk,jk,jk,jk,jk,jk,jk,jk,jk,jk,jk,jk,jk,jk,jk,jk,jk,jk,jk],Hm []⟩) (fun g=>M.length-g.i) ⟨0,by omega,fun r hr=>by simp at hr⟩ ?_ ?_
 ·refine am trivial ?_
  simp[cu,bD,bA]
 ·rintro⟨i,hi,ok⟩
  simp only
  by_cases hm:i<M.length
  ·obtain⟨r,hr⟩:=getElem?_of_lt hm
   (refine aa [] fun K hK=>?_;simp(disch:=omega) only[kc,ab,ey,Hm,aj,ai,bE];apply hK)
   refine ae (af rfl (fun _=>ay ?_) (fun h=>by simp at h<;>omega))
   refine ae (aU ?_)
   (refine aa [] fun K hK=>?_;simp(disch:=omega) only[kc,ab,Nat.reduceAdd,ag,ao,an,bi,bI,hr,fR,di,ax,dm];apply hK)
   by_cases c1:r.length<1
   ·(refine aa [] fun K hK=>?_;simp(disch:=omega) only[kc,ab,Nat.reduceAdd,aq,ao,ch,aD,aj,ac,Value.oneCell',ai,bE,aA,reduceCtorEq,Option.map_none,aM,ag,an,Int.reduceToNat,bi];apply hK)
    refine af rfl (fun _=>?_) (fun h=>by simp at h<;>omega)
    (refine aa [] fun K hK=>?_;simp(disch:=omega) only[kc,ab,ac,Value.oneCell'];apply hK)
    (refine aE ⟨.inr rfl,aJ rfl ?_ rfl⟩;simp(disch:=omega) only[bK,Tryz.results23,dc,aN,List.getElem?_cons_succ,List.getElem?_cons_zero,Option.bind_some,b7,Option.map_some,BL])
   by_cases c2:16<r.length
   ·(refine aa [] fun K hK=>?_;simp(disch:=omega) only[kc,ab,Nat.reduceAdd,aq,ao,ch,aD,aj,ac,Value.oneCell',ai,bj,aA,bL,bE,aM,reduceCtorEq,Option.map_none,ag,an,Int.reduceToNat,bi];apply hK)
    refine af rfl (fun _=>?_) (fun h=>by simp at h<;>omega)
    (refine aa [] fun K hK=>?_;simp(disch:=omega) only[kc,ab,ac,Value.oneCell'];apply hK)
    (refine aE ⟨.inr rfl,aJ rfl ?_ rfl⟩;simp(disch:=omega) only[bK,Tryz.results23,dc,aN,List.getElem?_cons_succ,List.getElem?_cons_zero,Option.bind_some,b7,Option.map_some,BL])
   by_cases c3:r.length=(M.headD []).length
   ·(refine aa [] fun K hK=>?_;simp(disch:=omega) only[kc,ab,Nat.reduceAdd,aq,ao,ch,aD,aj,ac,Value.oneCell',ai,bj,aA,bL,aM,ag,an,Int.reduceToNat,bi,bI,h0,fR,di,ax,dm,bE];apply hK)
    refine af rfl (fun h=>by simp at h<;>omega) (fun _=>ay ?_)
    show bX _ _ _ _
    ((refine aX [] [] (by simp) fun K hK=>?_);simp(disch:=omega) only[kc,ab,aj,ac,Value.oneCell',ai,bC];apply hK)
    refine⟨⟨i+1,by omega,fun r' hr'=>?_⟩,by simp only;omega,am trivial ?_⟩
    ·rw[List.take_add_one,hr]at hr'
     rcases List.mem_append.1 hr' with h|h
     ·exact ok r' h
     ·have:r'=r:=by simpa using h
      subst this
      exact⟨by omega,by omega,c3⟩
    ·simp[cu,bD,bA]
   ·(refine aa [] fun K hK=>?_;simp(disch:=omega) only[kc,ab,Nat.reduceAdd,aq,ao,ch,aD,aj,ac,Value.oneCell',ai,bj,aA,bL,aM,ag,an,Int.reduceToNat,bi,bI,h0,fR,di,ax,dm,Bool.not_false];apply hK)
    refine af rfl (fun _=>?_) (fun h=>by simp at h<;>omega)
    (refine aa [] fun K hK=>?_;simp(disch:=omega) only[kc,ab,ac,Value.oneCell'];apply hK)
    (refine aE ⟨.inr rfl,aJ rfl ?_ rfl⟩;simp(disch:=omega) only[bK,Tryz.results23,dc,aN,List.getElem?_cons_succ,List.getElem?_cons_zero,Option.bind_some,b7,Option.map_some,BL])
  ·exact absurd ⟨by omega,by omega,fun r hr=>ok r (by rw[List.take_of_length_le (by omega)];exact hr)⟩ hM
theorem Ao (l:List Int) (v:Int):lc fZ l++[[.p (.raw (.bool (decide (v<0)))),.p (.sl (ls fU (aK v.natAbs)))]]=lc fZ (l++[v]):=by simp[lc,fZ]
abbrev nd:List AV:=[.raw (.slice none 0 0)]
theorem rM {α:Type} {A:List α} {x:α} {l:List α} {i:Nat} (h:A.length=i):(A++x::l)[i]?=some x:=by
 rw[List.getElem?_append_right (by omega),h,Nat.sub_self];rfl
theorem rW {α:Type} {A:List α} {x y:α} {l:List α} {i:Nat} (h:A.length=i):(A++x::l).set i y=A++y::l:=by
 rw[List.set_append_right _ _ (by omega),h,Nat.sub_self];rfl
theorem BF (k:Nat->Nat->Bool) (R:List (List Int)):(R.map jp).map (d7 k)=R.map jp:=by
 rw[List.map_map]
 exact List.map_congr_left fun r _=>by simp[d7,jp,fK]
theorem zr (d i c:Nat):(gd d (List.replicate i c)).map (List.map (aL fun x y=>x==d&&y==i+1))=gd d (List.replicate i c):=by
 apply List.ext_getElem?
 intro k
 rw[List.getElem?_map]
 by_cases h:k<i
 ·rw[dj d c h]
  have:k≠i:=by omega
  simp[aL,this]
 ·rw[List.getElem?_eq_none (by rw[cV,List.length_replicate];omega)];rfl
def CC (d n c:Nat) (f:Nat->Nat->Int) (i:Nat):List OObj:=⟨91,1,gd d (List.replicate i c)++List.replicate (n-i) nd⟩::(dp i c f).map jp
def Ex (d n c:Nat) (f:Nat->Nat->Int) (i j:Nat):List OObj:=⟨91,1,gd d (List.replicate i c)++[.sl d (i+1) 0 (j+1)]::List.replicate (n-i-1) nd⟩::((dp i c f).map jp++[jp (da (j+1) (f i))])
def E8 (d n c:Nat) (f:Nat->Nat->Int) (i:Nat):Nat->List OObj
 |0=>CC d n c f i
 |j+1=>Ex d n c f i j
theorem sW (i c:Nat) (f:Nat->Nat->Int):dp (i+1) c f=dp i c f++[da c (f i)]:=by simp[dp,List.range_succ]
theorem xQ (j:Nat) (g:Nat->Int):da (j+1) g=da j g++[g j]:=by simp[da,List.range_succ]
theorem Er {d n c i:Nat} (f:Nat->Nat->Int) (hc:1<=c) (hi:i<n):E8 d n c f i c=CC d n c f (i+1):=by
 obtain⟨j,rfl⟩: ∃j,c=j+1:=⟨c-1,by omega⟩
 show Ex d n (j+1) f i j=_
 unfold Ex CC
 rw[sW,List.replicate_succ' (n:=i),lF,List.length_replicate]
 simp[Nat.sub_sub]
theorem Ej (d n c:Nat) (f:Nat->Nat->Int):CC d n c f n=js d n c f:=by
 unfold CC;simp
theorem Cy {d n c i:Nat} (f:Nat->Nat->Int) (hi:i<n):CC d n c f i=⟨91,1,gd d (List.replicate i c)++nd::List.replicate (n-i-1) nd⟩::(dp i c f).map jp:=by
 unfold CC
 rw[show n-i=n-i-1+1 by omega,List.replicate_succ];rfl
theorem D7 (n c:Nat) (f:Nat->Nat->Int) (hn:n<=17) (hc1:1<=c) (hc:c<=17) (hf: ∀i j,i<n->j<c->Bg (f i j)):
  CallC Tryz.prog 60 [em (dp n c f)] ⟨js 0 n c f,.one (.sl 0 0 0 n)⟩:=by
 have hml:=ci n c f
 refine aC Tryz.func60 rfl (by kernel_rfl) ?_;rw[Tryz.ntmps60]
 (refine aa [] fun K hK=>?_;simp(disch:=omega) only[kc,ab,em,List.replicate,ac,Value.oneCell'];apply hK)
 (refine aa [] fun K hK=>?_;simp(disch:=omega) only[kc,ab,Nat.reduceAdd,aq,ao,be,aD,hml,ca,aT,aI,j5,cj,nJ,Int.natCast_nonneg,Value.oneCell',and_true,bL];apply hK)
 (refine ae (aa [] fun K hK=>?_);simp(disch:=omega) only[kc,ab,Nat.reduceAdd,aq,ao,be,aD,hml,ac,Value.oneCell'];apply hK)
 refine bT (G:=uu n) (fun g=>⟨[em (dp n c f),jk,.raw (.slice none 0 0),.one (.sl 9 0 0 n),jk,jk,jk,jk,jk,jk,jk,.raw (.int .i64 (n:Int)),.raw (.int .i64 (g.i:Int)),jk,jk,jk,jk,jk,jk,jk,jk,jk,jk,jk,jk,jk,jk,jk,jk,jk,jk,jk,jk,jk,jk,jk,jk,jk],Hm [(9,CC 9 n c f g.i)]⟩) (fun g=>n-g.i) ⟨0,by omega⟩ ?_ ?_
 ·refine am ⟨?_,trivial⟩ ?_
  ·show[_]=_
   simp[CC,gd,dp]
  ·simp[cu,bD,bA]
 ·rintro⟨i,hi⟩
  simp only
  by_cases hm:i<n
  ·have hrow:=df c f hm
   have hmi:=ci i c f
   have hsl:(gd 9 (List.replicate i c)).length=i:=by rw[cV,List.length_replicate]
   have hrl:((dp i c f).map jp).length=i:=by rw[List.length_map,hmi]
   (refine aa [] fun K hK=>?_;simp(disch:=omega) only[kc,ab,em,Hm,aj,ai,bE];apply hK)
   refine ae (af rfl (fun _=>ay ?_) (fun h=>by simp at h<;>omega))
   refine ae (aU ?_)
   (refine aa [] fun K hK=>?_;simp(disch:=omega) only[kc,ab];apply hK)
   (refine aa [] fun K hK=>?_;simp(disch:=omega) only[kc,ab,Nat.reduceAdd,ag,ao,an,be,bI,hrow,fR,cj,ax,cq,aq,bQ,aD,cL,ac,Value.oneCell'];apply hK)
   refine bT (G:=uu c) (fun g=>⟨[em (dp n c f),jk,.raw (.slice none 0 0),.one (.sl 9 0 0 n),.raw (.int .i64 (i:Int)),jk,jk,jk,jk,jk,jk,.raw (.int .i64 (n:Int)),.raw (.int .i64 (i:Int)),jk,jk,jk,jk,jk,.one (.p (.sl (ls fZ (da c (f i))))),.raw (.int .i64 (c:Int)),.raw (.int .i64 (g.i:Int)),jk,jk,jk,jk,jk,jk,jk,jk,jk,jk,jk,jk,jk,jk,jk,jk,jk],Hm [(9,E8 9 n c f i g.i)]⟩) (fun g=>c-g.i) ⟨0,by omega⟩ ?_ ?_
   ·refine am ⟨rfl,trivial⟩ ?_
    simp[cu,bD,bA]
   ·rintro⟨j,hj⟩
    simp only
    by_cases hm2:j<c
    ·have hent:=ce (f i) hm2
     have hN:=D8 (f i j) (hf i j hm hm2)
     cases j with
     |zero=>
      rw[E8,Cy f hm]
      (refine aa [] fun K hK=>?_;simp(disch:=omega) only[kc,ab,em,Hm,aj,ai,bE];apply hK)
      refine ae (af rfl (fun _=>ay ?_) (fun h=>by simp at h<;>omega))
      refine ae (aU ?_)
      (refine aa [] fun K hK=>?_;simp(disch:=omega) only[kc,ab,Nat.reduceAdd,ag,ao,an,bQ,bI,hent,fZ,aF,ax,aW,Nat.le_refl,bs,aT,aI,aZ,Value.oneCell',bL,Nat.reduceEqDiff,aB,dr,bN,au,cellsOf,isPure,putCells,aH,aL];apply hK)
      ((refine fB bU [⟨7,_,_,_,hN⟩] [] (by kernel_rfl) (by simp) fun K hK=>?_);simp(disch:=omega) only[kc,tZ,ar.a,ab,Nat.reduceAdd,ag,ao,an,be,au,Nat.reduceEqDiff,cH,cj,bL,rM hsl,ax,cq,aF,aW,Nat.le_refl,ak,aT,aI,List.find?_cons,aQ,bo,CallRes.plain,aR,aV,az,isPure,noRefTV,ap,aS,aP,co,bQ,aZ,fW,cellsOf,Nat.reduceMul,Nat.reduceLeDiff,List.contains_nil,kW,dE,l8,bN,newsOf,kX,fH,gN,and_true,aB,dr,putCells,rW hsl,List.length_map,hmi,aH,aL,Nat.reduceBEq];apply hK)
      show bX _ _ _ _
      ((refine aX [] [] (by simp) fun K hK=>?_);simp(disch:=omega) only[kc,ab,aj,ac,Value.oneCell',ai,bC];apply hK)
      refine⟨⟨1,by omega⟩,by simp only;omega,am ⟨?_,trivial⟩ ?_⟩
      ·rfl
      ·simp[cu,bD,bA]
     |succ j=>
      have h01:(0==i+1)=false:=by simp
      rw[E8,Ex]
      (refine aa [] fun K hK=>?_;simp(disch:=omega) only[kc,ab,em,Hm,aj,ai,bE];apply hK)
      refine ae (af rfl (fun _=>ay ?_) (fun h=>by simp at h<;>omega))
      refine ae (aU ?_)
      (refine aa [] fun K hK=>?_;simp(disch:=omega) only[kc,ab,Nat.reduceAdd,ag,ao,an,bQ,bI,hent,fZ,aF,ax,aW,Nat.le_refl,bs,aT,aI,aZ,Value.oneCell',bL,Nat.reduceEqDiff,aB,dr,bN,au,cellsOf,isPure,putCells,aH,aL];apply hK)
      ((refine fB bU [⟨7,_,_,_,hN⟩] [] (by kernel_rfl) (by simp) fun K hK=>?_);simp(disch:=omega) only[kc,tZ,ar.a,ab,Nat.reduceAdd,jp,ag,ao,an,be,au,Nat.reduceEqDiff,cH,cj,bL,rM hsl,ax,cq,aF,aW,Nat.le_refl,ak,aT,aI,List.find?_cons,aQ,bo,CallRes.plain,aR,aV,az,isPure,noRefTV,ap,aS,aP,co,bQ,aZ,fW,cellsOf,Nat.reduceMul,Nat.reduceLeDiff,List.contains_nil,kW,dE,l8,bN,newsOf,rM hrl,kX,gk,fu,cL,fH,gN,and_true,d7,List.map_append,zr,aL,List.map_replicate,BF,fK,Ao,rW hrl,dr,aH,h01,Nat.reduceBEq,aB,putCells,rW hsl,reduceCtorEq,false_and,List.length_append,hrl];apply hK)
      show bX _ _ _ _
      ((refine aX [] [] (by simp) fun K hK=>?_);simp(disch:=omega) only[kc,ab,aj,ac,Value.oneCell',ai,bC];apply hK)
      refine⟨⟨j+1+1,by omega⟩,by simp only;omega,am ⟨?_,trivial⟩ ?_⟩
      ·show _=Ex 9 n c f i (j+1)
       rw[Ex,jp,xQ (j+1)];rfl
      ·simp[cu,bD,bA]
    ·have hjc:j=c:=by omega
     subst hjc
     (refine aa [] fun K hK=>?_;simp(disch:=omega) only[kc,ab,em,Hm,aj,ai,bj];apply hK)
     refine ae (af rfl (fun h=>by simp at h<;>omega) (fun _=>bF ?_))
     show bX _ _ _ _
     rw[Er f hc1 hm]
     ((refine aX [] [] (by simp) fun K hK=>?_);simp(disch:=omega) only[kc,ab,aj,ac,Value.oneCell',ai,bC];apply hK)
     refine⟨⟨i+1,by omega⟩,by simp only;omega,am ⟨rfl,trivial⟩ ?_⟩
     simp[cu,bD,bA]
  ·have hin:i=n:=by omega
   subst hin
   (refine aa [] fun K hK=>?_;simp(disch:=omega) only[kc,ab,em,Hm,aj,ai,bj];apply hK)
   refine ae (af rfl (fun h=>by simp at h<;>omega) (fun _=>bF ?_))
   show bX _ _ _ _
   rw[Ej]
   (refine aa [] fun K hK=>?_;simp(disch:=omega) only[kc,ab];apply hK)
   refine aE ⟨.inr rfl,_,du.refl _,?_⟩
   refine⟨.one (.sl 9 0 0 i),9,?_,rfl,?_,rfl⟩
   ·simp(disch:=omega) only[bK,Tryz.results60,aN,List.getElem?_cons_succ,List.getElem?_cons_zero]
   ·exact(lH 9 0 _ _ _).symm
theorem jg {P:Program} {c z:Code} {Q:Exit->AS->Prop} {s S:AS} (h1:bX P c (jm (fun s'=>du s' S) Q) s) (h2:bX P z Q S):bX P c (jm (bX P z Q) Q) s:=h1.mono fun e s' h=>by
 cases e with
 |normal=>exact bX.weak h h2
 |_=>exact h
theorem Sz.mul {a b:Int} {k l:Nat} (ha:Sz a k) (hb:Sz b l):Sz (a*b) (k+l):=by
 unfold Sz at*;rw[Int.natAbs_mul,Nat.pow_add];exact Nat.mul_lt_mul'' ha hb
theorem Sz.sub {a b:Int} {k:Nat} (ha:Sz a k) (hb:Sz b k):Sz (a-b) (k+1):=by
 unfold Sz at*
 have:=Int.natAbs_sub_le a b
 rw[Nat.pow_succ]
 generalize 4294967296^k=p at*
 omega
theorem Sz.add {a b:Int} {k:Nat} (ha:Sz a k) (hb:Sz b k):Sz (a+b) (k+1):=by
 unfold Sz at*
 have:=Int.natAbs_add_le a b
 rw[Nat.pow_succ]
 generalize 4294967296^k=p at*
 omega
theorem Sz.ediv {a:Int} {k:Nat} (ha:Sz a k) (b:Int):Sz (a/b) k:=ha.le (Int.natAbs_ediv_le_natAbs a b)
theorem uM {f:Nat->Nat->Int} {n k:Nat}: ∀m p,n-p=m->piv f n k p<n->p<=piv f n k p/\f (piv f n k p) k≠0
 |0,p,hm,h=>by rw[j9 (by omega)]at h;omega
 |m+1,p,hm,h=>by
  by_cases h0:f p k=0
  ·rw[mo (by omega) h0]at h⊢
   have:=uM m (p+1) (by omega) h
   exact⟨by omega,this.2⟩
  ·rw[mB (by omega) h0]at h⊢
   exact⟨by omega,h0⟩
theorem rb {f:Nat->Nat->Int} {n k:Nat}: ∀m p,n-p=m->piv f n k p<=n
 |0,p,hm=>by rw[j9 (by omega)];omega
 |m+1,p,hm=>by
  by_cases h0:f p k=0
  ·rw[mo (by omega) h0];exact rb m (p+1) (by omega)
  ·rw[mB (by omega) h0];omega
def dI (k:Nat) (last:Int) (g:Nat->Nat->Int) (i j:Nat):Nat->Nat->Int:=fun a b=>if k<a/\k<b/\(a<i\/(a=i/\b<j))then(g k k*g a b-g a k*g k b)/last else g a b
theorem xz {k i j:Nat} (last:Int) (g:Nat->Nat->Int) (hi:k<i) (hj:k<j) (a b:Nat):upd (dI k last g i j) i j ((g k k*g i j-g i k*g k j)/last) a b=dI k last g i (j+1) a b:=by
 unfold upd dI
 by_cases h1:a=i
 ·subst h1
  by_cases h2:b=j
  ·subst h2;simp[hi,hj]
  ·have:b<j+1↔b<j:=by omega
   simp[h2,this]
 ·simp[h1]
theorem AF {k n:Nat} (last:Int) (g:Nat->Nat->Int) (i a b:Nat) (hb:b<n):dI k last g i n a b=dI k last g (i+1) (k+1) a b:=by
 unfold dI
 have:(k<a/\k<b/\(a<i\/a=i/\b<n))↔(k<a/\k<b/\(a<i+1\/a=i+1/\b<k+1)):=by omega
 simp only[this]
theorem vV (k:Nat) (last:Int) (g:Nat->Nat->Int):dI k last g (k+1) (k+1)=g:=by
 funext a b
 unfold dI
 rw[if_neg (by omega)]
theorem AQ {k n:Nat} (last:Int) (g:Nat->Nat->Int) (a b:Nat) (ha:a<n):dI k last g n (k+1) a b=zQ k last g a b:=by
 unfold dI zQ
 have:(k<a/\k<b/\(a<n\/a=n/\b<k+1))↔(k<a/\k<b):=by omega
 simp only[this]
theorem fJ {k i j a b:Nat} (last:Int) (g:Nat->Nat->Int) (h: ¬(k<a/\k<b/\(a<i\/(a=i/\b<j)))):dI k last g i j a b=g a b:=by
 unfold dI;rw[if_neg h]
theorem xf {d n p k:Nat} (g:Nat->Nat->Int) (hp:p<n) (hk:k<n) (hne:k≠p) (r:Nat):(js d n n (swp p k g))[r]?=
  (((⟨91,1,((gd d (List.replicate n n)).set p [.sl d (k+1) 0 n]).set k [.sl d (p+1) 0 n]⟩::(dp n n g).map jp:List OObj))[sw (p+1) (k+1) r]?).map (xy d (p+1) (k+1)):=by
 cases r with
 |zero=>
  rw[show sw (p+1) (k+1) 0=0 by simp[sw]]
  simp only[List.getElem?_cons_zero,Option.map_some,xy]
  congr 2
  apply List.ext_getElem?
  intro i
  rw[List.getElem?_map,List.getElem?_set,List.getElem?_set,List.length_set,cV,List.length_replicate]
  by_cases hi:i<n
  ·rw[dj d n hi]
   by_cases h1:k=i
   ·subst h1
    simp[hi,kT,nE,sw]
   ·by_cases h2:p=i
    ·subst h2
     simp[h1,hi,kT,nE,sw]
    ·have h1': ¬i=k:=fun e=>h1 e.symm
     have h2': ¬i=p:=fun e=>h2 e.symm
     simp[h1,h2,h1',h2',kT,nE,sw]
  ·have h1: ¬k=i:=by omega
   have h2: ¬p=i:=by omega
   rw[if_neg h1,if_neg h2,List.getElem?_eq_none (by rw[cV,List.length_replicate];omega)];rfl
 |succ r=>
  have hsw:sw (p+1) (k+1) (r+1)=sw p k r+1:=by
   unfold sw
   by_cases h1:r=p
   ·simp[h1]
   ·by_cases h2:r=k
    ·simp[h1,h2,hne]
    ·simp[h1,h2]
  have hO: ∀l:List Int,xy d (p+1) (k+1) (jp l)=jp l:=fun l=>by
   simp only[xy,jp,lc,List.map_map]
   congr 1
  rw[hsw,List.getElem?_cons_succ,List.getElem?_cons_succ,List.getElem?_map,List.getElem?_map]
  by_cases hr:r<n
  ·have hs:sw p k r<n:=by unfold sw;split<;>(try split)<;>omega
   rw[df _ _ hr,df _ _ hs]
   simp only[Option.map_some,hO]
   congr 3
   unfold swp sw
   by_cases h1:r=p
   ·simp[h1]
   ·by_cases h2:r=k
    ·simp[h1,h2,hne]
    ·simp[h1,h2]
  ·have hs: ¬sw p k r<n:=by unfold sw;rw[if_neg (by omega),if_neg (by omega)];exact hr
   rw[List.getElem?_eq_none (by rw[ci];omega),List.getElem?_eq_none (by rw[ci];omega)];rfl
structure Ft (n:Nat) (f:Nat->Nat->Int) where
 k:Nat
 g:Nat->Nat->Int
 last:Int
 neg:Bool
 b:Nat
 hk:k<=n
 hv:detG n k g last neg=detF n f
 hl:last≠0
 hb:b+1<=1025*2^k
 sg: ∀i j,i<n->j<n->Sz (g i j) b
 sl:Sz last b
structure Fp (n k:Nat) (g:Nat->Nat->Int) where
 p:Nat
 hkp:k<=p
 hp:p<=n
 hv:piv g n k p=piv g n k k
structure Fb (n k:Nat) where
 i:Nat
 hk:k+1<=i
 hi:i<=n
abbrev ww (v:Int):List OObj:=sh (decide (v<0)) (aK v.natAbs)
theorem xc:sg 0=0:=rfl
theorem DA {z:Int} (h:z≠0):sg z≠0:=by unfold sg;split<;>simp[h]
theorem iE {k:Nat} (h:k<=16):2^k<=65536:=Nat.pow_le_pow_right (n:=2) (by omega) h
theorem pT (n:Nat) (f:Nat->Nat->Int) (hn1:1<=n) (hn:n<=16) (hf: ∀i j,i<n->j<n->Sz (f i j) 1024):
  CallC Tryz.prog 93 [em (dp n n f)] ⟨[],tZ (detF n f)⟩:=by
 have hC:=D7 n n f (by omega) hn1 (by omega) (fun i j hi hj=>(hf i j hi hj).mono (by omega))
 have hS:=ns 1 (by omega) (by omega)
 refine aC Tryz.func93 rfl (by kernel_rfl) ?_;rw[Tryz.ntmps93]
 (refine aa [] fun K hK=>?_;simp(disch:=omega) only[kc,ab,em,List.replicate,bs,aT,aI,aZ,Value.oneCell',Nat.reduceAdd,bL];apply hK)
 (refine aa [⟨1,_,_,_,hC⟩] fun K hK=>?_;simp(disch:=omega) only[kc,em,ar.a,ab,Nat.reduceAdd,ak,aT,aI,List.find?_cons,aQ,bo,CallRes.plain,List.isEmpty_cons,aR,aV,az,Bool.not_false,noRefTV,ap,Bool.or_false,aS,aP,db,au,Nat.reduceEqDiff];apply hK)
 (refine aa [] fun K hK=>?_;simp(disch:=omega) only[kc,ab,Nat.reduceAdd,aq,ao,be];apply hK)
 (refine aa [⟨0,_,_,_,hS⟩] fun K hK=>?_;simp(disch:=omega) only[kc,tZ,bj,ar.a,ab,Nat.reduceAdd,ak,aT,aI,List.find?_cons,aQ,ac,Value.oneCell',bo,CallRes.plain,aR,aV,az,noRefTV,ap,aS,aP,bs,aZ,bL,au,Nat.reduceEqDiff,cH,aB,dr,bN,aF,cellsOf,Nat.le_refl,isPure,putCells,aH,aL];apply hK)
 (refine ae (aa [] fun K hK=>?_);simp(disch:=omega) only[kc,ab,ac,Value.oneCell'];apply hK)
 refine bT (G:=Ft n f) (fun g=>⟨[jk,jk,.one (.ptr 2 0 0 0),.one (.sl 12 0 0 n),.raw (.int .i64 (n:Int)),.one (.ptr 5 0 0 0),.raw (.bool g.neg),.raw (.int .i64 (g.k:Int)),jk,jk,jk,jk,jk,jk,jk,jk,jk,jk,jk,jk,jk,jk,jk,jk,jk,jk,jk,jk,jk,jk,jk,jk,jk,jk,jk,jk,jk,jk,jk,jk,jk,jk,jk,jk,jk,jk,jk,jk,jk,jk,jk,jk,jk,jk,jk,jk,jk,jk,jk,jk,jk,jk,jk,jk,jk,jk,jk,jk,jk,jk,jk,jk,jk,jk,jk,jk,jk,jk,jk,jk,jk,jk,jk,jk,jk,jk,jk,jk,jk,jk,jk,jk,jk,jk,jk,jk,jk,jk,jk,jk,jk,jk,jk,jk,jk,jk,jk,jk,jk,jk,jk,jk,jk,jk,jk,jk,jk,jk,jk,jk,jk,jk,jk,jk,jk],Hm [(2,pG),(5,ww g.last),(12,js 12 n n g.g)]⟩) (fun g=>n-g.k) ⟨0,f,1,false,1024,by omega,rfl,by omega,by omega,hf,nR (by omega)⟩ ?_ ?_
 ·refine am ⟨rfl,rfl,?_,trivial⟩ ?_
  ·exact lH 0 12 n n f
  ·simp[cu,bD,bA]
 ·rintro⟨k,g,last,neg,b,hk,hv,hl,hb,sgz,slz⟩
  simp only
  by_cases hm:k<n
  ·have h2k:=iE (k:=k) (by omega)
   have hbb:b<=67174400:=by omega
   have hvk:detG n k g last neg=if piv g n k k=n then 0 else detG n (k+1) (zQ k last (BK n k g)) (BK n k g k k) (neg !=decide (k<piv g n k k)):=by rw[detG,if_pos hm]
   (refine ae (aa [] fun K hK=>?_);simp(disch:=omega) only[kc,ab,Nat.reduceAdd,Hm,aj,ai,bE];apply hK)
   refine af rfl (fun _=>ay ?_) (fun h=>by simp at h<;>omega)
   refine ae (aU ?_)
   (refine aa [] fun K hK=>?_;simp(disch:=omega) only[kc,ab];apply hK)
   refine ae (jg (S:=⟨[jk,jk,.one (.ptr 2 0 0 0),.one (.sl 12 0 0 n),.raw (.int .i64 (n:Int)),.one (.ptr 5 0 0 0),.raw (.bool neg),.raw (.int .i64 (k:Int)),.raw (.int .i64 ((piv g n k k:Nat):Int)),jk,jk,jk,jk,jk,jk,jk,jk,jk,jk,jk,jk,jk,jk,jk,jk,jk,jk,jk,jk,jk,jk,jk,jk,jk,jk,jk,jk,jk,jk,jk,jk,jk,jk,jk,jk,jk,jk,jk,jk,jk,jk,jk,jk,jk,jk,jk,jk,jk,jk,jk,jk,jk,jk,jk,jk,jk,jk,jk,jk,jk,jk,jk,jk,jk,jk,jk,jk,jk,jk,jk,jk,jk,jk,jk,jk,jk,jk,jk,jk,jk,jk,jk,jk,jk,jk,jk,jk,jk,jk,jk,jk,jk,jk,jk,jk,jk,jk,jk,jk,jk,jk,jk,jk,jk,jk,jk,jk,jk,jk,jk,jk,jk,jk,jk,jk],Hm [(2,pG),(5,ww last),(12,js 12 n n g)]⟩) ?_ ?_)
   ·refine bT (G:=Fp n k g) (fun q=>⟨[jk,jk,.one (.ptr 2 0 0 0),.one (.sl 12 0 0 n),.raw (.int .i64 (n:Int)),.one (.ptr 5 0 0 0),.raw (.bool neg),.raw (.int .i64 (k:Int)),.raw (.int .i64 (q.p:Int)),jk,jk,jk,jk,jk,jk,jk,jk,jk,jk,jk,jk,jk,jk,jk,jk,jk,jk,jk,jk,jk,jk,jk,jk,jk,jk,jk,jk,jk,jk,jk,jk,jk,jk,jk,jk,jk,jk,jk,jk,jk,jk,jk,jk,jk,jk,jk,jk,jk,jk,jk,jk,jk,jk,jk,jk,jk,jk,jk,jk,jk,jk,jk,jk,jk,jk,jk,jk,jk,jk,jk,jk,jk,jk,jk,jk,jk,jk,jk,jk,jk,jk,jk,jk,jk,jk,jk,jk,jk,jk,jk,jk,jk,jk,jk,jk,jk,jk,jk,jk,jk,jk,jk,jk,jk,jk,jk,jk,jk,jk,jk,jk,jk,jk,jk,jk],Hm [(2,pG),(5,ww last),(12,js 12 n n g)]⟩) (fun q=>n-q.p) ⟨k,by omega,by omega,rfl⟩ ?_ ?_
    ·refine am ⟨rfl,rfl,rfl,trivial⟩ ?_
     simp[cu,bD,bA]
    ·rintro⟨p,hkp,hp,hpv⟩
     simp only
     by_cases hpn:p<n
     ·have g1:=dj (n:=n) (i:=p) 12 n hpn
      have g2:=et n g hpn
      have g3:=ce (g p) hm
      have hSg:=pb (g p k) ((sgz p k hpn hm).mono (by omega))
      by_cases h0:g p k=0
      ·rw[h0]at hSg g3
       (refine ae (aa [⟨11,_,_,_,hSg⟩] fun K hK=>?_);simp(disch:=omega) only[kc,tZ,bj,xc,ar.a,ab,Nat.reduceAdd,Hm,aj,ai,bE,aA,ag,ao,an,be,Nat.reduceEqDiff,bL,cH,cj,g1,ax,cq,bQ,g2,aF,b8,fZ,g3,aW,Nat.le_refl,ak,aT,aI,List.find?_cons,aQ,bo,CallRes.plain,aR,aV,az,isPure,noRefTV,ap,aS,aP,ac,Value.oneCell',aM];apply hK)
       refine af rfl (fun _=>ay ?_) (fun h=>by simp at h)
       refine aU ?_
       ((refine aX [] [] (by simp) fun K hK=>?_);simp(disch:=omega) only[kc,ab,Nat.reduceAdd,aj,ac,Value.oneCell',ai,bC];apply hK)
       refine⟨⟨p+1,by omega,by omega,?_⟩,by simp only;omega,am ⟨rfl,rfl,rfl,trivial⟩ ?_⟩
       ·rw[<- hpv,mo hpn h0]
       ·simp[cu,bD,bA]
      ·have hs0:=DA h0
       (refine ae (aa [⟨11,_,_,_,hSg⟩] fun K hK=>?_);simp(disch:=omega) only[kc,tZ,ar.a,ab,Nat.reduceAdd,Hm,aj,ai,bE,aA,ag,ao,an,be,Nat.reduceEqDiff,bL,cH,cj,g1,ax,cq,bQ,g2,aF,b8,fZ,g3,aW,Nat.le_refl,ak,aT,aI,List.find?_cons,aQ,bo,CallRes.plain,aR,aV,az,isPure,noRefTV,ap,aS,aP,ac,Value.oneCell',bj,aM];apply hK)
       refine af rfl (fun h=>by simp at h<;>omega) (fun _=>bF ?_)
       show du _ _
       have hpe:piv g n k k=p:=by rw[<- hpv,mB hpn h0]
       refine am ⟨rfl,rfl,rfl,trivial⟩ ?_
       simp[cu,bD,bA,hpe]
     ·have hpe:piv g n k k=p:=by rw[<- hpv,j9 hpn];omega
      (refine ae (aa [] fun K hK=>?_);simp(disch:=omega) only[kc,ab,Nat.reduceAdd,Hm,aj,ai,bj,aA,ag,ao,Option.map_none,ak,aT,aI,List.find?_nil,aQ,ac,Value.oneCell',aM];apply hK)
      refine af rfl (fun h=>by simp at h) (fun _=>bF ?_)
      show du _ _
      refine am ⟨rfl,rfl,rfl,trivial⟩ ?_
      simp[cu,bD,bA,hpe]
   ·have hpl:=rb (f:=g) (n:=n) (k:=k) (n-k) k rfl
    have hpn':=uM (f:=g) (n:=n) (k:=k) (n-k) k rfl
    generalize hpp:piv g n k k=p at*
    by_cases hpn:p=n
    ·rw[if_pos hpn]at hvk
     (refine ae (aa [] fun K hK=>?_);simp(disch:=omega) only[kc,ab,Nat.reduceAdd,Hm,aj,ai,bE];apply hK)
     refine af rfl (fun _=>?_) (fun h=>by simp at h<;>omega)
     (refine aa [] fun K hK=>?_;simp(disch:=omega) only[kc,ab,eh,ao,aZ,eI,Value.oneCell',ex,aB,dr,bN,aF,Nat.reduceEqDiff,cH,cellsOf,Nat.reduceAdd,Nat.le_refl,isPure,bL,putCells,aH,aL];apply hK)
     refine bX.weak (fy 2) ?_
     refine aE ⟨.inr rfl,aJ rfl ?_ rfl⟩
     rw[<- hv,hvk]
     simp(disch:=omega) only[kc,bK,Tryz.results93,aN,zH,au,Nat.reduceEqDiff,cH,bL,zO,ur,uG,ax,aF,aW,Nat.reduceAdd,Nat.le_refl,tZ,bj]
     simp[cD,ls]
    ·rw[if_neg hpn]at hvk
     obtain⟨hkp,hpk0⟩:=hpn' (by omega)
     (refine ae (aa [] fun K hK=>?_);simp(disch:=omega) only[kc,ab,Nat.reduceAdd,Hm,aj,ai,bj];apply hK)
     refine af rfl (fun h=>by simp at h<;>omega) (fun _=>ay ?_)
     show bX _ _ _ _
     (refine ae (aa [] fun K hK=>?_);simp(disch:=omega) only[kc,ab,Nat.reduceAdd,aj,ai];apply hK)
     refine jg (S:=⟨[jk,jk,.one (.ptr 2 0 0 0),.one (.sl 12 0 0 n),.raw (.int .i64 (n:Int)),.one (.ptr 5 0 0 0),.raw (.bool (neg !=decide (k<p))),.raw (.int .i64 (k:Int)),jk,jk,jk,jk,jk,jk,jk,jk,jk,jk,jk,jk,jk,jk,jk,jk,jk,jk,jk,jk,jk,jk,jk,jk,jk,jk,jk,jk,jk,jk,jk,jk,jk,jk,jk,jk,jk,jk,jk,jk,jk,jk,jk,jk,jk,jk,jk,jk,jk,jk,jk,jk,jk,jk,jk,jk,jk,jk,jk,jk,jk,jk,jk,jk,jk,jk,jk,jk,jk,jk,jk,jk,jk,jk,jk,jk,jk,jk,jk,jk,jk,jk,jk,jk,jk,jk,jk,jk,jk,jk,jk,jk,jk,jk,jk,jk,jk,jk,jk,jk,jk,jk,jk,jk,jk,jk,jk,jk,jk,jk,jk,jk,jk,jk,jk,jk,jk],Hm [(2,pG),(5,ww last),(12,js 12 n n (swp p k g))]⟩) ?_ ?_
     ·by_cases hlt:k<p
      ·have g1:=dj (n:=n) (i:=p) 12 n (by omega)
       have g2:=dj (n:=n) (i:=k) 12 n (by omega)
       refine af rfl (fun _=>?_) (fun h=>by simp at h<;>omega)
       have g4:((gd 12 (List.replicate n n)).set p [.sl 12 (k+1) 0 n])[k]?=some [.sl 12 (k+1) 0 n]:=by
        rw[List.getElem?_set_ne (by omega),g2]
       (refine bM bU [] [] (by kernel_rfl) (by simp) fun K hK=>?_;simp(disch:=omega) only[kc,ab,Nat.reduceAdd,bE,ag,ao,an,be,Nat.reduceEqDiff,cH,cj,bL,g2,ax,cq,g1,aB,dr,bN,putCells,aH,aL,au,g4,reduceCtorEq,false_and,List.length_map];apply hK)
       ((refine aX [] [] (by simp) fun K hK=>?_);simp(disch:=omega) only[kc,ab,Nat.reduceAdd,cX,aj,eA];apply hK)
       refine(wO 12 (p+1) (k+1) (js 12 n n (swp p k g)) (xf g (by omega) hm (by omega))).trans (am ⟨rfl,rfl,rfl,trivial⟩ ?_)
       simp[cu,bD,bA,Dg,kT,nE,sw,hlt]
      ·have hpk:p=k:=by omega
       subst hpk
       refine af rfl (fun h=>by simp at h<;>omega) (fun _=>ay ?_)
       show du _ _
       rw[lg]
       refine am ⟨rfl,rfl,rfl,trivial⟩ ?_
       simp[cu,bD,bA]
     ·rw[BK,hpp]at hvk
      have hkk:swp p k g k k≠0:=by
       unfold swp
       by_cases h:k=p
       ·subst h;rw[if_pos rfl];exact hpk0
       ·rw[if_neg h,if_pos rfl];exact hpk0
      have hsz: ∀i j,i<n->j<n->Sz (swp p k g i j) b:=fun i j hi hj=>by
       unfold swp
       split
       ·exact sgz k j hm hj
       ·split
        ·exact sgz p j (by omega) hj
        ·exact sgz i j hi hj
      generalize swp p k g=g' at*
      generalize(neg !=decide (k<p))=neg' at*
      (refine ae (aa [] fun K hK=>?_);simp(disch:=omega) only[kc,ab,Nat.reduceAdd,Hm,aj,ac,Value.oneCell',ai,bC];apply hK)
      refine bT (G:=Fb n k) (fun q=>⟨[jk,jk,.one (.ptr 2 0 0 0),.one (.sl 12 0 0 n),.raw (.int .i64 (n:Int)),.one (.ptr 5 0 0 0),.raw (.bool neg'),.raw (.int .i64 (k:Int)),jk,.raw (.int .i64 (q.i:Int)),jk,jk,jk,jk,jk,jk,jk,jk,jk,jk,jk,jk,jk,jk,jk,jk,jk,jk,jk,jk,jk,jk,jk,jk,jk,jk,jk,jk,jk,jk,jk,jk,jk,jk,jk,jk,jk,jk,jk,jk,jk,jk,jk,jk,jk,jk,jk,jk,jk,jk,jk,jk,jk,jk,jk,jk,jk,jk,jk,jk,jk,jk,jk,jk,jk,jk,jk,jk,jk,jk,jk,jk,jk,jk,jk,jk,jk,jk,jk,jk,jk,jk,jk,jk,jk,jk,jk,jk,jk,jk,jk,jk,jk,jk,jk,jk,jk,jk,jk,jk,jk,jk,jk,jk,jk,jk,jk,jk,jk,jk,jk,jk,jk,jk,jk],Hm [(2,pG),(5,ww last),(12,js 12 n n (dI k last g' q.i (k+1)))]⟩) (fun q=>n-q.i) ⟨k+1,by omega,by omega⟩ ?_ ?_
      ·rw[vV]
       refine am ⟨rfl,rfl,rfl,trivial⟩ ?_
       simp[cu,bD,bA]
      ·rintro⟨i,hki,hin⟩
       simp only
       by_cases hi:i<n
       ·(refine ae (aa [] fun K hK=>?_);simp(disch:=omega) only[kc,ab,Nat.reduceAdd,Hm,aj,ai,bE];apply hK)
        refine af rfl (fun _=>ay ?_) (fun h=>by simp at h<;>omega)
        refine ae (aU ?_)
        (refine aa [] fun K hK=>?_;simp(disch:=omega) only[kc,ab,Nat.reduceAdd,aj,ac,Value.oneCell',ai,bC];apply hK)
        refine bT (G:=Fb n k) (fun q=>⟨[jk,jk,.one (.ptr 2 0 0 0),.one (.sl 12 0 0 n),.raw (.int .i64 (n:Int)),.one (.ptr 5 0 0 0),.raw (.bool neg'),.raw (.int .i64 (k:Int)),jk,.raw (.int .i64 (i:Int)),.raw (.int .i64 (q.i:Int)),jk,jk,jk,jk,jk,jk,jk,jk,jk,jk,jk,jk,jk,jk,jk,jk,jk,jk,jk,jk,jk,jk,jk,jk,jk,jk,jk,jk,jk,jk,jk,jk,jk,jk,jk,jk,jk,jk,jk,jk,jk,jk,jk,jk,jk,jk,jk,jk,jk,jk,jk,jk,jk,jk,jk,jk,jk,jk,jk,jk,jk,jk,jk,jk,jk,jk,jk,jk,jk,jk,jk,jk,jk,jk,jk,jk,jk,jk,jk,jk,jk,jk,jk,jk,jk,jk,jk,jk,jk,jk,jk,jk,jk,jk,jk,jk,jk,jk,jk,jk,jk,jk,jk,jk,jk,jk,jk,jk,jk,jk,jk,jk,jk,jk],Hm [(2,pG),(5,ww last),(12,js 12 n n (dI k last g' i q.i))]⟩) (fun q=>n-q.i) ⟨k+1,by omega,by omega⟩ ?_ ?_
        ·refine am ⟨rfl,rfl,rfl,trivial⟩ ?_
         simp[cu,bD,bA]
        ·rintro⟨j,hkj,hjn⟩
         simp only
         by_cases hj:j<n
         ·have a1:=dj (n:=n) (i:=i) 12 n hi
          have a2:=dj (n:=n) (i:=k) 12 n hm
          have a3:=et n (dI k last g' i j) hi
          have a4:=et n (dI k last g' i j) hm
          have a5:(da n (dI k last g' i j k))[k]?=some (g' k k):=by rw[ce _ hm,fJ _ _ (by omega)]
          have a6:(da n (dI k last g' i j i))[j]?=some (g' i j):=by rw[ce _ hj,fJ _ _ (by omega)]
          have a7:(da n (dI k last g' i j i))[k]?=some (g' i k):=by rw[ce _ hm,fJ _ _ (by omega)]
          have a8:(da n (dI k last g' i j k))[j]?=some (g' k j):=by rw[ce _ hj,fJ _ _ (by omega)]
          have z1:=hsz k k hm hm
          have z2:=hsz i j hi hj
          have z3:=hsz i k hi hm
          have z4:=hsz k j hm hj
          have c1:=Du (g' k k) (g' i j) (z1.mono (by omega)) (z2.mono (by omega))
          have c2:=Du (g' i k) (g' k j) (z3.mono (by omega)) (z4.mono (by omega))
          have c3:=Dq (g' k k*g' i j) (g' i k*g' k j) ((z1.mul z2).mono (by omega)) ((z3.mul z4).mono (by omega))
          have c4:=ER (g' k k*g' i j-g' i k*g' k j) last hl (((z1.mul z2).sub (z3.mul z4)).mono (by omega)) (slz.mono (by omega))
          (refine ae (aa [] fun K hK=>?_);simp(disch:=omega) only[kc,ab,Nat.reduceAdd,Hm,aj,ai,bE];apply hK)
          refine af rfl (fun _=>ay ?_) (fun h=>by simp at h<;>omega)
          refine ae (aU ?_)
          ((refine fB bU [⟨19,_,_,_,c1⟩,⟨34,_,_,_,c2⟩,⟨35,_,_,_,c3⟩,⟨37,_,_,_,c4⟩] [] (by kernel_rfl) (by simp) fun K hK=>?_);simp(disch:=omega) only[kc,tZ,ar.a,ab,Nat.reduceAdd,ag,ao,an,be,Nat.reduceEqDiff,cH,cj,bL,a1,ax,cq,a2,bQ,a4,aF,b8,fZ,a5,aW,Nat.le_refl,a3,a6,ak,aT,aI,List.find?_cons,aQ,bo,CallRes.plain,aR,aV,az,isPure,noRefTV,ap,aS,aP,a7,a8,Nat.reduceBEq,aB,dr,bN,cellsOf,putCells,nH,aH,aL];apply hK)
          show bX _ _ _ _
          ((refine aX [] [] (by simp) fun K hK=>?_);simp(disch:=omega) only[kc,ab,Nat.reduceAdd,aj,ac,Value.oneCell',ai,bC];apply hK)
          refine⟨⟨j+1,by omega,by omega⟩,by simp only;omega,am ⟨rfl,rfl,?_,trivial⟩ ?_⟩
          ·show _::_=_::_
           rw[dC fun a b _ _=>xz last g' hki hkj a b]
          ·simp[cu,bD,bA]
         ·have hjn':j=n:=by omega
          subst hjn'
          (refine ae (aa [] fun K hK=>?_);simp(disch:=omega) only[kc,ab,Nat.reduceAdd,Hm,aj,ai,bj];apply hK)
          refine af rfl (fun h=>by simp at h<;>omega) (fun _=>bF ?_)
          show bX _ _ _ _
          ((refine aX [] [] (by simp) fun K hK=>?_);simp(disch:=omega) only[kc,ab,Nat.reduceAdd,aj,ac,Value.oneCell',ai,bC];apply hK)
          refine⟨⟨i+1,by omega,by omega⟩,by simp only;omega,am ⟨rfl,rfl,?_,trivial⟩ ?_⟩
          ·show _::_=_::_
           rw[dC fun a b _ hb=>AF last g' i a b hb]
          ·simp[cu,bD,bA]
       ·have hin':i=n:=by omega
        subst hin'
        have a2:=dj (n:=i) (i:=k) 12 i hm
        have a4:=et i (dI k last g' i (k+1)) hm
        have a5:(da i (dI k last g' i (k+1) k))[k]?=some (g' k k):=by rw[ce _ hm,fJ _ _ (by omega)]
        (refine ae (aa [] fun K hK=>?_);simp(disch:=omega) only[kc,ab,Nat.reduceAdd,Hm,aj,ai,bj];apply hK)
        refine af rfl (fun h=>by simp at h<;>omega) (fun _=>bF ?_)
        show bX _ _ _ _
        ((refine aX [] [] (by simp) fun K hK=>?_);simp(disch:=omega) only[kc,ab,Nat.reduceAdd,ag,ao,an,be,Nat.reduceEqDiff,cH,cj,bL,a2,ax,cq,bQ,a4,aF,b8,fZ,a5,aW,Nat.le_refl,aB,dr,bN,cellsOf,isPure,putCells,aH,aL];apply hK)
        show bX _ _ _ _
        ((refine aX [] [] (by simp) fun K hK=>?_);simp(disch:=omega) only[kc,ab,Nat.reduceAdd,aj,ac,Value.oneCell',ai,bC];apply hK)
        refine⟨⟨k+1,zQ k last g',g' k k,neg',2*b+1,by omega,by rw[<- hvk,hv],hkk,by rw[Nat.pow_succ];omega,fun x y hx hy=>?_,(hsz k k hm hm).mono (by omega)⟩,by simp only;omega,am ⟨rfl,rfl,?_,trivial⟩ ?_⟩
        ·unfold zQ
         split
         ·exact((((hsz k k hm hm).mul (hsz x y hx hy)).sub ((hsz x k hx hm).mul (hsz k y hm hy))).ediv last).mono (by omega)
         ·exact(hsz x y hx hy).mono (by omega)
        ·show _::_=_::_
         rw[dC fun a b ha _=>AQ last g' a b ha]
        ·simp[cu,bD,bA]
  ·have hkn:k=n:=by omega
   subst hkn
   rw[detG,if_neg hm]at hv
   have h2k:=iE (k:=k) hn
   have hN:=DC last (slz.mono (by omega))
   (refine ae (aa [] fun K hK=>?_);simp(disch:=omega) only[kc,ab,Nat.reduceAdd,Hm,aj,ai,bj];apply hK)
   refine af rfl (fun h=>by simp at h<;>omega) (fun _=>bF ?_)
   show bX _ _ _ _
   (refine ae (aa [] fun K hK=>?_);simp(disch:=omega) only[kc,ab];apply hK)
   cases neg with
   |true=>
    rw[if_pos rfl]at hv
    refine af rfl (fun _=>?_) (fun h=>by simp at h)
    (refine aa [⟨1,_,_,_,hN⟩] fun K hK=>?_;simp(disch:=omega) only[kc,tZ,ar.a,ab,Nat.reduceAdd,ao,Nat.reduceEqDiff,cH,ax,aF,aW,Nat.le_refl,ak,aT,aI,List.find?_cons,aQ,bo,CallRes.plain,aR,aV,az,isPure,noRefTV,ap,aS,aP,aB,dr,bN,cellsOf,bL,putCells,aH,aL];apply hK)
    rw[<- hv]
    (refine aE ⟨.inr rfl,aJ rfl ?_ rfl⟩;simp(disch:=omega) only[kc,bK,Tryz.results93,aN,au,Nat.reduceEqDiff,cH,ax,aF,aW,Nat.reduceAdd,Nat.le_refl,tZ])
   |false=>
    rw[if_neg (by simp)]at hv
    refine af rfl (fun h=>by simp at h) (fun _=>ay ?_)
    show bX _ _ _ _
    (refine aa [] fun K hK=>?_;simp(disch:=omega) only[kc,ab,ao,Nat.reduceEqDiff,cH,ax,aF,aW,Nat.reduceAdd,Nat.le_refl,aB,dr,bN,cellsOf,isPure,bL,putCells,aH,aL];apply hK)
    rw[<- hv]
    (refine aE ⟨.inr rfl,aJ rfl ?_ rfl⟩;simp(disch:=omega) only[kc,bK,Tryz.results93,aN,au,Nat.reduceEqDiff,cH,ax,aF,aW,Nat.reduceAdd,Nat.le_refl,tZ])
section
section
variable {P:Program}
theorem oJ {items:List (dN P)} (hI:fc P items) {ow:List Nat} {ops:Array Oper} {w0:World} {O X:Nat->Prop} {Q:Exit->Act->World->Prop} {suf:List Nat}: ∀(l:List Oper) (k:Nat) (s s':AS) (a:Act) (w:World),(∀(j:Nat) o,l[j]?=some o->ops[k+j]?=some o)->
  iz P items ow ops (l.zipIdx k) s=some s'->fM w0 O X s a w->(∀a' w',fM w0 O X s' a' w'->wpOps P ops Q suf a' w')->wpOps P ops Q (List.range' k l.length++suf) a w
 |[],k,s,s',a,w,_,h,r,hQ=>by
  simp only[List.zipIdx_nil,iz]at h
  injection h with h
  subst h
  exact hQ a w r
 |o::l,k,s,s',a,w,hl,h,r,hQ=>by
  simp only[List.zipIdx_cons,iz]at h
  split at h
  ·rename_i s1 hs1
   simp only[List.length_cons,List.range'_succ,List.cons_append,wpOps]
   have ho:ops[k]?=some o:=by have:=hl 0 o rfl;simpa using this
   rw[ho]
   simp only
   have:=gO (Q:=Q) hI r hs1 (K:=wpOps P ops Q (List.range' (k+1) l.length++suf)) (fun v w' hr=>oJ hI l (k+1) s1 s' _ _ (fun j o hj=>by have:=hl (j+1) o (by simpa using hj);rwa[show k+(j+1)=k+1+j by omega]at this) h hr hQ)
   split at this
   ·rename_i hw;rw[if_pos hw];exact .inl this
   ·rename_i hw;rw[if_neg hw];exact this
  ·cases h
end
end
theorem xm (k:Nat):Sz 0 k:=by unfold Sz;exact Nat.pow_pos (by omega)
theorem Eh {n p k b:Nat} {g:Nat->Nat->Int} (hp:p<n) (hk:k<n) (h: ∀i j,i<n->j<n->Sz (g i j) b): ∀i j,i<n->j<n->Sz (swp p k g i j) b:=fun i j hi hj=>by
 unfold swp
 split
 ·exact h k j hk hj
 ·split
  ·exact h p j hp hj
  ·exact h i j hi hj
theorem DV {n k b:Nat} {g:Nat->Nat->Int} (last:Int) (hk:k<n) (h: ∀i j,i<n->j<n->Sz (g i j) b): ∀i j,i<n->j<n->Sz (zQ k last g i j) (2*b+1):=fun x y hx hy=>by
 unfold zQ
 split
 ·exact((((h k k hk hk).mul (h x y hx hy)).sub ((h x k hx hk).mul (h k y hk hy))).ediv last).mono (by omega)
 ·exact(h x y hx hy).mono (by omega)
theorem wY {n:Nat} (hn:n<=16): ∀m k g last neg b,n-k=m->k<=n->(∀i j,i<n->j<n->Sz (g i j) b)->Sz last b->b+1<=1025*2^k->Sz (detG n k g last neg) 67174400
 |0,k,g,last,neg,b,hm,hk,hg,hl,hb=>by
  have h2k:=iE (k:=k) (by omega)
  rw[detG,if_neg (by omega)]
  split
  ·exact hl.neg.mono (by omega)
  ·exact hl.mono (by omega)
 |m+1,k,g,last,neg,b,hm,hk,hg,hl,hb=>by
  rw[detG,if_pos (by omega)]
  split
  ·exact xm _
  ·rename_i hp
   have hpl:=rb (f:=g) (n:=n) (k:=k) (n-k) k rfl
   have hs:=Eh (p:=piv g n k k) (k:=k) (by omega) (by omega) hg
   exact wY hn m (k+1) _ _ _ (2*b+1) (by omega) (by omega) (DV last (by omega) hs) ((hs k k (by omega) (by omega)).mono (by omega)) (by rw[Nat.pow_succ];omega)
theorem xo {n:Nat} {f:Nat->Nat->Int} (hn:n<=16) (hf: ∀i j,i<n->j<n->Sz (f i j) 1024):Sz (detF n f) 67174400:=
 wY hn n 0 f 1 false 1024 rfl (by omega) hf (nR (by omega)) (by omega)
theorem gJ {n c:Nat} (f:Nat->Nat->Int) (h:1<=n):((dp n c f).headD []).length=c:=by
 have:=fV (M:=dp n c f) (by rw[ci];omega)
 rw[df _ _ (by omega)]at this
 injection this with this
 rw[<- this,cL]
theorem nI {n c:Nat} (f:Nat->Nat->Int) (hn1:1<=n) (hn:n<=16) (hc1:1<=c) (hc:c<=16):sf (dp n c f):=by
 refine⟨by rw[ci];omega,by rw[ci];omega,fun r hr=>?_⟩
 obtain⟨i,hi⟩:=List.mem_iff_getElem?.1 hr
 have hin:i<n:=by
  have:=(List.getElem?_eq_some_iff.1 hi).1
  rwa[ci]at this
 rw[df _ _ hin]at hi
 injection hi with hi
 rw[<- hi,rOk,cL,gJ f hn1]
 omega
theorem ri {M:List (List Int)} (h:sf M):M=dp M.length (M.headD []).length (ent M):=CH fun r hr=>(h.2.2 r hr).2.2
theorem C9 {n:Nat} (f:Nat->Nat->Int) (hn1:1<=n) (hn:n<=16):Dv (dp n n f)= .tup [(false,[.p (.raw (.int .i64 (n:Int)))]),(false,[.p (.raw (.bool true))])]:=by
 have h:Fc (dp n n f):=⟨nI f hn1 hn hn1 hn,by rw[ci,gJ f hn1]⟩
 unfold Dv;rw[if_pos h,ci]
theorem El {n c:Nat} (f:Nat->Nat->Int) (hn1:1<=n) (h:n≠c):Dv (dp n c f)= .tup [(false,[.p (.raw (.int .i64 0))]),(false,[.p (.raw (.bool false))])]:=by
 unfold Dv;rw[if_neg]
 intro hs
 have:=hs.2
 rw[ci,gJ f hn1]at this
 exact h this
def jt (rows:List (List Int)) (x:List Int):Bool:=dv rows&&nP rows.length x
theorem mp (A B:Option Addr) (c d:Nat) (rows:List (List Int)) (x:List Int) (w:World) (hR:iA .i64 w A rows) (hx:RdI .i64 w B x) (lr:rows.length<=9223372036854775807) (hc:rows.length<=c) (lx:x.length<=9223372036854775807):
  Calls Tryz.prog 82 #[.slice A rows.length c,.slice B x.length d] w fun e w'=>e= .returned (.bool (jt rows x))/\Ext w w':=by
 have HR:=Lib.hid hR
 have HX:=Lib.hid hx
 clear hR hx
 cases hI:dv rows with
 |false=>
  have HV:Hid (jt rows x=false):=Lib.hid (by simp[jt,hI])
  go_enter Tryz.func82,Tryz.ntmps82
  go_wp2_with (go_at_call 34;refine(fL A c rows _ HR.out lr hc).mono ?_;rintro e w1 ⟨rfl,he⟩)
  go_ret
  exact⟨ee HV.out.symm,he⟩
 |true=>
  have HV:Hid (jt rows x=nP rows.length x):=Lib.hid (by simp[jt,hI])
  go_enter Tryz.func82,Tryz.ntmps82
  go_wp2_with (first|(go_at_call 34;refine(fL A c rows _ HR.out lr hc).mono ?_;rintro e w1 ⟨rfl,he⟩;have HE:=Lib.hid he;clear he)|(go_at_call 36;refine(jH rows.length B d x _ (HX.out.ext HE.out) lx).mono ?_;rintro e w2 ⟨rfl,rfl⟩))
  go_ret
  exact⟨ee HV.out.symm,HE.out⟩
def f7 (rows:List (List Int)) (x y:List Int):Value:=
 if jt rows x=true/\nP rows.length y=true then mH (fj x (eo rows y) x.length)else .tuple #[.int .i64 0,.bool false]
theorem yb (A B C:Option Addr) (c d d':Nat) (rows:List (List Int)) (x y:List Int) (w:World) (hR:iA .i64 w A rows) (hx:RdI .i64 w B x) (hy:RdI .i64 w C y) (lr:rows.length<=9223372036854775807) (hc:rows.length<=c) (lx:x.length<=9223372036854775807) (ly:y.length<=9223372036854775807):
  Calls Tryz.prog 40 #[.slice A rows.length c,.slice B x.length d,.slice C y.length d'] w fun e w'=>e= .returned (f7 rows x y)/\Ext w w':=by
 have HR:=Lib.hid hR
 have HX:=Lib.hid hx
 have HY:=Lib.hid hy
 clear hR hx hy
 cases hI:jt rows x with
 |false=>
  have HV:Hid (f7 rows x y= .tuple #[.int .i64 0,.bool false]):=Lib.hid (by unfold f7;rw[if_neg (by simp[hI])])
  go_enter Tryz.func40,Tryz.ntmps40
  go_wp2_with (go_at_call 82;refine(mp A B c d rows x _ HR.out HX.out lr hc lx).mono ?_;rintro e w1 ⟨rfl,he⟩)
  go_ret2
  exact⟨by rw[HV.out];rfl,he⟩
 |true=>
  cases hF:nP rows.length y with
  |false=>
   have HV:Hid (f7 rows x y= .tuple #[.int .i64 0,.bool false]):=Lib.hid (by unfold f7;rw[if_neg (by simp[hF])])
   go_enter Tryz.func40,Tryz.ntmps40
   go_wp2_with (first|(go_at_call 82;refine(mp A B c d rows x _ HR.out HX.out lr hc lx).mono ?_;rintro e w1 ⟨rfl,he⟩;have HE:=Lib.hid he;clear he)|(go_at_call 36;refine(jH rows.length C d' y _ (HY.out.ext HE.out) ly).mono ?_;rintro e w2 ⟨rfl,rfl⟩))
   go_ret2
   exact⟨by rw[HV.out];rfl,HE.out⟩
  |true=>
   have HV:Hid (f7 rows x y=mH (fj x (eo rows y) x.length)):=Lib.hid (by unfold f7;rw[if_pos ⟨hI,hF⟩])
   have hI':=hI
   unfold jt at hI'
   rw[Bool.and_eq_true,nT]at hI'
   obtain⟨hr,hxl,hxb⟩:=hI'
   have hs:=iK hr
   have h8:rows.length<=8:=hs.2.1
   obtain⟨hyl,hyb⟩:=nT.1 hF
   have hxle:x.length<=rows.length:=by omega
   have hxge:rows.length<=x.length:=by omega
   have hyge:rows.length<=y.length:=by omega
   have HS:=Lib.hid hs
   have HYB:=Lib.hid hyb
   have HXB:=Lib.hid hxb
   have HA:=Lib.hid (qa hs hyb)
   have HAL:=Lib.hid (ki rows y)
   clear hr hxl hs hyl hyb hxb
   go_enter Tryz.func40,Tryz.ntmps40
   go_wp2_with (first|(go_at_call 82;refine(mp A B c d rows x _ HR.out HX.out lr hc lx).mono ?_;rintro e w1 ⟨rfl,he⟩;have HE:=Lib.hid he;clear he)|(go_at_call 36;refine(jH rows.length C d' y _ (HY.out.ext HE.out) ly).mono ?_;rintro e w2 ⟨rfl,rfl⟩))
   refine(qC A C c d' rows y _ (HR.out.ext HE.out) (HY.out.ext HE.out) (by omega) (fun i hi=>by rw[HS.out.2.2.1 i hi];exact hyge) ly).mono ?_
   rintro e w2 ⟨rfl,hrd,he2⟩
   have HE2:=Lib.hid (HE.out.trans he2)
   have HRD:=Lib.hid hrd
   clear hrd he2
   go_wp2_with fail
   have hcon:=xe B (some ⟨w1.heap.size,0,none⟩) d rows.length x (eo rows y) w2 (HX.out.ext HE2.out) HRD.out (by rw[HAL.out];exact hxle) (by omega) (by rw[HAL.out];omega) (fun i z hz=>je HXB.out hz) HA.out
   rw[HAL.out]at hcon
   refine hcon.mono ?_
   rintro e w3 ⟨rfl,he3⟩
   have HE3:=Lib.hid (HE2.out.trans he3)
   clear he3 hcon
   have HD:Hid (∃a b,mH (fj x (eo rows y) x.length)= .tuple #[a,b]):=Lib.hid (by unfold mH;split<;>exact⟨_,_,rfl⟩)
   obtain⟨va,vb,hd⟩:=HD.out
   rw[hd]
   have HDD:=Lib.hid hd
   clear hd
   go_wp2_with fail
   go_ret2
   exact⟨by rw[HV.out,HDD.out];rfl,HE3.out⟩
theorem zA (A B:Option Addr) (c d:Nat) (rows:List (List Int)) (x:List Int) (w:World) (hR:iA .i64 w A rows) (hx:RdI .i64 w B x) (lr:rows.length<=9223372036854775807) (hc:rows.length<=c) (lx:x.length<=9223372036854775807):
  Calls Tryz.prog 15 #[.slice A rows.length c,.slice B x.length d] w fun e w'=>e= .returned (f7 rows x x)/\Ext w w':=by
 have HD:Hid (∃a b,f7 rows x x= .tuple #[a,b]):=Lib.hid (by unfold f7 mH;split<;>(try split)<;>exact⟨_,_,rfl⟩)
 have hcon:=yb A B B c d d rows x x w hR hx hx lr hc lx lx
 obtain⟨va,vb,hd⟩:=HD.out
 rw[hd]at hcon
 rw[hd]
 have HC:=Lib.hid hcon
 clear hcon hd HD
 go_enter Tryz.func15,Tryz.ntmps15
 go_wp2_with (go_at_call 40;refine HC.out.mono ?_;rintro e w1 ⟨rfl,he⟩)
 go_ret2
 exact⟨rfl,he⟩
def yX (z:Int):Prop:= -9223372036854775808<=z/\z<=9223372036854775807
theorem yX.sz {z:Int} (h:yX z) {k:Nat} (hk:2<=k):Sz z k:=by
 have:Sz z 2:=by
  unfold Sz
  have:=h.1
  have:=h.2
  rw[show(4294967296:Nat)^2=18446744073709551616 by decide]
  omega
 exact this.mono hk
def MI (M:List (List Int)):Prop:= ∀r∈M,∀z∈r,yX z
theorem MI.ent {M:List (List Int)} (h:MI M) (i j:Nat):yX (ent M i j):=by
 simp only[Go.Proofs.YtpgghglbpcabkaaGreat.ent,List.getD_eq_getElem?_getD]
 cases hr:M[i]? with
 |none=>simp[yX]
 |some r=>
  simp only[Option.getD_some]
  cases hz:r[j]? with
  |none=>simp[yX]
  |some z=>exact h r (List.mem_of_getElem? hr) z (List.mem_of_getElem? hz)
abbrev Fh (l:List Int):TV:= .one (.p (.sl (ls fI l)))
def qF (l d:Int):Int:=(2*l+d)/(2*d)
def Fy (f:Nat->Nat->Int):Nat->Nat->Int:=fun a b=>f b a
def wZ:Nat->Nat->Int:=fun a b=>if a=b then 1 else 0
def yM (i:Nat):Nat->Nat->Int:=fun a b=>if a<i/\a=b then 1 else 0
theorem Am (i a b:Nat):upd (yM i) i i 1 a b=yM (i+1) a b:=by
 unfold upd yM
 by_cases h1:a=i
 ·subst h1
  by_cases h2:b=a
  ·subst h2;simp
  ·simp[h2,Ne.symm h2]
 ·have:a<i+1↔a<i:=by omega
  simp[h1,this]
theorem CZ {n:Nat} (a b:Nat) (ha:a<n):yM n a b=wZ a b:=by unfold yM wZ;simp[ha]
def Br (k:Nat) (f g:Nat->Nat->Int):Nat->Nat->Int:=fun i j=>fj (da k (f i)) (da k (Fy g j)) k
end Go.Proofs.YtpgghglbpcabkaaGreat
