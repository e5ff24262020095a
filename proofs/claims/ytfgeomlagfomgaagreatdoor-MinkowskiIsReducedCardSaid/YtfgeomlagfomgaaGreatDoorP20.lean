/-
  Part 21 of a proof (walks and plain facts).
-/
import Derived.Test.YtfgeomlagfomgaaGreatDoorP19
set_option linter.all false
set_option maxRecDepth 100000
set_option maxHeartbeats 64000000
open Nat renaming reduceAdd → aa
open Go.Value renaming oneCell' → ab
open List renaming find?_cons → ac
open Go.Proofs.YtfgeomlagfomgaaGreatDoor.CallRes renaming plain → ae
open Nat renaming reduceEqDiff → af
open List renaming getElem?_cons_zero → ag
open List renaming getElem?_cons_succ → ah
open Nat renaming le_refl → ai
open List renaming replicate → aj
open Nat renaming reduceBEq → ak
open Bool renaming not_false → an
open Nat renaming reduceLeDiff → ap
open List renaming mem_map → au
open Int renaming natCast_nonneg → ax
open List renaming getElem?_append_left → aA
open List renaming getElem?_eq_none → aC
open List renaming length_map → aF
open List renaming length_replicate → aG
open List renaming getElem?_map → aH
namespace Go.Proofs.YtfgeomlagfomgaaGreatDoor
open Go.RowKit
abbrev vF (k:Nat) (b:Bool):TV:= .tup [(false,[.sl 0 0 0 k]),(false,[.p (.raw (.bool b))])]
open Classical in
noncomputable def AY (M l:List (List Int)):CallRes:=if Lr M l then⟨gG 0 l.length l.length (vG M l),vF l.length true⟩else⟨gG 0 0 0 (vG M l),vF 0 false⟩
theorem Ex {M l:List (List Int)} (h: ¬Lr M l):AY M l=⟨gG 0 0 0 (vG M l),vF 0 false⟩:=if_neg h
theorem uf {M l:List (List Int)} (h:Lr M l):AY M l=⟨gG 0 l.length l.length (vG M l),vF l.length true⟩:=if_pos h
theorem zS {fn:Func} {c:Nat} {F:Nat->Nat->Int} {b:Bool} {s:AS} (hd:s.H 500=[]) (hk:s.tmps[4]?=some (.raw (.slice none 0 0)))
  (hres:cH Tryz.prog ⟨s.tmps.set 4 (.one (.sl 500 0 0 0)),bD s.H 500 [⟨27,1,[]⟩]⟩ fn.results.toList=some (.tup [(false,[.sl 500 0 0 0]),(false,[.p (.raw (.bool b))])])):
  ∃s',eg s s'/\nH Tryz.prog fn ⟨gG 0 0 c F,vF 0 b⟩ s':=
 ⟨_,iz (k:=4) (d:=500) 27 1 (by omega) hd hk,_,500,hres,ye (by simp[j7,fP]) (by decide),by simp only[dr];rfl,rfl⟩
theorem Km {fn:Func} {d k c:Nat} {F:Nat->Nat->Int} {b:Bool} {s:AS} (hd:s.H d=gG d k c F)
  (hres:cH Tryz.prog s fn.results.toList=some (.tup [(false,[.sl d 0 0 k]),(false,[.p (.raw (.bool b))])])) (h5:d<=4999:=by decide):
  ∃s',eg s s'/\nH Tryz.prog fn ⟨gG 0 k c F,vF k b⟩ s':=
 ⟨s,eg.refl s,_,d,hres,ye (by simp[j7,fP]) h5,by rw[hd,je],rfl⟩
theorem Ig (M l:List (List Int)) (hl:l.length<=16):CallC Tryz.prog 48 [dx M,dx l] (AY M l):=by
 have hno:=Ex (M:=M) (l:=l)
 have hyes:=uf (M:=M) (l:=l)
 generalize AY M l=r at*
 have cR:=o7 M
 cases hred:dO M with
 |false=>
  rw[hred]at cR
  rw[hno (fun h=>by rw[h.1]at hred;cases hred)]
  refine bG Tryz.func48 rfl (by kernel_rfl) ?_;rw[Tryz.ntmps48]
  (refine aL [] fun K hK=>?_;simp(disch:=omega) only[kc,aM,dx,aa,aj,aN,ab];apply hK)
  (refine aP (aL [⟨1,_,_,_,cR⟩] fun K hK=>?_);simp(disch:=omega) only[kc,dx,bj.a,aM,aa,aY,bU,bI,ac,bO,cq,ae,bV,bW,bs,noRefTV,bf,bQ,bM,dM,aU,fD,an];apply hK)
  refine bJ rfl ?_
  (refine aL [] fun K hK=>?_;simp(disch:=omega) only[kc,aM,aN,ab];apply hK)
  refine bC ⟨.inr rfl,zS rfl rfl ?_⟩
  simp(disch:=omega) only[kc,cH,Tryz.results48,eP,bH,dF]
 |true=>
  rw[hred]at cR
  obtain⟨n,hn⟩: ∃n,n=l.length:=⟨_,rfl⟩
  rw[<- hn]at hyes hl
  have hln:=hn.symm
  refine bG Tryz.func48 rfl (by kernel_rfl) ?_;rw[Tryz.ntmps48]
  (refine aL [] fun K hK=>?_;simp(disch:=omega) only[kc,aM,dx,aa,aj,aN,ab];apply hK)
  (refine aP (aL [⟨1,_,_,_,cR⟩] fun K hK=>?_);simp(disch:=omega) only[kc,dx,bj.a,aM,aa,aY,bU,bI,ac,bO,cq,ae,bV,bW,bs,noRefTV,bf,bQ,bM,dM,aU,fD];apply hK)
  refine bL rfl (bi ?_)
  show da _ _ _ _
  (refine aP (aL [] fun K hK=>?_);simp(disch:=omega) only[kc,aM,aa,be,aZ,bv,bE,hln,aN,ab];apply hK)
  refine cC (G:=LF n (fun a=>FitB M.length (l.getD a [])=true)) (fun g=>⟨[dx M,dx l,jk,jk,jk,jk,jk,jk,jk,jk,jk,jk,jk,jk,jk,jk,jk,jk,jk,dx l,.raw (.int .i64 (n:Int)),.raw (.int .i64 (g.i:Int)),jk,jk,jk,jk,jk,jk,jk,jk,jk,jk,jk,jk,jk,jk,jk,jk,jk,jk,jk,jk,jk,jk,jk,jk,jk,jk,jk,jk,jk,jk,jk,jk,jk,jk,jk,jk,jk,jk,jk,jk,jk,jk,jk,jk,jk,jk,jk,jk,jk,jk,jk,jk,jk,jk,jk,jk,jk,jk,jk,jk,jk,jk,jk,jk,jk,jk,jk],Hm []⟩) (fun g=>n-g.i) ⟨0,by omega,fun a h=>by omega⟩ ?_ ?_
  ·refine aT trivial ?_
   simp[di,b9,b8]
  rintro⟨i,hi,hg⟩
  simp only
  by_cases hm:i<n
  ·have hli:=vD (l:=l) (i:=i) (by omega)
   have cF:=If M.length (l.getD i [])
   cases hf:FitB M.length (l.getD i [])with
   |true=>
    rw[hf]at cF
    have hg': ∀a,a<i+1->FitB M.length (l.getD a [])=true:=fun a ha=>by
     by_cases h:a=i
     ·subst h;exact hf
     exact hg a (by omega)
    generalize l.getD i []=xi at*
    (refine aL [] fun K hK=>?_;simp(disch:=omega) only[kc,aM,dx,Hm,aU,aO,aR,aX,aS,cw];apply hK)
    refine aP (bJ rfl (bi ?_))
    refine aP (bA ?_)
    (refine aL [] fun K hK=>?_;simp(disch:=omega) only[kc,aM,aa,aQ,aZ,aW,bv,ch,hli,fR,db,packT,dc];apply hK)
    (refine aL [⟨3,_,_,_,cF⟩] fun K hK=>?_;simp(disch:=omega) only[kc,mp,bj.a,aM,aa,be,aZ,bv,bE,aY,bU,bI,ac,bO,cq,ae,bV,bW,bs,noRefTV,bf,bQ,bM,dM,aU,fD];apply hK)
    refine bL rfl (bi ?_)
    show da _ _ _ _
    ((refine bK [] [] (by simp) fun K hK=>?_);simp(disch:=omega) only[kc,aM,aU,aO,aR,aX,aN,ab,aS,cd];apply hK)
    refine⟨⟨i+1,by omega,hg'⟩,by simp only;omega,aT trivial ?_⟩
    simp[di,b9,b8]
   |false=>
    rw[hf]at cF
    have hr:=hno (fun h=>by rw[(h.2 i (by omega) i (by omega)).x]at hf;cases hf)
    generalize l.getD i []=xi at*
    (refine aL [] fun K hK=>?_;simp(disch:=omega) only[kc,aM,dx,Hm,aU,aO,aR,aX,aS,cw];apply hK)
    refine aP (bJ rfl (bi ?_))
    refine aP (bA ?_)
    (refine aL [] fun K hK=>?_;simp(disch:=omega) only[kc,aM,aa,aQ,aZ,aW,bv,ch,hli,fR,db,packT,dc];apply hK)
    (refine aL [⟨3,_,_,_,cF⟩] fun K hK=>?_;simp(disch:=omega) only[kc,mp,bj.a,aM,aa,be,aZ,bv,bE,aY,bU,bI,ac,bO,cq,ae,bV,bW,bs,noRefTV,bf,bQ,bM,dM,aU,fD,an];apply hK)
    refine bJ rfl ?_
    (refine aL [] fun K hK=>?_;simp(disch:=omega) only[kc,aM,aN,ab];apply hK)
    rw[hr]
    refine bC ⟨.inr rfl,zS rfl rfl ?_⟩
    simp(disch:=omega) only[kc,cH,Tryz.results48,eP,bH,dF]
  have hin:i=n:=by omega
  subst hin
  (refine aL [] fun K hK=>?_;simp(disch:=omega) only[kc,aM,dx,Hm,aU,aO,aR,aX,aS,cp];apply hK)
  refine aP (bL rfl (ck ?_))
  show da _ _ _ _
  have hfit: ∀a,a<i->FitB M.length (l.getD a [])=true:=hg
  clear hg
  obtain⟨n,hni⟩: ∃n,n=i:=⟨_,rfl⟩
  subst hni
  (refine aL [] fun K hK=>?_;simp(disch:=omega) only[kc,aM,aa,be,aZ,bv,bE,hln,cY,bU,bI,jP,db,qZ,ax,ab,and_true,cQ];apply hK)
  (refine aP (aL [] fun K hK=>?_);simp(disch:=omega) only[kc,aM,aa,be,aZ,bv,bE,hln,aN,ab];apply hK)
  refine cC (G:=ov n) (fun g=>⟨[dx M,dx l,jk,jk,jk,jk,jk,jk,.one (.sl 33 0 0 n),jk,jk,jk,jk,jk,jk,jk,jk,jk,jk,jk,jk,jk,jk,jk,jk,jk,jk,jk,jk,jk,jk,jk,jk,jk,jk,.raw (.int .i64 (n:Int)),.raw (.int .i64 (g.i:Int)),jk,jk,jk,jk,jk,jk,jk,jk,jk,jk,jk,jk,jk,jk,jk,jk,jk,jk,jk,jk,jk,jk,jk,jk,jk,jk,jk,jk,jk,jk,jk,jk,jk,jk,jk,jk,jk,jk,jk,jk,jk,jk,jk,jk,jk,jk,jk,jk,jk,jk,jk,jk],Hm [(33,kI 33 n n g.i (fun _ _=>0))]⟩) (fun g=>n-g.i) ⟨0,by omega⟩ ?_ ?_
  ·refine aT ⟨?_,trivial⟩ ?_
   ·show[_]=_
    simp[kI,iX,dC]
   simp[di,b9,b8]
  rintro⟨i,hi⟩
  simp only
  by_cases hm:i<n
  ·have k1:=zw (i:=i) (n:=n) 33 n hm
   have k2:=vM (i:=i) (n:=n) 33 n hi
   have k3:=cT i n (fun _ _=>(0:Int))
   have k4:=vN (i:=i) (n:=n) (c:=n) 33 (fun _ _=>(0:Int)) hm (fun j hj=>rfl)
   (refine aL [] fun K hK=>?_;simp(disch:=omega) only[kc,aM,dx,Hm,aU,aO,aR,aX,aS,cw];apply hK)
   refine aP (bJ rfl (bi ?_))
   refine aP (bA ?_)
   (refine aL [] fun K hK=>?_;simp(disch:=omega) only[kc,aM];apply hK)
   ((refine bK [] [] (by simp) fun K hK=>?_);simp(disch:=omega) only[kc,aM,aa,be,aZ,bv,bE,hln,cY,bU,bI,ca,iT,dJ,ou,ax,ab,and_true,cQ,af,aQ,aW,bD,db,bo,ew,cU,k1,bu,d4,ap,aG,List.all_replicate,isPure,aF,k3,k4,bz,bx,ak];apply hK)
   show da _ _ _ _
   ((refine bK [] [] (by simp) fun K hK=>?_);simp(disch:=omega) only[kc,aM,aU,aO,aR,aX,aN,ab,aS,cd];apply hK)
   refine⟨⟨i+1,by omega⟩,by simp only;omega,aT ⟨?_,trivial⟩ ?_⟩
   ·first|exact k4|rfl
   simp[di,b9,b8]
  have hin:i=n:=by omega
  subst hin
  (refine aL [] fun K hK=>?_;simp(disch:=omega) only[kc,aM,dx,Hm,aU,aO,aR,aX,aS,cp];apply hK)
  refine aP (bL rfl (ck ?_))
  show da _ _ _ _
  rw[vL]
  obtain⟨n,hni⟩: ∃n,n=i:=⟨_,rfl⟩
  subst hni
  (refine aP (aL [] fun K hK=>?_);simp(disch:=omega) only[kc,aM,aa,be,aZ,bv,bE,hln,aN,ab];apply hK)
  refine cC (G:=LF n (fun a=> ∀b,b<=a->PG M l a b)) (fun g=>⟨[dx M,dx l,jk,jk,jk,jk,jk,jk,.one (.sl 33 0 0 n),jk,jk,jk,jk,jk,jk,jk,jk,jk,jk,jk,jk,jk,jk,jk,jk,jk,jk,jk,jk,jk,jk,jk,jk,jk,jk,jk,jk,jk,jk,jk,jk,jk,jk,jk,jk,jk,dx l,.raw (.int .i64 (n:Int)),.raw (.int .i64 (g.i:Int)),jk,jk,jk,jk,jk,jk,jk,jk,jk,jk,jk,jk,jk,jk,jk,jk,jk,jk,jk,jk,jk,jk,jk,jk,jk,jk,jk,jk,jk,jk,jk,jk,jk,jk,jk,jk,jk,jk,jk,jk],Hm [(33,gG 33 n n (zr (vG M l) g.i 0))]⟩) (fun g=>n-g.i) ⟨0,by omega,fun a h=>by omega⟩ ?_ ?_
  ·refine aT ⟨?_,trivial⟩ ?_
   ·show _::_=_::_
    rw[fz fun a b _ _=>(Ev (vG M l) a b).symm]
   simp[di,b9,b8]
  rintro⟨i,hi,hg⟩
  simp only
  by_cases hm:i<n
  ·have hli:=vD (l:=l) (i:=i) (by omega)
   have cA:=Ff M (l.getD i []) hred (hfit i hm)
   (refine aL [] fun K hK=>?_;simp(disch:=omega) only[kc,aM,dx,Hm,aU,aO,aR,aX,aS,cw];apply hK)
   refine aP (bJ rfl (bi ?_))
   refine aP (bA ?_)
   (refine aL [] fun K hK=>?_;simp(disch:=omega) only[kc,aM,aa,aQ,aZ,aW,bv,ch,hli,fR,db,packT,dc];apply hK)
   (refine aL [⟨2,_,_,_,cA⟩] fun K hK=>?_;simp(disch:=omega) only[kc,dx,mp,bj.a,aM,aa,aY,bU,bI,ac,bO,cq,ae,bV,bW,bs,noRefTV,bf,bQ,bM];apply hK)
   (refine aL [] fun K hK=>?_;simp(disch:=omega) only[kc,aM,aa,aU,aO,aR,aX,aN,ab,aS,cd];apply hK)
   refine cC (G:=LF (i+1) (fun b=>PG M l i b)) (fun g=>⟨[dx M,dx l,jk,jk,jk,jk,jk,jk,.one (.sl 33 0 0 n),jk,.raw (.int .i64 (i:Int)),jk,mp (fi M (l.getD i [])),jk,jk,jk,jk,jk,jk,jk,jk,jk,jk,jk,jk,jk,jk,jk,jk,jk,jk,jk,jk,jk,jk,jk,jk,jk,jk,jk,jk,jk,jk,jk,jk,jk,dx l,.raw (.int .i64 (n:Int)),.raw (.int .i64 (i:Int)),jk,jk,jk,jk,jk,jk,jk,jk,.raw (.int .i64 ((i+1:Nat):Int)),.raw (.int .i64 (g.i:Int)),jk,jk,jk,jk,jk,jk,jk,jk,jk,jk,jk,jk,jk,jk,jk,jk,jk,jk,jk,jk,jk,jk,jk,jk,jk,jk,jk,jk,jk,jk],Hm [(33,gG 33 n n (zr (vG M l) i g.i))]⟩) (fun g=>i+1-g.i) ⟨0,by omega,fun a h=>by omega⟩ ?_ ?_
   ·refine aT ⟨rfl,trivial⟩ ?_
    simp[di,b9,b8]
   rintro⟨j,hj,hh⟩
   simp only
   by_cases hm2:j<i+1
   ·have hlj:=vD (l:=l) (i:=j) (by omega)
    have cD:=Kj M (l.getD j []) (l.getD i []) hred (hfit j (by omega)) (hfit i hm)
    have hsy:=Gm (i:=i) (j:=j) hred (hfit i hm) (hfit j (by omega))
    rw[show iF (l.getD j []) (fi M (l.getD i [])) (l.getD j []).length=vG M l j i from rfl,<- hsy]at cD
    by_cases hp:PG M l i j
    ·rw[show KQ (vG M l i j)=Dk (vG M l i j) true from if_pos ⟨hp.lo,hp.hi⟩]at cD
     have g1:=d5 (n:=n) (i:=i) 33 n hm
     have g2:=d5 (n:=n) (i:=j) 33 n (by omega)
     have g3:=fo (n:=n) n (zr (vG M l) i j) (i:=i) hm
     have g4:=cu (zr (vG M l) i j i) (show j<n by omega)
     have g5:=fo (n:=n) n (upd (zr (vG M l) i j) i j (vG M l i j)) (i:=j) (show j<n by omega)
     have g6:=cu (upd (zr (vG M l) i j) i j (vG M l i j) j) hm
     (refine aL [] fun K hK=>?_;simp(disch:=omega) only[kc,aM,dx,mp,Hm,aU,aO,aR,aX,aS,cw];apply hK)
     refine aP (bJ rfl (bi ?_))
     refine aP (bA ?_)
     (refine aL [] fun K hK=>?_;simp(disch:=omega) only[kc,aM];apply hK)
     (refine aL [⟨5,_,_,_,cD⟩] fun K hK=>?_;simp(disch:=omega) only[kc,mp,Dk,bj.a,aM,aa,aQ,aZ,aW,bv,ch,hlj,fR,db,packT,dc,aY,bU,bI,ac,bO,cq,ae,bV,bW,bs,noRefTV,bf,bQ,bM,cK,aU];apply hK)
     (refine aP (aL [] fun K hK=>?_);simp(disch:=omega) only[kc,aM,dM,aU,fD];apply hK)
     refine bL rfl (bi ?_)
     show da _ _ _ _
     ((refine gP cJ [] [] (by kernel_rfl) (by simp) fun K hK=>?_);simp(disch:=omega) only[kc,aM,aa,aQ,aZ,aW,bv,db,cQ,g1,packT,dc,g2,ca,g3,dJ,bo,ew,cU,dp,fI,g4,cellsOf,ai,isPure,bu,jq,bz,bx,bD,d4,g5,g6];apply hK)
     show da _ _ _ _
     ((refine bK [] [] (by simp) fun K hK=>?_);simp(disch:=omega) only[kc,aM,aU,aO,aR,aX,aN,ab,aS,cd];apply hK)
     refine⟨⟨j+1,by omega,fun a ha=>?_⟩,by simp only;omega,aT ⟨?_,trivial⟩ ?_⟩
     ·by_cases h:a=j
      ·subst h;exact hp
      exact hh a (by omega)
     ·show _::_=_::_
      rw[fz fun a b _ _=>Eu (f:=vG M l) rfl hsy.symm a b]
     simp[di,b9,b8]
    have hw:KQ (vG M l i j)=Dk 0 false:=if_neg fun h=>hp ⟨hfit i hm,hfit j (by omega),h.1,h.2⟩
    rw[hw]at cD
    have hr:=hno (fun h=>hp (h.2 i (by omega) j (by omega)))
    (refine aL [] fun K hK=>?_;simp(disch:=omega) only[kc,aM,dx,mp,Hm,aU,aO,aR,aX,aS,cw];apply hK)
    refine aP (bJ rfl (bi ?_))
    refine aP (bA ?_)
    (refine aL [] fun K hK=>?_;simp(disch:=omega) only[kc,aM];apply hK)
    (refine aL [⟨5,_,_,_,cD⟩] fun K hK=>?_;simp(disch:=omega) only[kc,mp,Dk,bj.a,aM,aa,aQ,aZ,aW,bv,ch,hlj,fR,db,packT,dc,aY,bU,bI,ac,bO,cq,ae,bV,bW,bs,noRefTV,bf,bQ,bM,cK,aU];apply hK)
    (refine aP (aL [] fun K hK=>?_);simp(disch:=omega) only[kc,aM,dM,aU,fD,an];apply hK)
    refine bJ rfl ?_
    (refine aL [] fun K hK=>?_;simp(disch:=omega) only[kc,aM,aN,ab];apply hK)
    rw[hr]
    refine bC ⟨.inr rfl,zS rfl rfl ?_⟩
    simp(disch:=omega) only[kc,cH,Tryz.results48,eP,bH,dF]
   have hjc:j=i+1:=by omega
   subst hjc
   (refine aL [] fun K hK=>?_;simp(disch:=omega) only[kc,aM,dx,mp,Hm,aU,aO,aR,aX,aS,cp];apply hK)
   refine aP (bL rfl (ck ?_))
   show da _ _ _ _
   ((refine bK [] [] (by simp) fun K hK=>?_);simp(disch:=omega) only[kc,aM,aU,aO,aR,aX,aN,ab,aS,cd];apply hK)
   refine⟨⟨i+1,by omega,fun a ha b hb=>?_⟩,by simp only;omega,aT ⟨?_,trivial⟩ ?_⟩
   ·by_cases h:a=i
    ·subst h;exact hh b (by omega)
    exact hg a (by omega) b hb
   ·show _::_=_::_
    rw[fz fun a b _ _=>Hq (vG M l) i a b]
   simp[di,b9,b8]
  have hin:i=n:=by omega
  subst hin
  have hr:=hyes ⟨hred,fun a ha b hb=>by
   by_cases h:b<=a
   ·exact hg a (by omega) b h
   have h1:=hg b (by omega) a (by omega)
   have hs:=Gm (i:=a) (j:=b) hred (hfit a (by omega)) (hfit b (by omega))
   exact⟨h1.y,h1.x,by rw[hs];exact h1.lo,by rw[hs];exact h1.hi⟩⟩
  (refine aL [] fun K hK=>?_;simp(disch:=omega) only[kc,aM,dx,Hm,aU,aO,aR,aX,aS,cp];apply hK)
  refine aP (bL rfl (ck ?_))
  show da _ _ _ _
  have e:gG 33 i i (zr (vG M l) i 0)=gG 33 i i (vG M l):=by
   show _::_=_::_
   rw[fz fun a b ha hb=>Hp ha hb]
  rw[e]
  rw[hr]
  (refine aL [] fun K hK=>?_;simp(disch:=omega) only[kc,aM,aa,aN,ab];apply hK)
  refine bC ⟨.inr rfl,Km (d:=33) rfl ?_⟩
  simp(disch:=omega) only[cH,Tryz.results48,eP,bH,ah,ag,Option.bind_some,dF,Option.map_some]
theorem Bt (k c:Nat) (F:Nat->Nat->Int) (b:Bool):qW ⟨gG 0 k c F,vF k b⟩:=by
 refine⟨rfl,fun o ho e he x hx=>?_⟩
 rcases List.mem_cons.1 ho with rfl|ho
 ·simp only[iX,List.mem_mapIdx]at he
  obtain⟨i,_,rfl⟩:=he
  simp at hx
  subst hx
  rfl
 obtain⟨r,_,rfl⟩:=List.mem_map.1 ho
 simp only[ke,lc,au]at he
 obtain⟨z,_,rfl⟩:=he
 simp[fI]at hx
 subst hx
 rfl
theorem Ea {ops:Array Oper} {m d k c:Nat} {F:Nat->Nat->Int} {b:Bool} {s:AS} (hd:cwD ops m=some d):JT ops m ⟨gG 0 k c F,vF k b⟩ s=AS.put ⟨s.tmps,bD s.H d (gG d k c F)⟩ (some d) (.tup [(false,[.sl d 0 0 k]),(false,[.p (.raw (.bool b))])]):=by
 unfold JT
 rw[hd]
 simp only[je]
 rfl
/-! The Gram matrix of short rows. -/
theorem Ai {n:Nat} {h S:Nat->Nat->Int} (hn1:1<=n) (hn:n<=4) (hr:iY h n) (hS: ∀a,a<n->GdR n h (S a)) {a b:Nat} (ha:a<n) (hb:b<n):
  vG (dC n n h) (dC n n S) a b=ia n h S a b:=by
 unfold vG
 rw[oR S ha,oR S hb]
 exact AZ hn1 (by omega) hr ((hS a ha).co hn1 hn hr) ((hS b hb).co hn1 hn hr)
theorem Hs {n:Nat} {h S:Nat->Nat->Int} (hn1:1<=n) (hn:n<=4) (hr:iY h n) (hS:InB2 n h 262144 S):Lr (dC n n h) (dC n n S):=by
 refine⟨qQ hn1 (by omega) hr,fun i hi j hj=>?_⟩
 rw[cT]at hi hj
 have g:=rS hr.pd hS hi hj 262144 (by decide)
 refine⟨?_,?_,?_,?_⟩
 ·rw[cT,oR S hi];exact lg ((show GdR n h (S i)from hS.nr i hi).co hn1 hn hr)
 ·rw[cT,oR S hj];exact lg ((show GdR n h (S j)from hS.nr j hj).co hn1 hn hr)
 ·rw[Ai hn1 hn hr hS.nr hi hj];omega
 rw[Ai hn1 hn hr hS.nr hi hj];omega
theorem Ey {n:Nat} {h S:Nat->Nat->Int} (hn1:1<=n) (hn:n<=4) (hr:iY h n) (hS:InB2 n h 262144 S):
  CallC Tryz.prog 48 [dx (dC n n h),dx (dC n n S)] ⟨gG 0 n n (ia n h S),vF n true⟩:=by
 have c:=Ig (dC n n h) (dC n n S) (by rw[cT];omega)
 rw[uf (Hs hn1 hn hr hS),cT]at c
 have e:gG 0 n n (vG (dC n n h) (dC n n S))=gG 0 n n (ia n h S):=by
  show _::_=_::_
  rw[fz fun a b ha hb=>Ai hn1 hn hr hS.nr ha hb]
 rwa[e]at c
/-! The sum of rows. -/
def sR (n:Nat) (c:Nat->Int) (S:Nat->Nat->Int) (r:Nat):Nat->Int:=fun j=>dK (fun a=>c a*S a j) r
def Dv (n:Nat) (c:Nat->Int) (S:Nat->Nat->Int) (r j:Nat):Nat->Int:=fun b=>if b<j then sR n c S (r+1) b else sR n c S r b
theorem FG {n:Nat} {c:Nat->Int} {S:Nat->Nat->Int} (hc: ∀j,-1<=c j/\c j<=1) (hS: ∀a,a<n-> ∀j,j<n-> -1099511627776<=S a j/\S a j<=1099511627776) (j:Nat) (hj:j<n):
  ∀r,r<=n-> -((r:Int)*1099511627776)<=sR n c S r j/\sR n c S r j<=(r:Int)*1099511627776
 |0,_=>by simp[sR,dK]
 |r+1,h=>by
  have ih:=FG hc hS j hj r (by omega)
  have h1:=hS r (by omega) j hj
  have h2:=hc r
  have e:sR n c S (r+1) j=sR n c S r j+c r*S r j:=rfl
  have h3:c r= -1\/c r=0\/c r=1:=by omega
  rw[e]
  have h4:((r+1:Nat):Int)*1099511627776=(r:Int)*1099511627776+1099511627776:=by omega
  rw[h4]
  rcases h3 with h3|h3|h3<;>rw[h3]<;>omega
theorem FI (n:Nat) (c:Nat->Int) (S:Nat->Nat->Int) (r:Nat):Dv n c S r 0=sR n c S r:=by
 funext b;unfold Dv;rw[if_neg (by omega)]
theorem Iy (n:Nat) (c:Nat->Int) (S:Nat->Nat->Int) (r:Nat):dz n (Dv n c S r n)=dz n (sR n c S (r+1)):=j5 fun b hb=>by unfold Dv;rw[if_pos hb]
theorem Ko (n:Nat) (c:Nat->Int) (S:Nat->Nat->Int) (r j:Nat):Dv n c S r j j=sR n c S r j:=by unfold Dv;rw[if_neg (by omega)]
theorem oQ (n j:Nat) (g:Nat->Int) (v:Int):(lc fI (dz n g)).set j [.p (.raw (.int .i64 v))]=lc fI (dz n (fun b=>if b=j then v else g b)):=by
 rw[<- po,<- vP];rfl
theorem FH (n:Nat) (c:Nat->Int) (S:Nat->Nat->Int) (r j:Nat):(fun b=>if b=j then sR n c S r j+c r*S r j else Dv n c S r j b)=Dv n c S r (j+1):=by
 funext b
 unfold Dv
 by_cases h:b=j
 ·subst h;rw[if_pos rfl,if_pos (by omega)];rfl
 by_cases h2:b<j
 ·rw[if_neg h,if_pos h2,if_pos (by omega)]
 rw[if_neg h,if_neg h2,if_neg (by omega)]
theorem LW (n:Nat) (c:Nat->Int) (S:Nat->Nat->Int):ke (dz n (sR n c S 0))=⟨2,1,aj n [.p (.raw (.int .i64 0))]⟩:=by
 have e:dz n (sR n c S 0)=aj n 0:=by
  apply List.ext_getElem?
  intro j
  by_cases hj:j<n
  ·rw[cu _ hj,List.getElem?_replicate,if_pos hj];rfl
  rw[aC (by rw[dj];omega),aC (by simp;omega)]
 rw[ke,e,lc,List.map_replicate];rfl
theorem Fw (n:Nat) (h S:Nat->Nat->Int) (i:Nat):j4 n h S i i=sR n (kT n (ia n h S) i (3^i)) S n:=by
 unfold j4;rw[if_pos rfl];rfl
def Ly (d n i:Nat) (S:Nat->Nat->Int) (X:Nat->Int):List OObj:=⟨27,1,(iX d (aj n n)).set i [.sl d (n+1) 0 n]⟩::((dC n n S).map ke++[ke (dz n X)])
theorem Ka {d n i:Nat} (S S':Nat->Nat->Int) (hi:i<n) (hS': ∀k,k≠i->S' k=S k) (r:Nat):
  (gG d n n S'++[ke (dz n (S i))])[r]?=((Ly d n i S (S' i))[sw (i+1) (n+1) r]?).map (tb d (i+1) (n+1)):=by
 have hO: ∀l:List Int,tb d (i+1) (n+1) (ke l)=ke l:=fun l=>by
  simp only[tb,ke,lc,List.map_map]
  congr 1
 have hlen:((dC n n S).map ke).length=n:=by rw[aF,cT]
 cases r with
 |zero=>
  rw[show sw (i+1) (n+1) 0=0 by simp[sw]]
  unfold Ly
  simp only[List.cons_append,ag,Option.map_some,tb]
  congr 2
  apply List.ext_getElem?
  intro k
  rw[aH,List.getElem?_set,dT,aG]
  by_cases hk:k<n
  ·rw[d5 d n hk]
   by_cases h1:i=k
   ·subst h1
    have hin: ¬n=i:=by omega
    simp[hi,hin,kV,oy,sw]
   have h1': ¬k=i:=fun e=>h1 e.symm
   have h2: ¬k=n:=by omega
   simp[h1,h1',h2,kV,oy,sw]
  rw[if_neg (by omega),aC (by rw[dT,aG];omega)];rfl
 |succ r=>
  have hsw:sw (i+1) (n+1) (r+1)=sw i n r+1:=by
   unfold sw
   by_cases h1:r=i
   ·simp[h1]
   by_cases h2:r=n
   ·simp[h2,show ¬n=i by omega]
   simp[h1,h2]
  rw[hsw]
  unfold Ly
  rw[List.cons_append,ah,ah]
  by_cases h1:r=i
  ·subst h1
   rw[show sw r n r=n by simp[sw],aA (by rw[aF,cT];exact hi),List.getElem?_append_right (by rw[hlen];omega),hlen,Nat.sub_self]
   rw[aH,dm _ _ hi]
   simp[hO]
  by_cases h2:r=n
  ·subst h2
   rw[show sw i r r=i by simp[sw,h1],List.getElem?_append_right (by rw[aF,cT];omega),aA (by rw[hlen];exact hi),aF,cT,Nat.sub_self]
   rw[aH,dm _ _ hi]
   simp[hO]
  rw[show sw i n r=r by simp[sw,h1,h2]]
  by_cases hr:r<n
  ·rw[aA (by rw[aF,cT];exact hr),aA (by rw[hlen];exact hr),aH,aH,dm _ _ hr,dm _ _ hr,hS' r h1]
   simp[hO]
  rw[aC (by simp[cT];omega),aC (by simp[cT];omega)];rfl
theorem CQ (d n c:Nat) (f:Nat->Nat->Int): ∀q∈gG d n c f,∀e∈q.elems,∀x∈e,vk (gG d n c f).length x:=fun q hq e he x hx=>by
 have hl:(gG d n c f).length=n+1:=by simp[cT]
 rw[hl]
 simp only[List.mem_cons,au]at hq
 rcases hq with rfl|⟨r,_,rfl⟩
 ·obtain⟨k,hk⟩:=List.mem_iff_getElem?.1 he
  have hkn:k<n:=by
   have:=(List.getElem?_eq_some_iff.1 hk).1
   simpa[dT] using this
  simp only at hk
  rw[d5 d c hkn]at hk
  injection hk with hk
  subst hk
  simp at hx
  subst hx
  show k+1<n+1
  omega
 simp only[ke,lc,au]at he
 obtain⟨z,_,rfl⟩:=he
 simp[fI]at hx
 subst hx
 trivial
structure LK (n:Nat) (h R:Nat->Nat->Int) where
 B:Nat->Nat->Int
 rch:RchB n h B R
 inb:InB2 n h 262144 B
theorem zB (n:Nat) (h R:Nat->Nat->Int) (hn1:1<=n) (hn:n<=4) (hr:iY h n) (hR:RchB n h tw R):
  CallG Tryz.prog 0 138 46 [dx (dC n n h)] jW ⟨gG 0 n n R,.one (.sl 0 0 0 n)⟩:=by
 have hml:=cT n n h
 refine iP Tryz.func46 rfl (by kernel_rfl) ?_;rw[Tryz.ntmps46]
 (refine bX [] [] (by simp) fun K hK=>?_;simp(disch:=omega) only[kc,aM,dx,aj,dP,bU,bI,cellsOf,isPure,cQ,aN,ab];apply hK)
 refine f6.weak ((oC 1 1 (cs:=jD (dC n n h)) rfl rfl).trans (aT (tm:=[jk,.one (.p (.ptr (jD (dC n n h)))),jk,jk,jk,jk,jk,jk,jk,jk,jk,jk,jk,jk,jk,jk,jk,jk,jk,jk,jk,jk,jk,jk,jk,jk,jk,jk,jk,jk,jk,jk,jk,jk,jk,jk,jk,jk,jk,jk,jk,jk,jk,jk,jk,jk,jk,jk,jk,jk,jk,jk,jk,jk,jk,jk,jk,jk,jk,jk,jk,jk,jk,jk,jk,jk,jk,jk,jk,jk,jk,jk,jk,jk,jk,jk,jk,jk,jk,jk,jk,jk,jk,jk,jk,jk,jk,jk]) (l:=[]) trivial (by simp[di,b9,b8,gT,gh]))) ?_
 (refine bX [] [] (by simp) fun K hK=>?_;simp(disch:=omega) only[kc,aM,aa,Hm,aZ,packT,kD,jv,be,bv,bE,hml,cY,bU,bI,jP,db,qZ,ax,ab,and_true,cQ];apply hK)
 (refine cP (bX [] [] (by simp) fun K hK=>?_);simp(disch:=omega) only[kc,aM,aa,be,aZ,bv,aN,ab];apply hK)
 refine f9 (G:=ov n) (fun g=>⟨[jk,.one (.p (.ptr (jD (dC n n h)))),jk,.one (.sl 17 0 0 n),jk,jk,jk,jk,jk,jk,jk,jk,jk,jk,jk,jk,jk,jk,jk,.raw (.int .i64 (n:Int)),.raw (.int .i64 (g.i:Int)),jk,jk,jk,jk,jk,jk,jk,jk,jk,jk,jk,jk,jk,jk,jk,jk,jk,jk,jk,jk,jk,jk,jk,jk,jk,jk,jk,jk,jk,jk,jk,jk,jk,jk,jk,jk,jk,jk,jk,jk,jk,jk,jk,jk,jk,jk,jk,jk,jk,jk,jk,jk,jk,jk,jk,jk,jk,jk,jk,jk,jk,jk,jk,jk,jk,jk,jk],Hm [(17,kI 17 n n g.i (C5 g.i))]⟩) (fun _=>jW) (fun g=>n-g.i) ⟨0,by omega⟩ ?_ rfl ?_
 ·refine aT ⟨?_,trivial⟩ ?_
  ·show[_]=_
   simp[kI,iX,dC]
  simp[di,b9,b8]
 rintro⟨i,hi⟩
 simp only
 by_cases hm:i<n
 ·have k1:=zw (i:=i) (n:=n) 17 n hm
  have k2:=vM (i:=i) (n:=n) 17 n hi
  have k3:=cT i n (C5 i)
  have k4:=vN (i:=i) (n:=n) (c:=n) 17 (C5 i) hm (fun j hj=>by unfold C5;rw[if_neg (by omega)])
  have k5:=J3 (i:=i+1) (k:=i) (n:=n) 17 n (by omega)
  have k6:=vM (i:=i+1) (n:=n) 17 n (by omega)
  have k7:=fo (n:=i+1) n (C5 i) (i:=i) (by omega)
  have k8:=cu (C5 i i) hm
  (refine bX [] [] (by simp) fun K hK=>?_;simp(disch:=omega) only[kc,aM,Hm,aU,aO,aR,aX,aS,cw];apply hK)
  refine cP (fv rfl (d7 ?_))
  refine cP (eh ?_)
  (refine bX [] [] (by simp) fun K hK=>?_;simp(disch:=omega) only[kc,aM];apply hK)
  (refine bX [] [] (by simp) fun K hK=>?_;simp(disch:=omega) only[kc,aM,aa,aZ,packT,kD,jv,be,bv,bE,hml,cY,bU,bI,ca,iT,dJ,ou,ax,ab,and_true,cQ,af,aQ,aW,bD,db,bo,ew,cU,k1,bu,d4,ap,aG,List.all_replicate,isPure,aF,k3,k4,bz,bx,ak];apply hK)
  refine f6.weak (aT (tm:=[jk,.one (.p (.ptr (jD (dC n n h)))),jk,.one (.sl 17 0 0 n),.raw (.int .i64 (i:Int)),jk,jk,jk,jk,jk,jk,jk,jk,jk,jk,jk,jk,jk,jk,.raw (.int .i64 (n:Int)),.raw (.int .i64 (i:Int)),jk,jk,jk,jk,jk,jk,jk,jk,jk,jk,jk,jk,jk,jk,jk,jk,jk,jk,jk,jk,jk,jk,jk,jk,jk,jk,jk,jk,jk,jk,jk,jk,jk,jk,jk,jk,jk,jk,jk,jk,jk,jk,jk,jk,jk,jk,jk,jk,jk,jk,jk,jk,jk,jk,jk,jk,jk,jk,jk,jk,jk,jk,jk,jk,jk,jk,jk]) (l:=[(17,kI 17 n n (i+1) (C5 i))]) ⟨?_,trivial⟩ (by simp[di,b9,b8])) ?_
  ·first|exact k4|rfl
  ((refine eu [] [] (by simp) fun K hK=>?_);simp(disch:=omega) only[kc,aM,aa,Hm,aQ,aZ,aW,bv,db,cQ,k5,packT,dc,ca,k7,dJ,bo,ew,cU,dp,fI,k8,aN,ab,cellsOf,ai,isPure,bu,jq,bz,bx];apply hK)
  show f6 _ _ _ _ _ _ _
  ((refine eu [] [] (by simp) fun K hK=>?_);simp(disch:=omega) only[kc,aM,aU,aO,aR,aX,aN,ab,aS,cd];apply hK)
  refine⟨⟨i+1,by omega⟩,by simp only;omega,aT ⟨?_,trivial⟩ ?_,rfl⟩
  ·show _::_=_::_
   rw[fz fun x y _ _=>Fo i x y]
  simp[di,b9,b8]
 have hin:i=n:=by omega
 subst hin
 (refine bX [] [] (by simp) fun K hK=>?_;simp(disch:=omega) only[kc,aM,Hm,aU,aO,aR,aX,aS,cp];apply hK)
 refine cP (fK rfl (gB ?_))
 show f6 _ _ _ _ _ _ _
 have e:kI 17 i i i (C5 i)=gG 17 i i tw:=by
  rw[vL]
  show _::_=_::_
  rw[fz fun x y hx _=>Ii x y hx]
 rw[e]
 obtain⟨n,hni⟩: ∃n,n=i:=⟨_,rfl⟩
 subst hni
 clear e hm hi
 refine f9 (G:=LK n h R) (fun g=>⟨[jk,.one (.p (.ptr (jD (dC n n h)))),jk,.one (.sl 17 0 0 n),jk,jk,jk,jk,jk,jk,jk,jk,jk,jk,jk,jk,jk,jk,jk,jk,jk,jk,jk,jk,jk,jk,jk,jk,jk,jk,jk,jk,jk,jk,jk,jk,jk,jk,jk,jk,jk,jk,jk,jk,jk,jk,jk,jk,jk,jk,jk,jk,jk,jk,jk,jk,jk,jk,jk,jk,jk,jk,jk,jk,jk,jk,jk,jk,jk,jk,jk,jk,jk,jk,jk,jk,jk,jk,jk,jk,jk,jk,jk,jk,jk,jk,jk,jk],Hm [(17,gG 17 n n g.B)]⟩) (fun _=>jW) (fun g=>(yE (nrm n h) g.B n).toNat) ⟨tw,hR,InB2.one hn1 (by omega) hr⟩ ?_ rfl ?_
 ·refine aT ⟨rfl,trivial⟩ ?_
  simp[di,b9,b8]
 rintro⟨B,rch,inb⟩
 simp only
 refine eh ?_
 -- the rows in order
 have hS:=inb.ord
 have cM:=wt n h B hn1 hn hr inb.nr
 rw[show lF (nrm n h) B n=mN n h B from rfl]at cM
 have hso:yE (nrm n h) (mN n h B) n=yE (nrm n h) B n:=sX _ _ n (ai n)
 have hnx: ∀i,tG n (ia n h (mN n h B))=some i->RchB n h (j4 n h (mN n h B) i) R:=fun i hv=>by
  cases rch with
  |done B hv'=>rw[hv]at hv';cases hv'
  |step B R j hv' hk=>rw[hv]at hv';cases hv';exact hk
 have hdn:tG n (ia n h (mN n h B))=none->R=mN n h B:=fun hv=>by
  cases rch with
  |done B hv'=>rfl
  |step B R j hv' hk=>rw[hv]at hv';cases hv'
 have hnn: ∀B',0<=yE (nrm n h) B' n:=fun B'=>mi n fun a _=>(hr.pd.pos (B' a)).1
 generalize mN n h B=S at*
 have c1:=Ey hn1 hn hr hS
 have cV:=qu n (ia n h S) hn1 hn fun i j hi hj=>by
  have:=rS hr.pd hS hi hj 262144 (by decide)
  omega
 refine cP (nQ (DF (k:=0) (by simp) (rk 2 cM 17 [] [] (by kernel_rfl) (by simp) hn1 rfl (lj _ _ _) (lj _ _ _) (by decide) (by simp) (by decide) fun K hK=>?_)))
 simp(disch:=omega) only[kc,aM,Hm,jF,aZ,List.isEmpty_toArray,bO,km]
 apply hK
 clear hK K
 refine⟨⟨rfl,(je 0 17 _ _ _).symm⟩,by simp,?_⟩
 intro K hK
 simp(disch:=omega) only[kc,aa,G5,cwD,bz,bx,kM,Bool.true_and,renO]
 apply hK
 clear hK K
 show f6 _ _ _ _ _ _ _
 refine f6.weak (aT (tm:=[jk,.one (.p (.ptr (jD (dC n n h)))),jk,.one (.sl 17 0 0 n),jk,jk,jk,jk,jk,jk,jk,jk,jk,jk,jk,jk,jk,jk,jk,jk,jk,jk,jk,jk,jk,jk,jk,jk,jk,jk,jk,jk,jk,jk,jk,jk,jk,jk,jk,jk,jk,jk,jk,jk,jk,jk,jk,jk,jk,jk,jk,jk,jk,jk,jk,jk,jk,jk,jk,jk,jk,jk,jk,jk,jk,jk,jk,jk,jk,jk,jk,jk,jk,jk,jk,jk,jk,jk,jk,jk,jk,jk,jk,jk,jk,jk,jk,jk]) (l:=[(17,gG 17 n n S)]) ⟨je 0 17 n n _,trivial⟩ (by simp[di,b9,b8])) ?_
 -- the Gram matrix
 refine cP (nQ (rg 2 c1 (Bt _ _ _ _) [] [] (by simp) (by decide) fun K hK=>?_))
 simp(disch:=omega) only[kc,aM,Hm,aZ,packT,kD,jv]
 apply hK
 clear hK K
 refine⟨⟨⟨_,rfl,.inl ⟨rfl,rfl⟩,.inr ⟨17,0,0,n,rfl,lh (d:=17) (n:=n) (c:=n) (f:=S) rfl,Cx (d:=17) (n:=n) (c:=n) (f:=S) rfl⟩,trivial⟩,⟨42,rfl,fun _=>rfl⟩⟩,by simp,?_⟩
 intro K hK
 rw[Ea (d:=42) rfl]
 simp(disch:=omega) only[kc,aa,aM,cK,aU]
 apply hK
 clear hK K
 show f6 _ _ _ _ _ _ _
 refine f6.weak (aT (tm:=[jk,.one (.p (.ptr (jD (dC n n h)))),jk,.one (.sl 17 0 0 n),jk,.one (.sl 42 0 0 n),jk,jk,jk,jk,jk,jk,jk,jk,jk,jk,jk,jk,jk,jk,jk,jk,jk,jk,jk,jk,jk,jk,jk,jk,jk,jk,jk,jk,jk,jk,jk,jk,jk,jk,jk,jk,jk,jk,jk,jk,jk,jk,jk,jk,jk,jk,jk,jk,jk,jk,jk,jk,jk,jk,jk,jk,jk,jk,jk,jk,jk,jk,jk,jk,jk,jk,jk,jk,jk,jk,jk,jk,jk,jk,jk,jk,jk,jk,jk,jk,jk,jk]) (l:=[(17,gG 17 n n S),(42,gG 42 n n (ia n h S))]) ⟨rfl,rfl,trivial⟩ (by simp[di,b9,b8])) ?_
 refine f6.weak ((fp 42 (lh (d:=42) (n:=n) (c:=n) (f:=ia n h S) rfl)).trans (aT (tm:=[jk,.one (.p (.ptr (jD (dC n n h)))),jk,.one (.sl 17 0 0 n),jk,dx (dC n n (ia n h S)),jk,jk,jk,jk,jk,jk,jk,jk,jk,jk,jk,jk,jk,jk,jk,jk,jk,jk,jk,jk,jk,jk,jk,jk,jk,jk,jk,jk,jk,jk,jk,jk,jk,jk,jk,jk,jk,jk,jk,jk,jk,jk,jk,jk,jk,jk,jk,jk,jk,jk,jk,jk,jk,jk,jk,jk,jk,jk,jk,jk,jk,jk,jk,jk,jk,jk,jk,jk,jk,jk,jk,jk,jk,jk,jk,jk,jk,jk,jk,jk,jk,jk]) (l:=[(17,gG 17 n n S)]) ⟨rfl,trivial⟩ (by
  simp[di,b9,b8]
  (repeat' apply And.intro)<;>first|rfl|exact(Cx (H:=Hm [(17,gG 17 n n S),(42,gG 42 n n (ia n h S))]) (d:=42) (n:=n) (c:=n) (f:=ia n h S) rfl).symm))) ?_
 cases hv:tG n (ia n h S)with
 |none=>
  have eT:qj n (ia n h S)= .tup [(false,[.p (.raw (.int .i64 0))]),(true,a4 fun _=>0),(false,[.p (.raw (.bool false))])]:=by unfold qj;rw[hv]
  rw[eT]at cV
  rw[hdn hv]
  (refine gp [⟨1,_,_,_,cV,rfl⟩] [] [] (by simp) fun K hK=>?_;simp(disch:=omega) only[kc,dx,io.a,aM,aa,Hm,aY,bU,bI,ac,bO,cq,ae,bV,bW,Bool.true_and,bs,noRefTV,bf,kZ,bQ,bM,pD,cK,aU,cy,fJ,ab,cQ,af,bo,ew,cU,fF,bD,cellsOf,fL,ai,ic,bu,bz,bx];apply hK)
  (refine cP (bX [] [] (by simp) fun K hK=>?_);simp(disch:=omega) only[kc,aM,dM,aU,fD,an];apply hK)
  refine fv rfl ?_
  (refine bX [] [] (by simp) fun K hK=>?_;simp(disch:=omega) only[kc,aM];apply hK)
  refine ib ⟨.inr rfl,rfl,_,eg.refl _,?_⟩
  refine⟨.one (.sl 17 0 0 n),17,?_,rfl,?_,rfl⟩
  ·simp(disch:=omega) only[cH,Tryz.results46,bH,ah,ag]
  exact(je 17 0 _ _ _).symm
 |some i=>
  obtain⟨_,hi1,hi2,_⟩:=jR n 0 i hv
  have hi:i<n:=by omega
  have hi4:i<4:=by omega
  have eT:qj n (ia n h S)= .tup [(false,[.p (.raw (.int .i64 (i:Int)))]),(true,a4 (kT n (ia n h S) i (3^i))),(false,[.p (.raw (.bool true))])]:=by unfold qj;rw[hv]
  rw[eT]at cV
  have hc:=(sU n (ia n h S) i (3^i)).2.2
  have hrow:=Fw n h S i
  have hsum:=x4 hi hi2
  have hin2:=hS.rep hi hi2
  have hnext:=hnx i hv
  have hSb: ∀a,a<n-> ∀j,j<n-> -1099511627776<=S a j/\S a j<=1099511627776:=fun a ha=>(show GdR n h (S a)from hS.nr a ha).co hn1 hn hr
  have hoth: ∀k,k≠i->j4 n h S i k=S k:=fun k hk=>by unfold j4;rw[if_neg hk]
  generalize kT n (ia n h S) i (3^i)=c at*
  (refine gp [⟨1,_,_,_,cV,rfl⟩] [] [] (by simp) fun K hK=>?_;simp(disch:=omega) only[kc,dx,io.a,aM,aa,Hm,aY,bU,bI,ac,bO,cq,ae,bV,bW,Bool.true_and,bs,noRefTV,bf,kZ,bQ,bM,pD,cK,aU,cy,fJ,ab,cQ,af,bo,ew,cU,fF,bD,cellsOf,fL,ai,ic,bu,bz,bx];apply hK)
  (refine cP (bX [] [] (by simp) fun K hK=>?_);simp(disch:=omega) only[kc,aM,dM,aU,fD];apply hK)
  refine fK rfl (d7 ?_)
  show f6 _ _ _ _ _ _ _
  (refine bX [] [] (by simp) fun K hK=>?_;simp(disch:=omega) only[kc,aM,aa,aZ,packT,kD,jv,be,bv,bE,hml,cY,bU,bI,ca,iT,dJ,ou,ax,ab,and_true,cQ,bD,af,d4];apply hK)
  refine f6.weak (aT (tm:=[jk,.one (.p (.ptr (jD (dC n n h)))),jk,.one (.sl 17 0 0 n),jk,jk,jk,.raw (.int .i64 (i:Int)),.one (.ptr 8 0 0 0),jk,.one (.sl 56 0 0 n),jk,jk,jk,jk,jk,jk,jk,jk,jk,jk,jk,jk,jk,jk,jk,jk,jk,jk,jk,jk,jk,jk,jk,jk,jk,jk,jk,jk,jk,jk,jk,jk,jk,jk,jk,jk,jk,jk,jk,jk,jk,jk,jk,jk,jk,jk,jk,jk,jk,jk,jk,jk,jk,jk,jk,jk,jk,jk,jk,jk,jk,jk,jk,jk,jk,jk,jk,jk,jk,jk,jk,jk,jk,jk,jk,jk,jk]) (l:=[(17,gG 17 n n S),(8,yD c),(56,[ke (dz n (sR n c S 0))])]) ⟨rfl,rfl,?_,trivial⟩ (by simp[di,b9,b8])) ?_
  ·rw[LW];rfl
  (refine cP (bX [] [] (by simp) fun K hK=>?_);simp(disch:=omega) only[kc,aM,aa,Hm,be,aZ,bv,aN,ab];apply hK)
  refine f9 (G:=ov n) (fun g=>⟨[jk,.one (.p (.ptr (jD (dC n n h)))),jk,.one (.sl 17 0 0 n),jk,jk,jk,.raw (.int .i64 (i:Int)),.one (.ptr 8 0 0 0),jk,.one (.sl 56 0 0 n),jk,jk,jk,jk,jk,jk,jk,jk,jk,jk,jk,jk,jk,jk,jk,jk,jk,jk,jk,jk,jk,jk,jk,jk,jk,jk,jk,jk,jk,jk,jk,jk,jk,jk,jk,jk,jk,jk,jk,jk,jk,jk,jk,jk,jk,jk,.one (.sl 17 0 0 n),.raw (.int .i64 (n:Int)),.raw (.int .i64 (g.i:Int)),jk,jk,jk,jk,jk,jk,jk,jk,jk,jk,jk,jk,jk,jk,jk,jk,jk,jk,jk,jk,jk,jk,jk,jk,jk,jk,jk,jk],Hm [(17,gG 17 n n S),(8,yD c),(56,[ke (dz n (sR n c S g.i))])]⟩) (fun _=>jW) (fun g=>n-g.i) ⟨0,by omega⟩ ?_ rfl ?_
  ·refine aT ⟨rfl,rfl,rfl,trivial⟩ ?_
   simp[di,b9,b8]
  rintro⟨r,hr'⟩
  simp only
  by_cases hm:r<n
  ·have g1:=d5 (n:=n) (i:=r) 17 n hm
   have r1:=fo n S (i:=r) hm
   have hr4:r<4:=by omega
   (refine bX [] [] (by simp) fun K hK=>?_;simp(disch:=omega) only[kc,aM,Hm,aU,aO,aR,aX,aS,cw];apply hK)
   refine cP (fv rfl (d7 ?_))
   refine cP (eh ?_)
   (refine bX [] [] (by simp) fun K hK=>?_;simp(disch:=omega) only[kc,aM,aa,aQ,aZ,aW,bv,af,d4,db,cQ,g1,packT,dc];apply hK)
   (refine bX [] [] (by simp) fun K hK=>?_;simp(disch:=omega) only[kc,aM,aa,be,aZ,ca,aN,ab];apply hK)
   refine f9 (G:=ov n) (fun g=>⟨[jk,.one (.p (.ptr (jD (dC n n h)))),jk,.one (.sl 17 0 0 n),jk,jk,jk,.raw (.int .i64 (i:Int)),.one (.ptr 8 0 0 0),jk,.one (.sl 56 0 0 n),.raw (.int .i64 (r:Int)),jk,jk,jk,jk,jk,jk,jk,jk,jk,jk,jk,jk,jk,jk,jk,jk,jk,jk,jk,jk,jk,jk,jk,jk,jk,jk,jk,jk,jk,jk,jk,jk,jk,jk,jk,jk,jk,jk,jk,jk,jk,jk,jk,jk,jk,.one (.sl 17 0 0 n),.raw (.int .i64 (n:Int)),.raw (.int .i64 (r:Int)),jk,jk,jk,jk,.one (.sl 17 (r+1) 0 n),.raw (.int .i64 (n:Int)),.raw (.int .i64 (g.i:Int)),jk,jk,jk,jk,jk,jk,jk,jk,jk,jk,jk,jk,jk,jk,jk,jk,jk,jk,jk,jk,jk],Hm [(17,gG 17 n n S),(8,yD c),(56,[ke (dz n (Dv n c S r g.i))])]⟩) (fun _=>jW) (fun g=>n-g.i) ⟨0,by omega⟩ ?_ rfl ?_
   ·refine aT ⟨rfl,rfl,?_,trivial⟩ ?_
    ·simp only[FI];rfl
    simp[di,b9,b8]
   rintro⟨j,hj⟩
   simp only
   by_cases hjn:j<n
   ·have q1:=cu (S r) hjn
    have q2:=cu (Dv n c S r j) hjn
    rw[Ko]at q2
    have d1:=u9 c hr4
    have b1:=FG hc hSb j hjn r (by omega)
    have b2:=FG hc hSb j hjn (r+1) (by omega)
    have b3:=hSb r hm j hjn
    have b4:c r*S r j= -(S r j)\/c r*S r j=0\/c r*S r j=S r j:=by
     have:=hc r
     have h3:c r= -1\/c r=0\/c r=1:=by omega
     rcases h3 with h3|h3|h3<;>rw[h3]<;>omega
    have e0:sR n c S (r+1) j=sR n c S r j+c r*S r j:=rfl
    have e1:IntKind.i64.wrap (c r*S r j)=c r*S r j:=cd (by omega) (by omega)
    have e2:IntKind.i64.wrap (sR n c S r j+c r*S r j)=sR n c S r j+c r*S r j:=cd (by omega) (by omega)
    have e3:=oQ n j (Dv n c S r j) (sR n c S r j+c r*S r j)
    rw[FH]at e3
    (refine bX [] [] (by simp) fun K hK=>?_;simp(disch:=omega) only[kc,aM,Hm,aU,aO,aR,aX,aS,cw];apply hK)
    refine cP (fv rfl (d7 ?_))
    refine cP (eh ?_)
    (refine bX [] [] (by simp) fun K hK=>?_;simp(disch:=omega) only[kc,aM,aa,aQ,aZ,aW,ca,af,d4,r1,dJ,cQ,dp,fI,q1,packT,et];apply hK)
    ((refine i4 cJ [] [] (by kernel_rfl) (by simp) fun K hK=>?_);simp(disch:=omega) only[kc,aM,aa,ke,aQ,aZ,aW,ca,af,d4,dJ,cQ,dp,fI,q2,packT,et,jw,lH,hr4,d1,aU,aO,aR,aX,aS,e1,e2,bo,ew,cU,cellsOf,ai,isPure,bu,e3,bz,bx];apply hK)
    show f6 _ _ _ _ _ _ _
    ((refine eu [] [] (by simp) fun K hK=>?_);simp(disch:=omega) only[kc,aM,aU,aO,aR,aX,aN,ab,aS,cd];apply hK)
    refine⟨⟨j+1,by omega⟩,by simp only;omega,aT ⟨rfl,rfl,?_,trivial⟩ ?_,rfl⟩
    ·first|rfl|simp[ke]
    simp[di,b9,b8]
   have hjn:j=n:=by omega
   subst hjn
   (refine bX [] [] (by simp) fun K hK=>?_;simp(disch:=omega) only[kc,aM,Hm,aU,aO,aR,aX,aS,cp];apply hK)
   refine cP (fK rfl (gB ?_))
   show f6 _ _ _ _ _ _ _
   ((refine eu [] [] (by simp) fun K hK=>?_);simp(disch:=omega) only[kc,aM,aU,aO,aR,aX,aN,ab,aS,cd];apply hK)
   refine⟨⟨r+1,by omega⟩,by simp only;omega,aT ⟨rfl,rfl,?_,trivial⟩ ?_,rfl⟩
   ·simp only[Iy];rfl
   simp[di,b9,b8]
  have hrn:r=n:=by omega
  subst hrn
  have g1:=d5 (n:=r) (i:=i) 17 r hi
  have hjx:=Ka (d:=17) S (j4 r h S i) hi hoth
  rw[hrow]at hjx
  (refine bX [] [] (by simp) fun K hK=>?_;simp(disch:=omega) only[kc,aM,Hm,aU,aO,aR,aX,aS,cp];apply hK)
  refine cP (fK rfl (gB ?_))
  show f6 _ _ _ _ _ _ _
  ((refine eu [] [] (by simp) fun K hK=>?_);simp(disch:=omega) only[kc,aM,aa,ke,aQ,aZ,aW,bv,af,d4,db,cQ,bo,ew,cU,g1,bu,ap,gE,dj,eW,and_true,aF,cT,bz,bx,ak];apply hK)
  refine⟨⟨j4 r h S i,hnext,hin2⟩,by have:=hnn (j4 r h S i);have:=hnn B;simp only;omega,?_,rfl⟩
  refine(aT (tm:=[jk,.one (.p (.ptr (jD (dC r r h)))),jk,.one (.sl 17 0 0 r),jk,jk,jk,jk,jk,jk,jk,jk,jk,jk,jk,jk,jk,jk,jk,jk,jk,jk,jk,jk,jk,jk,jk,jk,jk,jk,jk,jk,jk,jk,jk,jk,jk,jk,jk,jk,jk,jk,jk,jk,jk,jk,jk,jk,jk,jk,jk,jk,jk,jk,jk,jk,jk,jk,jk,jk,jk,jk,jk,jk,jk,jk,jk,jk,jk,jk,jk,jk,jk,jk,jk,jk,jk,jk,jk,jk,jk,jk,jk,jk,jk,jk,jk,jk]) (l:=[(17,Ly 17 r i S (sR r c S r))]) ⟨?_,trivial⟩ (by simp[di,b9,b8])).trans ?_
  ·rfl
  refine(u6 17 (i+1) (r+1) (gG 17 r r (j4 r h S i)++[ke (dz r (S i))]) hjx).trans ?_
  refine(B0 17 (F:=gG 17 r r (j4 r h S i)) rfl (CQ _ _ _ _)).trans ?_
  refine aT ⟨rfl,trivial⟩ ?_
  simp[di,b9,b8,F8,kV,oy,sw,bz,bx,cT]
section
variable {n:Nat}
def Gw (n:Nat) (a:Nat->Nat->Int) (i:Nat):Nat->Nat->Option Nat
 |0,_=>none
 |m+1,c=>if nrm n a (cnd i c)<a i i then some c else Gw n a i m (c+1)
def mF (n:Nat) (a:Nat->Nat->Int) (i:Nat):Option Nat:=Gw n a i (3^i) 0
theorem rN {a:Nat->Nat->Int} {i:Nat}: ∀m c r,Gw n a i m c=some r->c<=r/\r<c+m/\nrm n a (cnd i r)<a i i
 |0,_,_,h=>by cases h
 |m+1,c,r,h=>by
  rw[Gw]at h
  split at h
  ·rename_i hl
   injection h with h
   subst h
   exact⟨ai _,by omega,hl⟩
  obtain⟨h1,h2,h3⟩:=rN m (c+1) r h
  exact⟨by omega,by omega,h3⟩
theorem xl {a:Nat->Nat->Int} {i:Nat}: ∀m c,Gw n a i m c=none-> ∀r,c<=r->r<c+m-> ¬nrm n a (cnd i r)<a i i
 |0,_,_=>fun r h1 h2=>by omega
 |m+1,c,h=>by
  rw[Gw]at h
  split at h
  ·cases h
  rename_i hl
  intro r h1 h2
  by_cases e:r=c
  ·subst e;exact hl
  exact xl m (c+1) h r (by omega) (by omega)
theorem qr {a:Nat->Nat->Int} {i:Nat} (h:mF n a i=none): ¬VioP n a i:=fun⟨c,h1,h2⟩=>xl _ _ h c (by omega) (by omega) h2
inductive I4 where
 |swp (i:Nat)
 |rep (i c:Nat)
 |neg (i:Nat)
def Bv (n:Nat) (a:Nat->Nat->Int):Nat->Nat->Option I4
 |0,_=>none
 |m+1,i=>if 0<i/\a i i<a (i-1) (i-1)then some (.swp i)else match mF n a i with
  |some c=>some (.rep i c)
  |none=>if 0<i/\a (i-1) i<0 then some (.neg i)else Bv n a m (i+1)
def Jg (n:Nat) (t:Nat->Nat->Int):I4->Nat->Nat->Int
 | .swp i=>fun r c=>if c=i then t r (i-1)else if c=i-1 then t r i else t r c
 | .rep i c=>fb t i (mV n t (cnd i c))
 | .neg i=>fb t i (fun r=> - t r i)
def I4.i:I4->Nat
 | .swp i=>i
 | .rep i _=>i
 | .neg i=>i
/-! What the operations do to the Gram matrix. -/
theorem qY {F G:Nat->Int} {i:Nat}: ∀{m},i<m->(∀a,a<m->a≠i->F a=G a)->dK G m=dK F m+(G i-F i)
 |m+1,hi,h=>by
  rw[dK,dK]
  by_cases e:i=m
  ·subst e
   rw[bZ i (F:=G) (G:=F) fun p hp=>(h p (by omega) (by omega)).symm];omega
  rw[qY (m:=m) (by omega) (fun a ha hne=>h a (by omega) hne),h m (by omega) (Ne.symm e)];omega
theorem uZ (h:Nat->Nat->Int) (x y:Nat->Int):BF n h x (fun r=> - y r)= - BF n h x y:=by
 have h1:=iE (n:=n) h x y y (-2)
 have e:(fun i=>y i+ -2*y i)=fun r=> - y r:=by funext i;omega
 rw[e]at h1;rw[h1];omega
theorem qH (h:Nat->Nat->Int) (x y:Nat->Int):BF n h (fun r=> - x r) y= - BF n h x y:=by
 have h1:=jc (n:=n) h x x y (-2)
 have e:(fun i=>x i+ -2*x i)=fun r=> - x r:=by funext i;omega
 rw[e]at h1;rw[h1];omega
end
abbrev LV (G T:List (List Int)) (e:Int):TV:= .tup [(false,[.p (.sl (ls (fR fI) G))]),(false,[.p (.sl (ls (fR fI) T))]),(false,[.p (.raw (.int .i64 e))])]
def qB (g R:Nat->Nat->Int) (m:Nat):Nat->Nat->Int:=fun a b=>if a<m then mc g a*R a b else R a b
def Dw (g R:Nat->Nat->Int) (m j:Nat):Nat->Nat->Int:=fun a b=>if a=m/\b<j then 0-R m b else qB g R m a b
theorem zY {g R:Nat->Nat->Int} {m a:Nat} (h:a<m):qB g R m a=wA g R a:=by
 funext b;unfold qB;rw[if_pos h];rfl
theorem FR {g R:Nat->Nat->Int} {m a:Nat} (h: ¬a<m):qB g R m a=R a:=by
 funext b;unfold qB;rw[if_neg h]
theorem FQ (g R:Nat->Nat->Int) (m:Nat):Dw g R m 0=qB g R m:=by
 funext a b;unfold Dw;rw[if_neg (by omega)]
theorem Kr (g R:Nat->Nat->Int) (m j:Nat):Dw g R m j m j=R m j:=by
 unfold Dw qB;rw[if_neg (by omega),if_neg (by omega)]
theorem FP (g R:Nat->Nat->Int) (m j a b:Nat):upd (Dw g R m j) m j (0-R m j) a b=Dw g R m (j+1) a b:=by
 unfold upd Dw
 by_cases h1:a=m
 ·subst h1
  by_cases h2:b=j
  ·subst h2;simp
  by_cases h3:b<j
  ·simp[h2,h3,show b<j+1 by omega]
  simp[h2,h3,show ¬b<j+1 by omega]
 simp[h1]
theorem IC {g R:Nat->Nat->Int} {m n:Nat} (hs:mc g m= -1) (a b:Nat) (hb:b<n):Dw g R m n a b=qB g R (m+1) a b:=by
 unfold Dw qB
 by_cases h1:a=m
 ·subst h1
  rw[if_pos ⟨rfl,hb⟩,if_pos (by omega),hs];omega
 have:a<m+1↔a<m:=by omega
 simp[h1,this]
theorem FS {g R:Nat->Nat->Int} {m:Nat} (hs:mc g m=1) (a b:Nat):qB g R m a b=qB g R (m+1) a b:=by
 unfold qB
 by_cases h1:a=m
 ·subst h1
  rw[if_neg (by omega),if_pos (by omega),hs];omega
 have:a<m+1↔a<m:=by omega
 simp[this]
theorem IE (g R:Nat->Nat->Int) (a b:Nat):R a b=qB g R 1 a b:=by
 unfold qB
 split
 ·rename_i h
  have:a=0:=by omega
  subst this
  rw[mc];omega
 rfl
theorem ID {g R:Nat->Nat->Int} {n a:Nat} (ha:a<n) (b:Nat):qB g R n a b=wA g R a b:=by rw[zY ha]
theorem Jt {n:Nat} {h:Nat->Nat->Int} {s:Int} (hs:s=1\/s= -1) (x y:Nat->Int):BF n h (fun j=>s*x j) y=s*BF n h x y:=by
 rcases hs with rfl|rfl
 ·rw[iy (fun _ _ _ _=>rfl) (fun i _=>Int.one_mul (x i)) (fun _ _=>rfl)];omega
 rw[iy (x':=fun r=> - x r) (fun _ _ _ _=>rfl) (fun i _=>by omega) (fun _ _=>rfl),qH];omega
theorem Kt {n:Nat} {h g R:Nat->Nat->Int} (k:Nat):BF n h (qB g R (k+1) k) (qB g R (k+1) (k+1))=mc g k*ia n h R k (k+1):=by
 rw[zY (by omega),FR (by omega)]
 exact Jt (md g k) _ _
structure LN (n:Nat) where
 k:Nat
 hk:k+1<=n
theorem zA (n:Nat) (h R:Nat->Nat->Int) (hn1:1<=n) (hn:n<=4) (hr:iY h n) (hR:RchB n h tw R):
  CallG Tryz.prog 0 138 18 [dx (dC n n h)] jW ⟨[],LV (dC n n (ia n h (wA (ia n h R) R))) (dC n n (trF (wA (ia n h R) R))) 0⟩:=by
 have hml:=cT n n h
 have c1:=o7 (dC n n h)
 rw[qQ hn1 (by omega) hr]at c1
 have cS:=zB n h R hn1 hn hr hR
 have inb:=(sB hR (InB2.one hn1 (by omega) hr)).1
 have inq:=inb.sg (ia n h R)
 have cG:=Ey hn1 hn hr inq
 obtain⟨g,hg⟩: ∃g,g=ia n h R:=⟨_,rfl⟩
 rw[<- hg]at inq cG⊢
 have gd: ∀m a,a<n->GdR n h (qB g R m a):=fun m a ha=>by
  by_cases hm:a<m
  ·rw[zY hm];exact inq.nr a ha
  rw[FR hm];exact inb.nr a ha
 refine iP Tryz.func18 rfl (by kernel_rfl) ?_;rw[Tryz.ntmps18]
 (refine bX [] [] (by simp) fun K hK=>?_;simp(disch:=omega) only[kc,aM,aa,dx,aj,aN,ab];apply hK)
 refine cP (eh ?_)
 (refine bX [⟨1,_,_,_,c1⟩] [] (by simp) fun K hK=>?_;simp(disch:=omega) only[kc,dx,bj.a,aM,aa,aY,bU,bI,ac,bO,cq,ae,bV,bW,bs,noRefTV,bf,bQ,bM,dM,aU,fD];apply hK)
 refine fK rfl ?_
 (refine bX [] [] (by simp) fun K hK=>?_;simp(disch:=omega) only[kc,aM,aa,be,aZ,bv,bE,hml,aU,aO,aR,aX,aN,ab,aS,cp];apply hK)
 refine fK rfl (d7 ?_)
 show f6 _ _ _ _ _ _ _
 (refine gp [⟨1,_,_,_,cS,rfl⟩] [] [] (by simp) fun K hK=>?_;simp(disch:=omega) only[kc,dx,io.a,aM,aa,aY,bU,bI,ac,bO,cq,ae,List.isEmpty_cons,bV,bW,bs,an,noRefTV,bf,Bool.or_false,bQ,bM,renO];apply hK)
 refine f6.weak (aT (tm:=[dx (dC n n h),jk,jk,jk,jk,.one (.sl 25 0 0 n),jk,jk,jk,jk,jk,jk,jk,jk,jk,jk,jk,jk,jk,jk,jk,jk,jk,jk,jk,jk,jk,jk,jk,jk,jk,jk,jk,jk,jk,jk,jk,jk,jk,jk,jk,jk,jk,jk,jk,jk,jk,jk,jk,jk,jk,jk,jk,jk,jk,jk,jk,jk,jk,jk,jk,jk,jk,jk,jk,jk,jk,jk,jk,jk,jk,jk,jk,jk,jk,jk,jk,jk,jk,jk,jk,jk,jk,jk,jk,jk,jk,jk,jk,jk,jk,jk,jk,jk,jk,jk,jk,jk,jk,jk,jk,jk,jk,jk,jk,jk,jk,jk]) (l:=[(25,gG 25 n n R)]) ⟨je 0 25 _ _ _,trivial⟩ (by simp[di,b9,b8])) ?_
 (refine cP (bX [] [] (by simp) fun K hK=>?_);simp(disch:=omega) only[kc,aM,dx,Hm,aN,ab];apply hK)
 refine f9 (G:=LN n) (fun q=>⟨[dx (dC n n h),jk,jk,jk,jk,.one (.sl 25 0 0 n),.raw (.int .i64 ((q.k+1:Nat):Int)),jk,jk,jk,jk,jk,jk,jk,jk,jk,jk,jk,jk,jk,jk,jk,jk,jk,jk,jk,jk,jk,jk,jk,jk,jk,jk,jk,jk,jk,jk,jk,jk,jk,jk,jk,jk,jk,jk,jk,jk,jk,jk,jk,jk,jk,jk,jk,jk,jk,jk,jk,jk,jk,jk,jk,jk,jk,jk,jk,jk,jk,jk,jk,jk,jk,jk,jk,jk,jk,jk,jk,jk,jk,jk,jk,jk,jk,jk,jk,jk,jk,jk,jk,jk,jk,jk,jk,jk,jk,jk,jk,jk,jk,jk,jk,jk,jk,jk,jk,jk,jk],Hm [(25,gG 25 n n (qB g R (q.k+1)))]⟩) (fun _=>jW) (fun q=>n-q.k) ⟨0,by omega⟩ ?_ rfl ?_
 ·refine aT ⟨?_,trivial⟩ ?_
  ·show _::_=_::_
   rw[fz fun a b _ _=>IE g R a b]
  simp[di,b9,b8]
 rintro⟨k,hk⟩
 simp only
 by_cases hm:k+1<n
 ·have e0:IntKind.i64.wrap (((k+1:Nat):Int)-1)=(k:Int):=by rw[show((k+1:Nat):Int)-1=(k:Int) by omega];exact cd (by omega) (by omega)
  have e1:IntKind.i64.wrap (((k+1:Nat):Int)+1)=((k+1+1:Nat):Int):=by rw[show((k+1:Nat):Int)+1=((k+1+1:Nat):Int) by omega];exact cd (by omega) (by omega)
  have hv:BF n h (qB g R (k+1) k) (qB g R (k+1) (k+1))=mc g k*g k (k+1):=by rw[Kt,hg]
  have hgb:=rS hr.pd inb (show k<n by omega) hm 262144 (by decide)
  rw[<- hg]at hgb
  have hsb:=md g k
  have hsv: -262144<=mc g k*g k (k+1)/\mc g k*g k (k+1)<=262144:=by
   rcases hsb with e|e<;>rw[e]<;>omega
  have cI:=Fg (dC n n h) (dz n (qB g R (k+1) k)) (dz n (qB g R (k+1) (k+1)))
  rw[rV hn1 (by omega) hr ((gd _ _ (by omega)).co hn1 hn hr) ((gd _ _ hm).co hn1 hn hr) (by rw[hv];omega),hv]at cI
  have g1:=d5 (n:=n) (i:=k) 25 n (by omega)
  have g2:=d5 (n:=n) (i:=k+1) 25 n hm
  have r1:=fo (n:=n) n (qB g R (k+1)) (i:=k) (by omega)
  have r2:=fo (n:=n) n (qB g R (k+1)) (i:=k+1) hm
  have sgk:mc g (k+1)=if mc g k*g k (k+1)<0 then -1 else 1:=rfl
  (refine cP (bX [] [] (by simp) fun K hK=>?_);simp(disch:=omega) only[kc,aM,aa,dx,Hm,be,aZ,bv,aU,aO,aR,aX,aS,cw];apply hK)
  refine fv rfl (d7 ?_)
  refine cP (eh ?_)
  (refine iI cJ [⟨10,_,_,_,cI⟩] [] (by kernel_rfl) (by simp) fun K hK=>?_;simp(disch:=omega) only[kc,dx,mp,Dk,bj.a,aM,aa,aU,aO,aR,aX,aN,ab,aS,e0,aQ,aZ,aW,bv,db,cQ,g1,packT,dc,g2,aY,bU,bI,ac,bO,cq,r1,eB,jN,kq,r2,ae,bV,bW,bs,eW,noRefTV,bf,bQ,bM,cK];apply hK)
  generalize hvv:mc g k*g k (k+1)=v at*
  by_cases hneg:v<0
  ·rw[if_pos hneg]at sgk
   (refine bX [] [] (by simp) fun K hK=>?_;simp(disch:=omega) only[kc,aM,aU,aO,aR,aX,aN,ab,aS,cw];apply hK)
   refine fv rfl ?_
   (refine bX [] [] (by simp) fun K hK=>?_;simp(disch:=omega) only[kc,aM,aa,aQ,aZ,aW,bv,db,cQ,g2,packT,dc,be,ca,aN,ab];apply hK)
   refine f9 (G:=ov n) (fun q=>⟨[dx (dC n n h),jk,jk,jk,jk,.one (.sl 25 0 0 n),.raw (.int .i64 ((k+1:Nat):Int)),jk,jk,jk,jk,jk,jk,jk,jk,jk,jk,jk,jk,jk,jk,jk,jk,jk,jk,jk,jk,jk,jk,jk,jk,jk,jk,jk,jk,jk,jk,jk,jk,jk,jk,jk,jk,jk,jk,jk,jk,jk,jk,jk,jk,jk,.raw (.int .i64 (n:Int)),.raw (.int .i64 (q.i:Int)),jk,jk,jk,jk,jk,jk,jk,jk,jk,jk,jk,jk,jk,jk,jk,jk,jk,jk,jk,jk,jk,jk,jk,jk,jk,jk,jk,jk,jk,jk,jk,jk,jk,jk,jk,jk,jk,jk,jk,jk,jk,jk,jk,jk,jk,jk,jk,jk,jk,jk,jk,jk,jk,jk],Hm [(25,gG 25 n n (Dw g R (k+1) q.i))]⟩) (fun _=>jW) (fun q=>n-q.i) ⟨0,by omega⟩ ?_ rfl ?_
   ·refine aT ⟨?_,trivial⟩ ?_
    ·show _::_=_::_
     rw[FQ]
    simp[di,b9,b8]
   rintro⟨j,hj⟩
   simp only
   by_cases hjn:j<n
   ·have r3:=fo (n:=n) n (Dw g R (k+1) j) (i:=k+1) hm
    have r4:(dz n (Dw g R (k+1) j (k+1)))[j]?=some (R (k+1) j):=by rw[cu _ hjn,Kr]
    have b1:=(show GdR n h (R (k+1))from inb.nr (k+1) hm).co hn1 hn hr j hjn
    have e2:IntKind.i64.wrap (0-R (k+1) j)=0-R (k+1) j:=cd (by omega) (by omega)
    (refine bX [] [] (by simp) fun K hK=>?_;simp(disch:=omega) only[kc,aM,dx,Hm,aU,aO,aR,aX,aS,cw];apply hK)
    refine cP (fv rfl (d7 ?_))
    refine cP (eh ?_)
    (refine bX [] [] (by simp) fun K hK=>?_;simp(disch:=omega) only[kc,aM];apply hK)
    ((refine i4 cJ [] [] (by kernel_rfl) (by simp) fun K hK=>?_);simp(disch:=omega) only[kc,aM,aa,aQ,aZ,aW,bv,db,cQ,g2,packT,dc,ca,r3,dJ,dp,fI,r4,et,dM,aU,fD,e2,bo,ew,cU,cellsOf,ai,isPure,bu,jq,bz,bx];apply hK)
    show f6 _ _ _ _ _ _ _
    ((refine eu [] [] (by simp) fun K hK=>?_);simp(disch:=omega) only[kc,aM,aU,aO,aR,aX,aN,ab,aS,cd];apply hK)
    refine⟨⟨j+1,by omega⟩,by simp only;omega,aT ⟨?_,trivial⟩ ?_,rfl⟩
    ·show _::_=_::_
     rw[fz fun a b _ _=>FP g R (k+1) j a b]
    simp[di,b9,b8]
   have hjn:j=n:=by omega
   (refine bX [] [] (by simp) fun K hK=>?_;simp(disch:=omega) only[kc,aM,dx,Hm,aU,aO,aR,aX,aS,cp];apply hK)
   refine cP (fK rfl (gB ?_))
   show f6 _ _ _ _ _ _ _
   ((refine eu [] [] (by simp) fun K hK=>?_);simp(disch:=omega) only[kc,aM,aa,aU,aO,aR,aX,aN,ab,aS,e1];apply hK)
   refine⟨⟨k+1,by omega⟩,by simp only;omega,aT ⟨?_,trivial⟩ ?_,rfl⟩
   ·show _::_=_::_
    rw[fz fun a b _ hb=>IC (n:=j) sgk a b (by omega)]
   simp[di,b9,b8]
  rw[if_neg hneg]at sgk
  (refine bX [] [] (by simp) fun K hK=>?_;simp(disch:=omega) only[kc,aM,aU,aO,aR,aX,aN,ab,aS,cp];apply hK)
  refine fK rfl (d7 ?_)
  show f6 _ _ _ _ _ _ _
  ((refine eu [] [] (by simp) fun K hK=>?_);simp(disch:=omega) only[kc,aM,aa,aU,aO,aR,aX,aN,ab,aS,e1];apply hK)
  refine⟨⟨k+1,by omega⟩,by simp only;omega,aT ⟨?_,trivial⟩ ?_,rfl⟩
  ·show _::_=_::_
   rw[fz fun a b _ _=>FS sgk a b]
  simp[di,b9,b8]
 have hkn:k+1=n:=by omega
 (refine cP (bX [] [] (by simp) fun K hK=>?_);simp(disch:=omega) only[kc,aM,aa,dx,Hm,be,aZ,bv,aU,aO,aR,aX,aS,cp];apply hK)
 refine fK rfl (gB ?_)
 show f6 _ _ _ _ _ _ _
 have e:gG 25 n n (qB g R (k+1))=gG 25 n n (wA g R):=by
  show _::_=_::_
  rw[hkn,fz fun a b ha _=>ID ha b]
 rw[e]
 generalize wA g R=Q at*
 clear gd inq inb e hm hk hkn
 -- the Gram matrix
 refine cP (nQ (rg 2 cG (Bt _ _ _ _) [] [] (by simp) (by decide) fun K hK=>?_))
 simp(disch:=omega) only[kc,aM]
 apply hK
 clear hK K
 refine⟨⟨⟨_,rfl,.inl ⟨rfl,rfl⟩,.inr ⟨25,0,0,n,rfl,lh (d:=25) (n:=n) (c:=n) (f:=Q) rfl,Cx (d:=25) (n:=n) (c:=n) (f:=Q) rfl⟩,trivial⟩,⟨74,rfl,fun _=>rfl⟩⟩,by simp,?_⟩
 intro K hK
 rw[Ea (d:=74) rfl]
 simp(disch:=omega) only[kc,aa,aM,cK,aU]
 apply hK
 clear hK K
 show f6 _ _ _ _ _ _ _
 refine f6.weak (aT (tm:=[dx (dC n n h),jk,jk,jk,jk,.one (.sl 25 0 0 n),jk,jk,jk,jk,.one (.sl 74 0 0 n),jk,jk,jk,jk,jk,jk,jk,jk,jk,jk,jk,jk,jk,jk,jk,jk,jk,jk,jk,jk,jk,jk,jk,jk,jk,jk,jk,jk,jk,jk,jk,jk,jk,jk,jk,jk,jk,jk,jk,jk,jk,jk,jk,jk,jk,jk,jk,jk,jk,jk,jk,jk,jk,jk,jk,jk,jk,jk,jk,jk,jk,jk,jk,jk,jk,jk,jk,jk,jk,jk,jk,jk,jk,jk,jk,jk,jk,jk,jk,jk,jk,jk,jk,jk,jk,jk,jk,jk,jk,jk,jk,jk,jk,jk,jk,jk,jk]) (l:=[(25,gG 25 n n Q),(74,gG 74 n n (ia n h Q))]) ⟨rfl,rfl,trivial⟩ (by simp[di,b9,b8])) ?_
 refine f6.weak ((fp 74 (lh (d:=74) (n:=n) (c:=n) (f:=ia n h Q) rfl)).trans (aT (tm:=[dx (dC n n h),jk,jk,jk,jk,.one (.sl 25 0 0 n),jk,jk,jk,jk,dx (dC n n (ia n h Q)),jk,jk,jk,jk,jk,jk,jk,jk,jk,jk,jk,jk,jk,jk,jk,jk,jk,jk,jk,jk,jk,jk,jk,jk,jk,jk,jk,jk,jk,jk,jk,jk,jk,jk,jk,jk,jk,jk,jk,jk,jk,jk,jk,jk,jk,jk,jk,jk,jk,jk,jk,jk,jk,jk,jk,jk,jk,jk,jk,jk,jk,jk,jk,jk,jk,jk,jk,jk,jk,jk,jk,jk,jk,jk,jk,jk,jk,jk,jk,jk,jk,jk,jk,jk,jk,jk,jk,jk,jk,jk,jk,jk,jk,jk,jk,jk,jk]) (l:=[(25,gG 25 n n Q)]) ⟨rfl,trivial⟩ (by
  simp[di,b9,b8]
  (repeat' apply And.intro)<;>first|rfl|exact(Cx (H:=Hm [(25,gG 25 n n Q),(74,gG 74 n n (ia n h Q))]) (d:=74) (n:=n) (c:=n) (f:=ia n h Q) rfl).symm))) ?_
 generalize dC n n (ia n h Q)=GM at*
 (refine bX [] [] (by simp) fun K hK=>?_;simp(disch:=omega) only[kc,aM,aa,dx,Hm,be,aZ,bv,bE,hml,cY,bU,bI,jP,db,qZ,ax,ab,and_true,cQ,af];apply hK)
 (refine cP (bX [] [] (by simp) fun K hK=>?_);simp(disch:=omega) only[kc,aM,aa,be,aZ,bv,aN,ab];apply hK)
 refine f9 (G:=ov n) (fun q=>⟨[jk,jk,jk,jk,jk,.one (.sl 25 0 0 n),jk,jk,jk,jk,dx GM,jk,.one (.sl 79 0 0 n),jk,jk,jk,jk,jk,jk,jk,jk,jk,jk,jk,jk,jk,jk,jk,jk,jk,jk,jk,jk,jk,jk,jk,jk,jk,jk,jk,jk,jk,jk,jk,jk,jk,jk,jk,jk,jk,jk,jk,jk,jk,jk,jk,jk,jk,jk,jk,jk,jk,jk,jk,jk,jk,jk,jk,jk,jk,jk,jk,jk,jk,jk,jk,jk,jk,jk,jk,jk,.raw (.int .i64 (n:Int)),.raw (.int .i64 (q.i:Int)),jk,jk,jk,jk,jk,jk,jk,jk,jk,jk,jk,jk,jk,jk,jk,jk,jk,jk,jk,jk,jk,jk,jk,jk,jk],Hm [(25,gG 25 n n Q),(79,kI 79 n n q.i (trF Q))]⟩) (fun _=>jW) (fun q=>n-q.i) ⟨0,by omega⟩ ?_ rfl ?_
 ·refine aT ⟨rfl,?_,trivial⟩ ?_
  ·show[_]=_
   simp[kI,iX,dC]
  simp[di,b9,b8]
 rintro⟨i,hi⟩
 simp only
 by_cases hm:i<n
 ·have hmi:=cT i n (trF Q)
  have hsl:(iX 79 (aj i n)).length=i:=by rw[dT,aG]
  have hrl:((dC i n (trF Q)).map ke).length=i:=by rw[aF,hmi]
  (refine bX [] [] (by simp) fun K hK=>?_;simp(disch:=omega) only[kc,aM,dx,Hm,aU,aO,aR,aX,aS,cw];apply hK)
  refine cP (fv rfl (d7 ?_))
  refine cP (eh ?_)
  (refine bX [] [] (by simp) fun K hK=>?_;simp(disch:=omega) only[kc,aM];apply hK)
  (refine bX [] [] (by simp) fun K hK=>?_;simp(disch:=omega) only[kc,aM,aa,be,aZ,bv,aN,ab];apply hK)
  refine f9 (G:=ov n) (fun q=>⟨[jk,jk,jk,jk,jk,.one (.sl 25 0 0 n),jk,jk,jk,jk,dx GM,jk,.one (.sl 79 0 0 n),.raw (.int .i64 (i:Int)),jk,jk,jk,jk,jk,jk,jk,jk,jk,jk,jk,jk,jk,jk,jk,jk,jk,jk,jk,jk,jk,jk,jk,jk,jk,jk,jk,jk,jk,jk,jk,jk,jk,jk,jk,jk,jk,jk,jk,jk,jk,jk,jk,jk,jk,jk,jk,jk,jk,jk,jk,jk,jk,jk,jk,jk,jk,jk,jk,jk,jk,jk,jk,jk,jk,jk,jk,.raw (.int .i64 (n:Int)),.raw (.int .i64 (i:Int)),jk,jk,.one (.sl 25 0 0 n),.raw (.int .i64 (n:Int)),.raw (.int .i64 (q.i:Int)),jk,jk,jk,jk,jk,jk,jk,jk,jk,jk,jk,jk,jk,jk,jk,jk,jk,jk,jk,jk],Hm [(25,gG 25 n n Q),(79,Lx 79 n n (trF Q) i q.i)]⟩) (fun _=>jW) (fun q=>n-q.i) ⟨0,by omega⟩ ?_ rfl ?_
  ·refine aT ⟨rfl,rfl,trivial⟩ ?_
   simp[di,b9,b8]
  rintro⟨j,hj⟩
  simp only
  by_cases hm2:j<n
  ·have g1:=d5 (n:=n) (i:=j) 25 n hm2
   have hr1:=fo n Q (i:=j) hm2
   have hjr:=cu (Q j) hm
   cases j with
   |zero=>
    rw[Lx,Hr (trF Q) hm]
    (refine bX [] [] (by simp) fun K hK=>?_;simp(disch:=omega) only[kc,aM,dx,Hm,aU,aO,aR,aX,aS,cw];apply hK)
    refine cP (fv rfl (d7 ?_))
    refine cP (eh ?_)
    (refine bX [] [] (by simp) fun K hK=>?_;simp(disch:=omega) only[kc,aM,aa,aQ,aZ,aW,bv,af,db,Nat.add_zero,cQ,g1,packT,dc];apply hK)
    ((refine i4 cJ [] [] (by kernel_rfl) (by simp) fun K hK=>?_);simp(disch:=omega) only[kc,aM,aa,aQ,aZ,aW,bv,af,db,cQ,nj hsl,packT,dc,ca,hr1,dJ,dp,fI,hjr,et,cX,bU,bI,iT,gU,cellsOf,isPure,Nat.reduceMul,ap,List.contains_nil,lI,dX,kG,cU,eo,ou,fW,gI,and_true,d4,bD,bo,ew,bu,nk hsl,aF,hmi,bz,bx,ak];apply hK)
    show f6 _ _ _ _ _ _ _
    ((refine eu [] [] (by simp) fun K hK=>?_);simp(disch:=omega) only[kc,aM,aU,aO,aR,aX,aN,ab,aS,cd];apply hK)
    refine⟨⟨1,by omega⟩,by simp only;omega,aT ⟨rfl,?_,trivial⟩ ?_,rfl⟩
    ·rfl
    simp[di,b9,b8]
   |succ j=>
    have h01:(0==i+1)=false:=by simp
    rw[Lx,KN]
    (refine bX [] [] (by simp) fun K hK=>?_;simp(disch:=omega) only[kc,aM,dx,Hm,aU,aO,aR,aX,aS,cw];apply hK)
    refine cP (fv rfl (d7 ?_))
    refine cP (eh ?_)
    (refine bX [] [] (by simp) fun K hK=>?_;simp(disch:=omega) only[kc,aM,aa,aQ,aZ,aW,bv,af,db,cQ,g1,packT,dc];apply hK)
    ((refine i4 cJ [] [] (by kernel_rfl) (by simp) fun K hK=>?_);simp(disch:=omega) only[kc,aM,aa,ke,aQ,aZ,aW,bv,af,db,cQ,nj hsl,packT,dc,ca,hr1,dJ,dp,fI,hjr,et,cX,bU,bI,iT,gU,cellsOf,isPure,Nat.reduceMul,ap,List.contains_nil,lI,dX,kG,cU,eo,nj hrl,ou,eW,gE,dj,fW,gI,and_true,fq,List.map_append,yi,bx,List.map_replicate,FE,f4,EH,nk hrl,ew,bz,ak,h01,Bool.false_and,bD,d4,bo,bu,nk hsl,reduceCtorEq,false_and,and_false,List.length_append,hrl];apply hK)
    show f6 _ _ _ _ _ _ _
    ((refine eu [] [] (by simp) fun K hK=>?_);simp(disch:=omega) only[kc,aM,aU,aO,aR,aX,aN,ab,aS,cd];apply hK)
    refine⟨⟨j+1+1,by omega⟩,by simp only;omega,aT ⟨rfl,?_,trivial⟩ ?_,rfl⟩
    ·show _=KN 79 n n (trF Q) i (j+1)
     rw[KN,ke,pY (j+1)];rfl
    simp[di,b9,b8]
  have hjc:j=n:=by omega
  subst hjc
  (refine bX [] [] (by simp) fun K hK=>?_;simp(disch:=omega) only[kc,aM,dx,Hm,aU,aO,aR,aX,aS,cp];apply hK)
  refine cP (fK rfl (gB ?_))
  show f6 _ _ _ _ _ _ _
  rw[J0 _ (by omega) hm]
  ((refine eu [] [] (by simp) fun K hK=>?_);simp(disch:=omega) only[kc,aM,aU,aO,aR,aX,aN,ab,aS,cd];apply hK)
  refine⟨⟨i+1,by omega⟩,by simp only;omega,aT ⟨rfl,rfl,trivial⟩ ?_,rfl⟩
  simp[di,b9,b8]
 have hin:i=n:=by omega
 subst hin
 (refine bX [] [] (by simp) fun K hK=>?_;simp(disch:=omega) only[kc,aM,dx,Hm,aU,aO,aR,aX,aS,cp];apply hK)
 refine cP (fK rfl (gB ?_))
 show f6 _ _ _ _ _ _ _
 rw[vL]
 refine f6.weak ((fp 79 (lh (d:=79) (n:=i) (c:=i) (f:=trF Q) rfl)).trans (aT (tm:=[jk,jk,jk,jk,jk,jk,jk,jk,jk,jk,dx GM,jk,dx (dC i i (trF Q)),jk,jk,jk,jk,jk,jk,jk,jk,jk,jk,jk,jk,jk,jk,jk,jk,jk,jk,jk,jk,jk,jk,jk,jk,jk,jk,jk,jk,jk,jk,jk,jk,jk,jk,jk,jk,jk,jk,jk,jk,jk,jk,jk,jk,jk,jk,jk,jk,jk,jk,jk,jk,jk,jk,jk,jk,jk,jk,jk,jk,jk,jk,jk,jk,jk,jk,jk,jk,jk,jk,jk,jk,jk,jk,jk,jk,jk,jk,jk,jk,jk,jk,jk,jk,jk,jk,jk,jk,jk,jk,jk,jk,jk,jk,jk]) (l:=[]) trivial (by
  simp[di,b9,b8]
  (repeat' apply And.intro)<;>first|rfl|exact(Cx (H:=Hm [(25,gG 25 i i Q),(79,gG 79 i i (trF Q))]) (d:=79) (n:=i) (c:=i) (f:=trF Q) rfl).symm))) ?_
 (refine bX [] [] (by simp) fun K hK=>?_;simp(disch:=omega) only[kc,aM,aa,dx,Hm,aN,ab];apply hK)
 (refine ib ⟨.inr rfl,rfl,bF rfl ?_ rfl⟩;simp(disch:=omega) only[cH,Tryz.results18,eP,bH,ah,ag,Option.bind_some,dF,Option.map_some,LV])
section
variable {n:Nat}
theorem G8 (h t:Nat->Nat->Int) (i a b:Nat):cngF n h (Jg n t (.neg i)) a b=(if a=i then -1 else 1)*(if b=i then -1 else 1)*cngF n h t a b:=by
 have e: ∀c,(fun r=>Jg n t (.neg i) r c)=if c=i then fun r=> - t r i else fun r=>t r c:=fun c=>by
  by_cases e1:c=i
  ·subst e1;funext r;simp[Jg,fb]
  funext r;simp[Jg,fb,e1]
 rw[iG,e,e,iG]
 by_cases ha:a=i
 ·subst ha
  by_cases hb:b=a
  ·subst hb;simp only[if_true];rw[qH,uZ];omega
  simp only[if_true,if_neg hb];rw[qH];omega
 by_cases hb:b=i
 ·subst hb;simp only[if_true,if_neg ha];rw[uZ];omega
 simp only[if_neg ha,if_neg hb];omega
theorem sP {a:Nat->Nat->Int}: ∀m i op,Bv n a m i=some op->i<=op.i/\op.i<i+m/\(match op with
  | .swp j=>0<j/\a j j<a (j-1) (j-1)
  | .rep j c=>c<3^j/\nrm n a (cnd j c)<a j j
  | .neg j=>0<j/\a (j-1) j<0)
 |0,_,_,h=>by cases h
 |m+1,i,op,h=>by
  rw[Bv]at h
  split at h
  ·rename_i hc
   injection h with h
   subst h
   exact⟨ai _,by show i<i+(m+1);omega,hc⟩
  split at h
  ·rename_i c hc
   injection h with h
   subst h
   obtain⟨_,h1,h2⟩:=rN _ _ _ hc
   exact⟨ai _,by show i<i+(m+1);omega,by omega,h2⟩
  split at h
  ·rename_i hc
   injection h with h
   subst h
   exact⟨ai _,by show i<i+(m+1);omega,hc⟩
  obtain⟨h1,h2,h3⟩:=sP m (i+1) op h
  exact⟨by omega,by omega,h3⟩
structure JA (n:Nat) (h:Nat->Nat->Int) (W:Int) (t:Nat->Nat->Int):Prop where
 nr: ∀a,a<n->cngF n h t a a<=W
 dt:(dk t n).natAbs=1
theorem JA.op {h t:Nat->Nat->Int} {W:Int} (ht:JA n h W t) {op:I4} (ho:Bv n (cngF n h t) n 0=some op):JA n h W (Jg n t op):=by
 obtain⟨_,h1,h2⟩:=sP n 0 op ho
 cases op with
 |swp i=>
  have hi:i<n:=by simpa[I4.i] using h1
  obtain⟨h0,_⟩:=h2
  refine⟨fun a ha=>?_,?_⟩
  ·have e2:(fun r=>Jg n t (.swp i) r a)=if a=i then fun r=>t r (i-1)else if a=i-1 then fun r=>t r i else fun r=>t r a:=by
    by_cases e1:a=i
    ·subst e1;simp[Jg]
    by_cases e3:a=i-1
    ·rw[if_neg e1,if_pos e3]
     funext r
     exact(if_neg e1).trans (if_pos e3)
    simp[Jg,e1,e3]
   rw[iG,e2]
   split
   ·rw[<- iG];exact ht.nr _ (by omega)
   split
   ·rw[<- iG];exact ht.nr _ hi
   rw[<- iG];exact ht.nr _ ha
  have:=rC (R:=t) (n:=n) (a:=i) (b:=i-1) hi (by omega) (by omega)
  show(dk (fun r c=>if c=i then t r (i-1)else if c=i-1 then t r i else t r c) n).natAbs=1
  rw[this,Int.natAbs_neg];exact ht.dt
 |rep i c=>
  have hi:i<n:=by simpa[I4.i] using h1
  obtain⟨_,h3⟩:=h2
  refine⟨fun a ha=>?_,?_⟩
  ·by_cases e:a=i
   ·subst e
    show cngF n h (fb t a (mV n t (cnd a c))) a a<=W
    rw[D9]
    have:=ht.nr a ha
    omega
   show cngF n h (fb t i (mV n t (cnd i c))) a a<=W
   rw[xa _ e e];exact ht.nr a ha
  show(dk (fb t i (mV n t (cnd i c))) n).natAbs=1
  rw[AL hi,show cnd i c i=1 by simp[cnd],Int.one_mul];exact ht.dt
 |neg i=>
  have hi:i<n:=by simpa[I4.i] using h1
  refine⟨fun a ha=>?_,?_⟩
  ·rw[G8]
   have:=ht.nr a ha
   split<;>omega
  show(dk (fb t i (fun r=> - t r i)) n).natAbs=1
  rw[uc hi,Int.natAbs_neg];exact ht.dt
end
end Go.Proofs.YtfgeomlagfomgaaGreatDoor
