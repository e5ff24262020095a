/-
  Part 23 of a proof (walks and plain facts).
-/
import Derived.Test.YtfgeomlagfomgaaGreatDoorP21
import Derived.OpenShut
set_option linter.all false
set_option maxRecDepth 100000
set_option maxHeartbeats 64000000
open Nat renaming reduceAdd → aa
open Go.Value renaming oneCell' → ab
open List renaming find?_cons → ac
open Go.Proofs.YtfgeomlagfomgaaGreatDoor.CallRes renaming plain → ae
open Nat renaming reduceEqDiff → af
open List renaming getElem?_cons_zero → ag
open List renaming getElem?_cons_succ → ah
open Nat renaming le_refl → ai
open List renaming replicate → aj
open Nat renaming reduceBEq → ak
open Bool renaming not_false → an
open Option renaming map_none → ay
namespace Go.Proofs.YtfgeomlagfomgaaGreatDoor
open Go.RowKit
theorem Ep {n:Nat} {a:Nat->Nat->Int} {i c:Nat} (hc:nrm n a (cnd i c)<a i i): ∀m c0,c0<=c->c<c0+m->(∀r,c0<=r->r<c-> ¬nrm n a (cnd i r)<a i i)->Gw n a i m c0=some c
 |0,c0,h1,h2,_=>by omega
 |m+1,c0,h1,h2,h=>by
  rw[Gw]
  by_cases e:c0=c
  ·subst e;rw[if_pos hc]
  rw[if_neg (h c0 (ai _) (by omega))]
  exact Ep hc m (c0+1) (by omega) (by omega) fun r h3 h4=>h r (by omega) h4
theorem Er {n:Nat} {a:Nat->Nat->Int} {i:Nat}: ∀m c0,(∀r,c0<=r->r<c0+m-> ¬nrm n a (cnd i r)<a i i)->Gw n a i m c0=none
 |0,c0,_=>rfl
 |m+1,c0,h=>by
  rw[Gw,if_neg (h c0 (ai _) (by omega))]
  exact Er m (c0+1) fun r h3 h4=>h r (by omega) (by omega)
theorem rQ {n:Nat} {a:Nat->Nat->Int} {i c:Nat} (h:mF n a i=some c):VioP n a i:=by
 obtain⟨_,h2,h3⟩:=rN _ _ _ h
 exact⟨c,by omega,h3⟩
def tD (n:Nat) (f:Nat->Nat->Int) (i:Nat):TV:=match mF n f i with
 |some c=> .one (.p (.sl (ls fI (dz n (cnd i c)))))
 |none=> .raw (.slice none 0 0)
def Lk (i:Nat):Nat->Nat->Int
 |0=>cnd i 0
 |c+1=>KO i c
theorem Ku {i c:Nat} (h:c<3^i):Lk i c=cnd i c:=by
 cases c with
 |zero=>rfl
 |succ c=>rw[Lk,KO,if_pos h]
def Dt (j:Nat):Nat->Int:=fun b=>if b<j then -1 else 0
theorem EO (j:Nat):(fun b=>if b=j then -1 else Dt j b)=Dt (j+1):=by
 funext b
 unfold Dt
 by_cases h:b=j
 ·subst h;rw[if_pos rfl,if_pos (by omega)]
 by_cases h2:b<j
 ·rw[if_neg h,if_pos h2,if_pos (by omega)]
 rw[if_neg h,if_neg h2,if_neg (by omega)]
theorem HU (i:Nat):(fun b=>if b=i then 1 else Dt i b)=cnd i 0:=by
 funext b
 unfold Dt cnd
 by_cases h:b=i
 ·subst h;rw[if_pos rfl,if_neg (by omega),if_pos rfl]
 by_cases h2:b<i
 ·rw[if_neg h,if_pos h2,if_pos h2]
  unfold dg
  rw[Nat.zero_div];rfl
 rw[if_neg h,if_neg h2,if_neg h2,if_neg h]
structure LL (n:Nat) (f:Nat->Nat->Int) (i:Nat) where
 c:Nat
 hc:c<=3^i
 ok: ∀r,r<c-> ¬nrm n f (cnd i r)<f i i
theorem G7 (i c j:Nat): -1<=cnd i c j/\cnd i c j<=1:=D8 i c j
theorem zQ (n:Nat) (f:Nat->Nat->Int) (i:Nat) (hi:i<n) (hn:n<=4) (hf: ∀i j,i<n->j<n-> -1125899906842624<=f i j/\f i j<=1125899906842624):
  CallC Tryz.prog 39 [dx (dC n n f),.raw (.int .i64 (i:Int))] ⟨[],tD n f i⟩:=by
 have hml:=cT n n f
 have hri:=dm n f hi
 have hii:=cu (f i) hi
 refine bG Tryz.func39 rfl (by kernel_rfl) ?_;rw[Tryz.ntmps39]
 (refine aL [] fun K hK=>?_;simp(disch:=omega) only[kc,aM,dx,aa,aj,aN,ab];apply hK)
 (refine aL [] fun K hK=>?_;simp(disch:=omega) only[kc,aM,aa,be,aZ,bv,bE,hml,cY,bU,bI,ca,iT,dJ,ou,Int.natCast_nonneg,ab,and_true,cQ];apply hK)
 refine da.weak (aT (tm:=[dx (dC n n f),.raw (.int .i64 (i:Int)),jk,jk,jk,.one (.sl 10 0 0 n),jk,jk,jk,jk,jk,jk,jk,jk,jk,jk,jk,jk,jk,jk,jk,jk,jk,jk,jk,jk,jk,jk,jk,jk,jk,jk,jk,jk,jk,jk,jk,jk,jk]) (l:=[(10,[⟨2,1,lc fI (dz n (Dt 0))⟩])]) ⟨?_,trivial⟩ (by simp[di,b9,b8])) ?_
 ·rw[LX (X:=Dt 0) fun j _=>if_neg (by omega)];rfl
 (refine aP (aL [] fun K hK=>?_);simp(disch:=omega) only[kc,aM,dx,Hm,aN,ab];apply hK)
 refine cC (G:=ov i) (fun g=>⟨[dx (dC n n f),.raw (.int .i64 (i:Int)),jk,jk,jk,.one (.sl 10 0 0 n),.raw (.int .i64 (g.i:Int)),jk,jk,jk,jk,jk,jk,jk,jk,jk,jk,jk,jk,jk,jk,jk,jk,jk,jk,jk,jk,jk,jk,jk,jk,jk,jk,jk,jk,jk,jk,jk,jk],Hm [(10,[⟨2,1,lc fI (dz n (Dt g.i))⟩])]⟩) (fun g=>i-g.i) ⟨0,by omega⟩ ?_ ?_
 ·refine aT ⟨rfl,trivial⟩ ?_
  simp[di,b9,b8]
 rintro⟨j,hj⟩
 simp only
 by_cases hm:j<i
 ·have g1:=cu (m:=n) (Dt j) (j:=j) (by omega)
  have s1:=oQ n j (Dt j) (-1)
  rw[EO]at s1
  have e1:IntKind.i64.wrap ((j:Int)+1)=((j+1:Nat):Int):=by rw[show(j:Int)+1=((j+1:Nat):Int) by omega];exact cd (by omega) (by omega)
  (refine aP (aL [] fun K hK=>?_);simp(disch:=omega) only[kc,aM,aa,dx,Hm,aU,aO,aR,aX,aS,cw];apply hK)
  refine bJ rfl (bi ?_)
  refine aP (bA ?_)
  ((refine bK [] [] (by simp) fun K hK=>?_);simp(disch:=omega) only[kc,aM,aa,aQ,aZ,aW,ca,dJ,cQ,bo,ew,cU,dp,fI,g1,aN,ab,cellsOf,ai,isPure,bu,s1,bz,bx];apply hK)
  show da _ _ _ _
  ((refine bK [] [] (by simp) fun K hK=>?_);simp(disch:=omega) only[kc,aM,aa,aU,aO,aR,aX,aN,ab,aS,e1];apply hK)
  refine⟨⟨j+1,by omega⟩,by simp only;omega,aT ⟨rfl,trivial⟩ ?_⟩
  simp[di,b9,b8]
 have hji:j=i:=by omega
 subst hji
 have g1:=cu (m:=n) (Dt j) (j:=j) (by omega)
 have s1:=oQ n j (Dt j) 1
 rw[HU]at s1
 (refine aP (aL [] fun K hK=>?_);simp(disch:=omega) only[kc,aM,aa,dx,Hm,aU,aO,aR,aX,aS,cp];apply hK)
 refine bL rfl (ck ?_)
 show da _ _ _ _
 (refine aL [] fun K hK=>?_;simp(disch:=omega) only[kc,aM,aa,aQ,aZ,aW,ca,dJ,cQ,bo,ew,cU,dp,fI,g1,aN,ab,cellsOf,ai,isPure,bu,s1,bz,bx];apply hK)
 (refine aP (aL [] fun K hK=>?_);simp(disch:=omega) only[kc,aM,aN,ab];apply hK)
 refine cC (G:=LL n f j) (fun g=>⟨[dx (dC n n f),.raw (.int .i64 (j:Int)),jk,jk,jk,.one (.sl 10 0 0 n),jk,.raw (.bool (decide (g.c<3^j))),jk,jk,jk,jk,jk,jk,jk,jk,jk,jk,jk,jk,jk,jk,jk,jk,jk,jk,jk,jk,jk,jk,jk,jk,jk,jk,jk,jk,jk,jk,jk],Hm [(10,[⟨2,1,lc fI (dz n (Lk j g.c))⟩])]⟩) (fun g=>3^j-g.c) ⟨0,Nat.zero_le _,fun r hr=>by omega⟩ ?_ ?_
 ·have h3:0<3^j:=Nat.pow_pos (by omega)
  refine aT ⟨rfl,trivial⟩ ?_
  simp[di,b9,b8,h3]
 rintro⟨c,hc,ok⟩
 simp only
 by_cases hlt:c<3^j
 ·have hN:=Im n f (cnd j c) (by omega) hn hf (G7 j c)
  rw[Ku hlt,decide_eq_true hlt]
  by_cases hv:nrm n f (cnd j c)<f j j
  ·have hF:mF n f j=some c:=Ep hv _ 0 (by omega) (by omega) fun r _ hr=>ok r hr
   have eR:tD n f j= .one (.p (.sl (ls fI (dz n (cnd j c))))):=by unfold tD;rw[hF]
   rw[eR]
   (refine aP (aL [] fun K hK=>?_);simp(disch:=omega) only[kc,aM,dx,Hm];apply hK)
   refine bJ rfl (bi ?_)
   refine aP (bA ?_)
   (refine cL cJ [⟨2,_,_,_,hN⟩] [] (by kernel_rfl) (by simp) fun K hK=>?_;simp(disch:=omega) only[kc,dx,mp,bj.a,aM,aa,aY,bU,bI,ac,bO,cq,eB,jN,kq,ae,bV,bW,bs,eW,noRefTV,bf,bQ,bM,aQ,aZ,aW,bv,ch,hri,fR,db,packT,dc,ca,hii,fI,dJ,et,aU,aO,aR,aX,aS,cw];apply hK)
   refine bJ rfl ?_
   (refine aL [] fun K hK=>?_;simp(disch:=omega) only[kc,aM];apply hK)
   refine bC ⟨.inr rfl,kQ 10 (eE rfl) ?_ rfl⟩
   simp(disch:=omega) only[kc,cH,Tryz.results39,bH,gT,gh,cQ,eB,jN,eZ]
  have hW:=fun h0:0<j=>Il n j c h0 hi hn hlt
  (refine aP (aL [] fun K hK=>?_);simp(disch:=omega) only[kc,aM,dx,Hm];apply hK)
  refine bJ rfl (bi ?_)
  refine aP (bA ?_)
  (refine cL cJ [⟨2,_,_,_,hN⟩] [] (by kernel_rfl) (by simp) fun K hK=>?_;simp(disch:=omega) only[kc,dx,mp,bj.a,aM,aa,aY,bU,bI,ac,bO,cq,eB,jN,kq,ae,bV,bW,bs,eW,noRefTV,bf,bQ,bM,aQ,aZ,aW,bv,ch,hri,fR,db,packT,dc,ca,hii,fI,dJ,et,aU,aO,aR,aX,aS,cp];apply hK)
  refine bL rfl (bi ?_)
  show da _ _ _ _
  have hok: ∀r,r<c+1-> ¬nrm n f (cnd j r)<f j j:=fun r hr=>by
   by_cases e:r=c
   ·subst e;exact hv
   exact ok r (by omega)
  by_cases h0:0<j
  ·have hw:=hW h0
   ((refine rh 3 hw 10 0 [] [] (by simp) (by omega) (l8 rfl) (fc _ _) (by simp) (by decide) fun K hK=>?_);simp(disch:=omega) only[kc,aM,aa,gR,aZ,ca,eK,aW,dJ,Nat.add_zero,cQ];apply hK;refine⟨⟨rfl,rfl⟩,by simp,?_⟩;intro K hK;simp(disch:=omega) only[kc,aa,aM,Hd,cwD];apply hK)
   refine⟨⟨c+1,by omega,hok⟩,by simp only;omega,aT ⟨rfl,trivial⟩ ?_⟩
   simp[di,b9,b8]
  have hj0:j=0:=by omega
  subst hj0
  have hc0:c=0:=by simpa using hlt
  subst hc0
  have hw:=C7
  ((refine bK [⟨3,_,_,_,hw⟩] [] (by simp) fun K hK=>?_);simp(disch:=omega) only[kc,bj.a,aM,aa,gR,aZ,ca,eK,aW,dJ,Nat.add_zero,cQ,d4,aY,bU,bI,ac,bO,cq,ae,bV,bW,bs,noRefTV,bf,bQ,bM];apply hK)
  refine⟨⟨1,by simp,hok⟩,by simp,aT ⟨?_,trivial⟩ ?_⟩
  ·have e:Lk 0 1=cnd 0 0:=by
    funext b
    simp[Lk,KO]
   rw[e];rfl
  simp[di,b9,b8]
 have hF:mF n f j=none:=Er _ 0 fun r _ hr=>ok r (by omega)
 have eR:tD n f j= .raw (.slice none 0 0):=by unfold tD;rw[hF]
 rw[eR,decide_eq_false hlt]
 (refine aP (aL [] fun K hK=>?_);simp(disch:=omega) only[kc,aM,dx,Hm];apply hK)
 refine bL rfl (ck ?_)
 show da _ _ _ _
 (refine aL [] fun K hK=>?_;simp(disch:=omega) only[kc,aM,aN,ab];apply hK)
 (refine bC ⟨.inr rfl,bF rfl ?_ rfl⟩;simp(disch:=omega) only[cH,Tryz.results39,bH,ah,ag])
structure Mi (M:List (List Int)) where
 i:Nat
 hi:i<=M.length
 ok: ∀a,a<i-> ¬VioP M.length (ent M) a
 ok2: ∀a,a+1<i->ent M a a<=ent M (a+1) (a+1)/\0<=ent M a (a+1)
theorem pg (M:List (List Int)) (r:Bool) (hr:r=true↔yK M):CallC Tryz.prog 15 [dx M] ⟨[],.raw (.bool r)⟩:=by
 by_cases hB:KT M
 ·have cB:=sA M true (by simp[hB])
  have hn1:=hB.1.1
  have hn4:=hB.1.2
  have eM:M=dC M.length M.length (ent M):=qL (M:=M) (m:=M.length) fun q hq=>(hB.2 q hq).1
  have cO:=LH M.length M.length (ent M) hn1 (by omega) hn1 (by omega) fun i j hi hj=>by have:=hB.entB hi hj;omega
  obtain⟨e,he,cV⟩:=yM M.length M.length (ent M) hn1 (by omega) hn1 (by omega) fun i j hi hj=>DY (hB.entB hi hj)
  rw[<- eM]at cO cV
  by_cases hP:PD (ent M) M.length
  ·have he0:e=0:=he.2 ⟨rfl,by omega,(zL.1 hP).1,(zL.1 hP).2⟩
   subst he0
   refine bG Tryz.func15 rfl (by kernel_rfl) ?_;rw[Tryz.ntmps15]
   (refine aL [] fun K hK=>?_;simp(disch:=omega) only[kc,aM,dx,aj,aN,ab];apply hK)
   (refine aP (aL [⟨1,_,_,_,cB⟩,⟨5,_,_,_,cO⟩,⟨6,_,_,_,cV⟩] fun K hK=>?_);simp(disch:=omega) only[kc,dx,bj.a,aM,aa,aY,bU,bI,ac,bO,cq,ae,bV,bW,bs,noRefTV,bf,bQ,bM,dM,aU,fD,bP,ak,cQ,aO,aR,aX,aN,ab,aS,cw,b7];apply hK)
   refine bL rfl (bi ?_)
   show da _ _ _ _
   (refine aP (aL [] fun K hK=>?_);simp(disch:=omega) only[kc,aM,aa,be,aZ,bv,bE,aN,ab];apply hK)
   refine cC (G:=Mi M) (fun g=>⟨[dx M,jk,jk,jk,jk,jk,jk,jk,jk,jk,jk,jk,jk,jk,.raw (.int .i64 (M.length:Int)),.raw (.int .i64 (g.i:Int)),jk,jk,jk,jk,jk,jk,jk,jk,jk,jk,jk,jk,jk,jk,jk,jk,jk,jk,jk,jk,jk,jk,jk,jk,jk,jk,jk,jk,jk,jk,jk,jk,jk,jk,jk,jk,jk,jk,jk,jk,jk],Hm []⟩) (fun g=>M.length-g.i) ⟨0,by omega,fun a ha=>by omega,fun a ha=>by omega⟩ ?_ ?_
   ·refine aT trivial ?_
    simp[di,b9,b8]
   rintro⟨i,hi,ok,ok2⟩
   simp only
   by_cases hm:i<M.length
   ·have cS:=zQ M.length (ent M) i hm hn4 fun i j hi hj=>hB.entB hi hj
    rw[<- eM]at cS
    have key: ∀z:TV,tD M.length (ent M) i=z->CallC Tryz.prog 39 [dx M,.raw (.int .i64 (i:Int))] ⟨[],z⟩:=fun z hz=>hz▸cS
    cases i with
    |zero=>
     cases hF:mF M.length (ent M) 0 with
     |some c=>
      have hr0:r=false:=by
       cases r with
       |false=>rfl
       |true=>exact absurd (rQ hF) ((hr.1 rfl).2.2 0 hm)
      subst hr0
      obtain⟨q,hq⟩: ∃q,q=dz M.length (cnd 0 c):=⟨_,rfl⟩
      have cS:=key (.one (.p (.sl (ls fI q)))) (by unfold tD;rw[hF,hq])
      obtain⟨y,l,hyl⟩: ∃y l,q=y::l:=by
       cases q with
       |nil=>have:=congrArg List.length hq;rw[dj]at this;simp at this;omega
       |cons y l=>exact⟨y,l,rfl⟩
      rw[hyl,show ls fI (y::l)=fI y::ls fI l from rfl]at cS
      (refine aL [] fun K hK=>?_;simp(disch:=omega) only[kc,aM,dx,Hm,aU,aO,aR,aX,aS,cw];apply hK)
      refine aP (bJ rfl (bi ?_))
      refine aP (bA ?_)
      (refine aL [] fun K hK=>?_;simp(disch:=omega) only[kc,aM];apply hK)
      (refine cL cJ [⟨35,_,_,_,cS⟩] [] (by kernel_rfl) (by simp) fun K hK=>?_;simp(disch:=omega) only[kc,dx,fI,bj.a,aM,aa,aU,aO,aR,aX,aN,ab,aS,cp,bP,aQ,aZ,ay,cQ,b7,aY,bU,bI,ac,bO,cq,ae,bV,bW,bs,noRefTV,bf,bQ,bM,ca,an];apply hK)
      refine bJ rfl ?_
      (refine aL [] fun K hK=>?_;simp(disch:=omega) only[kc,aM,aN,ab];apply hK)
      (refine bC ⟨.inr rfl,bF rfl ?_ rfl⟩;simp(disch:=omega) only[cH,Tryz.results15,bH,ah,ag])
     |none=>
      have cS:=key (.raw (.slice none 0 0)) (by unfold tD;rw[hF])
      have hnv:=qr hF
      (refine aL [] fun K hK=>?_;simp(disch:=omega) only[kc,aM,dx,Hm,aU,aO,aR,aX,aS,cw];apply hK)
      refine aP (bJ rfl (bi ?_))
      refine aP (bA ?_)
      (refine aL [] fun K hK=>?_;simp(disch:=omega) only[kc,aM];apply hK)
      (refine cL cJ [⟨35,_,_,_,cS⟩] [] (by kernel_rfl) (by simp) fun K hK=>?_;simp(disch:=omega) only[kc,dx,bj.a,aM,aa,aU,aO,aR,aX,aN,ab,aS,cp,bP,aQ,aZ,ay,cQ,b7,aY,bU,bI,ac,bO,cq,ae,bV,bW,bs,noRefTV,bf,bQ,bM,ca];apply hK)
      refine bL rfl (bi ?_)
      show da _ _ _ _
      ((refine bK [] [] (by simp) fun K hK=>?_);simp(disch:=omega) only[kc,aM,aU,aO,aR,aX,aN,ab,aS,cd];apply hK)
      refine⟨⟨1,by omega,fun a ha=>?_,fun a ha=>by omega⟩,by simp only;omega,aT trivial ?_⟩
      ·have:a=0:=by omega
       subst this;exact hnv
      simp[di,b9,b8]
    |succ i=>
     have gt:(0:Int)<((i+1:Nat):Int):=by omega
     have e0:IntKind.i64.wrap (((i+1:Nat):Int)-1)=(i:Int):=by rw[show((i+1:Nat):Int)-1=(i:Int) by omega];exact cd (by omega) (by omega)
     have m1:=dm M.length (ent M) (show i<M.length by omega)
     have m2:=dm M.length (ent M) hm
     rw[<- eM]at m1 m2
     have q1:=cu (ent M i) (show i<M.length by omega)
     have q2:=cu (ent M (i+1)) hm
     have q3:=cu (ent M i) hm
     by_cases hd:ent M (i+1) (i+1)<ent M i i
     ·have hr0:r=false:=by
       cases r with
       |false=>rfl
       |true=>have:=((hr.1 rfl).2.1 i hm).1;omega
      subst hr0
      (refine aL [] fun K hK=>?_;simp(disch:=omega) only[kc,aM,dx,Hm,aU,aO,aR,aX,aS,cw];apply hK)
      refine aP (bJ rfl (bi ?_))
      refine aP (bA ?_)
      (refine aL [] fun K hK=>?_;simp(disch:=omega) only[kc,aM];apply hK)
      (refine cL cJ [] [] (by kernel_rfl) (by simp) fun K hK=>?_;simp(disch:=omega) only[kc,aM,aa,aU,aO,aR,aX,aN,ab,aS,gt,cw,bP,aQ,aZ,aW,bv,ch,m2,fR,db,cQ,packT,dc,ca,q2,fI,dJ,et,e0,m1,q1,hd,reduceCtorEq,ay,b7,aY,bU,bI,List.find?_nil,bO];apply hK)
      refine bJ rfl ?_
      (refine aL [] fun K hK=>?_;simp(disch:=omega) only[kc,aM,aN,ab];apply hK)
      (refine bC ⟨.inr rfl,bF rfl ?_ rfl⟩;simp(disch:=omega) only[cH,Tryz.results15,bH,ah,ag])
     by_cases hs:ent M i (i+1)<0
     ·have hr0:r=false:=by
       cases r with
       |false=>rfl
       |true=>have:=((hr.1 rfl).2.1 i hm).2;omega
      subst hr0
      (refine aL [] fun K hK=>?_;simp(disch:=omega) only[kc,aM,dx,Hm,aU,aO,aR,aX,aS,cw];apply hK)
      refine aP (bJ rfl (bi ?_))
      refine aP (bA ?_)
      (refine aL [] fun K hK=>?_;simp(disch:=omega) only[kc,aM];apply hK)
      (refine cL cJ [] [] (by kernel_rfl) (by simp) fun K hK=>?_;simp(disch:=omega) only[kc,aM,aa,aU,aO,aR,aX,aN,ab,aS,gt,cw,bP,aQ,aZ,aW,bv,ch,m2,fR,db,cQ,packT,dc,ca,q2,fI,dJ,et,e0,m1,q1,hd,decide_false,q3,hs,b7,reduceCtorEq,aY,bU,bI,List.find?_nil,bO,ay];apply hK)
      refine bJ rfl ?_
      (refine aL [] fun K hK=>?_;simp(disch:=omega) only[kc,aM,aN,ab];apply hK)
      (refine bC ⟨.inr rfl,bF rfl ?_ rfl⟩;simp(disch:=omega) only[cH,Tryz.results15,bH,ah,ag])
     cases hF:mF M.length (ent M) (i+1)with
     |some c=>
      have hr0:r=false:=by
       cases r with
       |false=>rfl
       |true=>exact absurd (rQ hF) ((hr.1 rfl).2.2 (i+1) hm)
      subst hr0
      obtain⟨q,hq⟩: ∃q,q=dz M.length (cnd (i+1) c):=⟨_,rfl⟩
      have cS:=key (.one (.p (.sl (ls fI q)))) (by unfold tD;rw[hF,hq])
      obtain⟨y,l,hyl⟩: ∃y l,q=y::l:=by
       cases q with
       |nil=>have:=congrArg List.length hq;rw[dj]at this;simp at this;omega
       |cons y l=>exact⟨y,l,rfl⟩
      rw[hyl,show ls fI (y::l)=fI y::ls fI l from rfl]at cS
      (refine aL [] fun K hK=>?_;simp(disch:=omega) only[kc,aM,dx,Hm,aU,aO,aR,aX,aS,cw];apply hK)
      refine aP (bJ rfl (bi ?_))
      refine aP (bA ?_)
      (refine aL [] fun K hK=>?_;simp(disch:=omega) only[kc,aM];apply hK)
      (refine cL cJ [⟨35,_,_,_,cS⟩] [] (by kernel_rfl) (by simp) fun K hK=>?_;simp(disch:=omega) only[kc,dx,fI,bj.a,aM,aa,aU,aO,aR,aX,aN,ab,aS,gt,cw,bP,aQ,aZ,aW,bv,ch,m2,fR,db,cQ,packT,dc,ca,q2,dJ,et,e0,m1,q1,hd,decide_false,q3,hs,b7,aY,bU,bI,ac,bO,cq,ae,bV,bW,bs,noRefTV,bf,bQ,bM,an];apply hK)
      refine bJ rfl ?_
      (refine aL [] fun K hK=>?_;simp(disch:=omega) only[kc,aM,aN,ab];apply hK)
      (refine bC ⟨.inr rfl,bF rfl ?_ rfl⟩;simp(disch:=omega) only[cH,Tryz.results15,bH,ah,ag])
     |none=>
      have cS:=key (.raw (.slice none 0 0)) (by unfold tD;rw[hF])
      have hnv:=qr hF
      (refine aL [] fun K hK=>?_;simp(disch:=omega) only[kc,aM,dx,Hm,aU,aO,aR,aX,aS,cw];apply hK)
      refine aP (bJ rfl (bi ?_))
      refine aP (bA ?_)
      (refine aL [] fun K hK=>?_;simp(disch:=omega) only[kc,aM];apply hK)
      (refine cL cJ [⟨35,_,_,_,cS⟩] [] (by kernel_rfl) (by simp) fun K hK=>?_;simp(disch:=omega) only[kc,dx,bj.a,aM,aa,aU,aO,aR,aX,aN,ab,aS,gt,cw,bP,aQ,aZ,aW,bv,ch,m2,fR,db,cQ,packT,dc,ca,q2,fI,dJ,et,e0,m1,q1,hd,decide_false,q3,hs,b7,aY,bU,bI,ac,bO,cq,ae,bV,bW,bs,noRefTV,bf,bQ,bM,ay];apply hK)
      refine bL rfl (bi ?_)
      show da _ _ _ _
      ((refine bK [] [] (by simp) fun K hK=>?_);simp(disch:=omega) only[kc,aM,aU,aO,aR,aX,aN,ab,aS,cd];apply hK)
      refine⟨⟨i+1+1,by omega,fun a ha=>?_,fun a ha=>?_⟩,by simp only;omega,aT trivial ?_⟩
      ·by_cases e:a=i+1
       ·subst e;exact hnv
       exact ok a (by omega)
      ·by_cases e:a=i
       ·subst e;exact⟨by omega,by omega⟩
       exact ok2 a (by omega)
      simp[di,b9,b8]
   have hr1:r=true:=hr.2 ⟨rR.2 ⟨hB,hP⟩,fun a ha=>ok2 a (by omega),fun a ha=>ok a (by omega)⟩
   subst hr1
   (refine aL [] fun K hK=>?_;simp(disch:=omega) only[kc,aM,dx,Hm,aU,aO,aR,aX,aS,cp];apply hK)
   refine aP (bL rfl (ck ?_))
   show da _ _ _ _
   (refine aL [] fun K hK=>?_;simp(disch:=omega) only[kc,aM,aN,ab];apply hK)
   (refine bC ⟨.inr rfl,bF rfl ?_ rfl⟩;simp(disch:=omega) only[cH,Tryz.results15,bH,ah,ag])
  have he0:e≠0:=fun h=>hP (zL.2 ⟨(he.1 h).2.2.1,(he.1 h).2.2.2⟩)
  have hr0:r=false:=by
   cases r with
   |false=>rfl
   |true=>exact absurd (rR.1 (hr.1 rfl).1).2 hP
  subst hr0
  refine bG Tryz.func15 rfl (by kernel_rfl) ?_;rw[Tryz.ntmps15]
  (refine aL [] fun K hK=>?_;simp(disch:=omega) only[kc,aM,dx,aj,aN,ab];apply hK)
  (refine aP (aL [⟨1,_,_,_,cB⟩,⟨5,_,_,_,cO⟩,⟨6,_,_,_,cV⟩] fun K hK=>?_);simp(disch:=omega) only[kc,dx,bj.a,aM,aa,aY,bU,bI,ac,bO,cq,ae,bV,bW,bs,noRefTV,bf,bQ,bM,dM,aU,fD,bP,ak,cQ,aO,aR,aX,aN,ab,aS,he0,decide_false,an,b7];apply hK)
  refine bJ rfl ?_
  (refine aL [] fun K hK=>?_;simp(disch:=omega) only[kc,aM,aN,ab];apply hK)
  (refine bC ⟨.inr rfl,bF rfl ?_ rfl⟩;simp(disch:=omega) only[cH,Tryz.results15,bH,ah,ag])
 have hr0:r=false:=by
  cases r with
  |false=>rfl
  |true=>exact absurd (rR.1 (hr.1 rfl).1).1 hB
 subst hr0
 have cB:=sA M false (by simp[hB])
 refine bG Tryz.func15 rfl (by kernel_rfl) ?_;rw[Tryz.ntmps15]
 (refine aL [] fun K hK=>?_;simp(disch:=omega) only[kc,aM,dx,aj,aN,ab];apply hK)
 (refine aP (aL [⟨1,_,_,_,cB⟩] fun K hK=>?_);simp(disch:=omega) only[kc,dx,bj.a,aM,aa,aY,bU,bI,ac,bO,cq,ae,bV,bW,bs,noRefTV,bf,bQ,bM,dM,aU,fD,an,bP,reduceCtorEq,ak,List.find?_nil,aO,aR,aX,aN,ab,cQ,ay,b7];apply hK)
 refine bJ rfl ?_
 (refine aL [] fun K hK=>?_;simp(disch:=omega) only[kc,aM,aN,ab];apply hK)
 (refine bC ⟨.inr rfl,bF rfl ?_ rfl⟩;simp(disch:=omega) only[cH,Tryz.results15,bH,ah,ag])
def JF (A:Nat->Int):List AV:=[.p (.raw (.int .i8 (A 0))),.p (.raw (.int .i8 (A 1))),.p (.raw (.int .i8 (A 2))),.p (.raw (.int .i8 (A 3))),.p (.raw (.int .i8 (A 4))),.p (.raw (.int .i8 (A 5))),.p (.raw (.int .i8 (A 6))),.p (.raw (.int .i8 (A 7))),
 .p (.raw (.int .i8 (A 8))),.p (.raw (.int .i8 (A 9))),.p (.raw (.int .i8 (A 10))),.p (.raw (.int .i8 (A 11))),.p (.raw (.int .i8 (A 12))),.p (.raw (.int .i8 (A 13))),.p (.raw (.int .i8 (A 14))),.p (.raw (.int .i8 (A 15)))]
theorem u7 (A:Nat->Int):(JF A).length=16:=rfl
theorem wR (A:Nat->Int):(JF A).all isPure=true:=rfl
theorem DQ (A:Nat->Int) {k:Nat} (h:k<16):(JF A).drop k= .p (.raw (.int .i8 (A k)))::(JF A).drop (k+1):=by
 have hk:k=0\/k=1\/k=2\/k=3\/k=4\/k=5\/k=6\/k=7\/k=8\/k=9\/k=10\/k=11\/k=12\/k=13\/k=14\/k=15:=by omega
 rcases hk with rfl|rfl|rfl|rfl|rfl|rfl|rfl|rfl|rfl|rfl|rfl|rfl|rfl|rfl|rfl|rfl<;>rfl
abbrev tA (A:Nat->Int):TV:= .agg (JF A)
abbrev GX (A:Nat->Int):List OObj:=[⟨25,16,[JF A]⟩]
structure L9 (n:Nat) where
 i:Nat
 hi:i<=n
 f:Nat->Nat->Int
structure Ma (i:Nat) where
 j:Nat
 hj:j<=i+1
 f:Nat->Nat->Int
theorem rZ (M:List (List Int)) (A:Nat->Int) (d:Nat) (hd:d<=255):
  CallG Tryz.prog 0 138 3 [dx M,tA A,.raw (.int .u8 (d:Int))] jW ⟨[],.raw (.bool true)⟩:=by
 have cA:=GT
 by_cases hM:20<M.length
 ·have hM':(20:Int)<(M.length:Int):=by omega
  refine iP Tryz.func3 rfl (by kernel_rfl) ?_;rw[Tryz.ntmps3]
  (refine bX [] [] (by simp) fun K hK=>?_;simp(disch:=omega) only[kc,aM,dx,tA,aa,aj,dP,bU,bI,cellsOf,wR,u7,cQ,aN,ab];apply hK)
  (refine cP (bX [] [] (by simp) fun K hK=>?_);simp(disch:=omega) only[kc,aM,aa,be,aZ,bv,bE,aU,aO,aR,aX,aN,ab,aS,hM',cw];apply hK)
  refine fv rfl ?_
  (refine gp [⟨0,_,_,_,cA,rfl⟩] [] [] (by simp) fun K hK=>?_;simp(disch:=omega) only[kc,io.a,aM,aY,bU,bI,ac,bO,ae,bV,bW,noRefTV,bf,bQ,bM];apply hK)
  (refine ib ⟨.inr rfl,rfl,bF rfl ?_ rfl⟩;simp(disch:=omega) only[cH,Tryz.results3,bH,ah,ag])
 obtain⟨n,hn⟩: ∃n,n=1+d%4:=⟨_,rfl⟩
 have hn1:1<=n:=by omega
 have hn4:n<=4:=by have:=Nat.mod_lt d (show 0<4 by omega);omega
 obtain⟨r,hr⟩: ∃r:Bool,r=true↔yK M:=by
  classical
  exact⟨decide (yK M),by simp⟩
 have c1:=l4 M r hr
 have c2:=pg M r hr
 have e1:IntKind.i64.wrap (d:Int)=(d:Int):=cd (by omega) (by omega)
 have e2:Int.tmod (d:Int) 4=((d%4:Nat):Int):=(Int.ofNat_tmod d 4).symm
 have e3:IntKind.i64.wrap (1+((d%4:Nat):Int))=(n:Int):=by rw[show(1:Int)+((d%4:Nat):Int)=(n:Int) by omega];exact cd (by omega) (by omega)
 refine iP Tryz.func3 rfl (by kernel_rfl) ?_;rw[Tryz.ntmps3]
 (refine bX [] [] (by simp) fun K hK=>?_;simp(disch:=omega) only[kc,aM,dx,tA,aa,aj,dP,bU,bI,cellsOf,wR,u7,cQ,aN,ab];apply hK)
 (refine cP (bX [] [] (by simp) fun K hK=>?_);simp(disch:=omega) only[kc,aM,aa,be,aZ,bv,bE,aU,aO,aR,aX,aN,ab,aS,cp];apply hK)
 refine fK rfl (d7 ?_)
 show f6 _ _ _ _ _ _ _
 refine f6.weak (aT (tm:=[dx M,jk,.raw (.int .u8 (d:Int)),jk,.one (.ptr 4 0 0 0),jk,jk,jk,jk,jk,jk,jk,jk,jk,jk,jk,jk,jk,jk,jk,jk,jk,jk,jk,jk,jk,jk,jk,jk,jk,jk,jk,jk,jk,jk,jk,jk,jk,jk,jk,jk,jk,jk,jk,jk,jk,jk,jk,jk,jk,jk,jk,jk,jk,jk,jk,jk,jk,jk,jk,jk,jk,jk,jk,jk,jk,jk,jk,jk,jk,jk,jk,jk,jk,jk,jk,jk,jk,jk,jk,jk,jk,jk,jk,jk,jk,jk,jk,jk,jk,jk,jk,jk,jk,jk,jk,jk,jk,jk,jk,jk,jk,jk,jk,jk,jk,jk,jk,jk,jk]) (l:=[(4,GX A)]) ⟨rfl,trivial⟩ (by simp[di,b9,b8])) ?_
 (refine bX [] [] (by simp) fun K hK=>?_;simp(disch:=omega) only[kc,aM,aa,dx,Hm,ct,aU,Tryz.underlying5,IU,e1,aO,aR,aX,aN,ab,aS,e2,cQ,e3,cY,bU,bI,bv,jP,db,qZ,Int.natCast_nonneg,and_true,af];apply hK)
 (refine cP (bX [] [] (by simp) fun K hK=>?_);simp(disch:=omega) only[kc,aM,aa,be,aZ,bv,aN,ab];apply hK)
 refine f9 (G:=ov n) (fun g=>⟨[dx M,jk,jk,jk,.one (.ptr 4 0 0 0),jk,jk,.one (.sl 19 0 0 n),jk,jk,jk,jk,jk,jk,jk,jk,jk,jk,jk,jk,jk,.raw (.int .i64 (n:Int)),.raw (.int .i64 (g.i:Int)),jk,jk,jk,jk,jk,jk,jk,jk,jk,jk,jk,jk,jk,jk,jk,jk,jk,jk,jk,jk,jk,jk,jk,jk,jk,jk,jk,jk,jk,jk,jk,jk,jk,jk,jk,jk,jk,jk,jk,jk,jk,jk,jk,jk,jk,jk,jk,jk,jk,jk,jk,jk,jk,jk,jk,jk,jk,jk,jk,jk,jk,jk,jk,jk,jk,jk,jk,jk,jk,jk,jk,jk,jk,jk,jk,jk,jk,jk,jk,jk,jk,jk,jk,jk,jk,jk,jk],Hm [(4,GX A),(19,kI 19 n n g.i (fun _ _=>0))]⟩) (fun _=>jW) (fun g=>n-g.i) ⟨0,by omega⟩ ?_ rfl ?_
 ·refine aT ⟨rfl,?_,trivial⟩ ?_
  ·show[_]=_
   simp[kI,iX,dC]
  simp[di,b9,b8]
 rintro⟨i,hi⟩
 simp only
 by_cases hm:i<n
 ·have k1:=zw (i:=i) (n:=n) 19 n hm
  have k2:=vM (i:=i) (n:=n) 19 n hi
  have k3:=cT i n (fun _ _=>(0:Int))
  have k4:=vN (i:=i) (n:=n) (c:=n) 19 (fun _ _=>(0:Int)) hm (fun j hj=>rfl)
  (refine bX [] [] (by simp) fun K hK=>?_;simp(disch:=omega) only[kc,aM,dx,Hm,aU,aO,aR,aX,aS,cw];apply hK)
  refine cP (fv rfl (d7 ?_))
  refine cP (eh ?_)
  (refine bX [] [] (by simp) fun K hK=>?_;simp(disch:=omega) only[kc,aM];apply hK)
  ((refine eu [] [] (by simp) fun K hK=>?_);simp(disch:=omega) only[kc,aM,aa,be,aZ,bv,cY,bU,bI,ca,iT,dJ,ou,Int.natCast_nonneg,ab,and_true,cQ,af,d4,aQ,aW,bD,db,bo,ew,cU,k1,bu,Nat.reduceLeDiff,List.length_replicate,List.all_replicate,isPure,List.length_map,k3,k4,bz,bx,ak];apply hK)
  show f6 _ _ _ _ _ _ _
  refine f6.weak (aT (tm:=[dx M,jk,jk,jk,.one (.ptr 4 0 0 0),jk,jk,.one (.sl 19 0 0 n),jk,jk,jk,jk,jk,jk,jk,jk,jk,jk,jk,jk,jk,.raw (.int .i64 (n:Int)),.raw (.int .i64 (i:Int)),jk,jk,jk,jk,jk,jk,jk,jk,jk,jk,jk,jk,jk,jk,jk,jk,jk,jk,jk,jk,jk,jk,jk,jk,jk,jk,jk,jk,jk,jk,jk,jk,jk,jk,jk,jk,jk,jk,jk,jk,jk,jk,jk,jk,jk,jk,jk,jk,jk,jk,jk,jk,jk,jk,jk,jk,jk,jk,jk,jk,jk,jk,jk,jk,jk,jk,jk,jk,jk,jk,jk,jk,jk,jk,jk,jk,jk,jk,jk,jk,jk,jk,jk,jk,jk,jk,jk]) (l:=[(4,GX A),(19,kI 19 n n (i+1) (fun _ _=>0))]) ⟨rfl,?_,trivial⟩ (by simp[di,b9,b8])) ?_
  ·first|exact k4|rfl
  ((refine eu [] [] (by simp) fun K hK=>?_);simp(disch:=omega) only[kc,aM,dx,Hm,aU,aO,aR,aX,aN,ab,aS,cd];apply hK)
  refine⟨⟨i+1,by omega⟩,by simp only;omega,aT ⟨rfl,rfl,trivial⟩ ?_,rfl⟩
  simp[di,b9,b8]
 have hin:i=n:=by omega
 rw[hin,vL]
 (refine bX [] [] (by simp) fun K hK=>?_;simp(disch:=omega) only[kc,aM,dx,Hm,aU,aO,aR,aX,aS,cp];apply hK)
 refine cP (fK rfl (gB ?_))
 show f6 _ _ _ _ _ _ _
 clear hm hi hin
 (refine cP (bX [] [] (by simp) fun K hK=>?_);simp(disch:=omega) only[kc,aM,aa,be,aZ,bv,aN,ab];apply hK)
 refine f9 (G:=L9 n) (fun g=>⟨[dx M,jk,jk,jk,.one (.ptr 4 0 0 0),jk,jk,.one (.sl 19 0 0 n),jk,jk,jk,jk,jk,jk,jk,jk,jk,jk,jk,jk,jk,jk,jk,jk,jk,jk,jk,jk,jk,jk,jk,jk,jk,.raw (.int .i64 (n:Int)),.raw (.int .i64 (g.i:Int)),jk,jk,jk,jk,jk,jk,jk,jk,jk,jk,jk,jk,jk,jk,jk,jk,jk,jk,jk,jk,jk,jk,jk,jk,jk,jk,jk,jk,jk,jk,jk,jk,jk,jk,jk,jk,jk,jk,jk,jk,jk,jk,jk,jk,jk,jk,jk,jk,jk,jk,jk,jk,jk,jk,jk,jk,jk,jk,jk,jk,jk,jk,jk,jk,jk,jk,jk,jk,jk,jk,jk,jk,jk,jk,jk],Hm [(4,GX A),(19,gG 19 n n g.f)]⟩) (fun _=>jW) (fun g=>n-g.i) ⟨0,by omega,fun _ _=>0⟩ ?_ rfl ?_
 ·refine aT ⟨rfl,rfl,trivial⟩ ?_
  simp[di,b9,b8]
 rintro⟨i,hi,f⟩
 simp only
 by_cases hm:i<n
 ·have g1:=d5 (n:=n) (i:=i) 19 n hm
  have hi4:i<4:=by omega
  (refine bX [] [] (by simp) fun K hK=>?_;simp(disch:=omega) only[kc,aM,dx,Hm,aU,aO,aR,aX,aS,cw];apply hK)
  refine cP (fv rfl (d7 ?_))
  refine cP (eh ?_)
  (refine bX [] [] (by simp) fun K hK=>?_;simp(disch:=omega) only[kc,aM];apply hK)
  (refine bX [] [] (by simp) fun K hK=>?_;simp(disch:=omega) only[kc,aM,aN,ab];apply hK)
  refine f9 (G:=Ma i) (fun g=>⟨[dx M,jk,jk,jk,.one (.ptr 4 0 0 0),jk,jk,.one (.sl 19 0 0 n),jk,.raw (.int .i64 (i:Int)),.raw (.int .i64 (g.j:Int)),jk,jk,jk,jk,jk,jk,jk,jk,jk,jk,jk,jk,jk,jk,jk,jk,jk,jk,jk,jk,jk,jk,.raw (.int .i64 (n:Int)),.raw (.int .i64 (i:Int)),jk,jk,jk,jk,jk,jk,jk,jk,jk,jk,jk,jk,jk,jk,jk,jk,jk,jk,jk,jk,jk,jk,jk,jk,jk,jk,jk,jk,jk,jk,jk,jk,jk,jk,jk,jk,jk,jk,jk,jk,jk,jk,jk,jk,jk,jk,jk,jk,jk,jk,jk,jk,jk,jk,jk,jk,jk,jk,jk,jk,jk,jk,jk,jk,jk,jk,jk,jk,jk,jk,jk,jk,jk,jk,jk],Hm [(4,GX A),(19,gG 19 n n g.f)]⟩) (fun _=>jW) (fun g=>i+1-g.j) ⟨0,by omega,f⟩ ?_ rfl ?_
  ·refine aT ⟨rfl,rfl,trivial⟩ ?_
   simp[di,b9,b8]
  rintro⟨j,hj,q⟩
  simp only
  by_cases hji:j<=i
  ·have hj4:j<4:=by omega
   have g2:=d5 (n:=n) (i:=j) 19 n (by omega)
   have d1:=DQ A (show i*4+j*1<16 by omega)
   have hji':(j:Int)<=(i:Int):=by omega
   have e4:IntKind.i64.wrap ((j:Int)+1)=((j+1:Nat):Int):=by rw[show(j:Int)+1=((j+1:Nat):Int) by omega];exact cd (by omega) (by omega)
   have r1:=fo (n:=n) n q (i:=i) hm
   have q1:=cu (q i) (show j<n by omega)
   (refine cP (bX [] [] (by simp) fun K hK=>?_);simp(disch:=omega) only[kc,aM,aa,dx,Hm,aU,aO,aR,aX,aS,hji',cw];apply hK)
   refine fv rfl (d7 ?_)
   refine cP (eh ?_)
   (refine iI cJ [] [] (by kernel_rfl) (by simp) fun K hK=>?_;simp(disch:=omega) only[kc,aM,aa,aQ,aZ,aW,bv,af,db,cQ,g1,packT,dc,yx,yv,BP,hi4,yw,yu,BO,hj4,yr,d1,ct,aU,Tryz.underlying23,BN,ca,r1,dJ,bo,ew,cU,dp,fI,q1,cellsOf,ai,isPure,bu,jq,bz,bx];apply hK)
   refine f6.weak (aT (tm:=[dx M,jk,jk,jk,.one (.ptr 4 0 0 0),jk,jk,.one (.sl 19 0 0 n),jk,.raw (.int .i64 (i:Int)),.raw (.int .i64 (j:Int)),jk,jk,jk,jk,jk,jk,jk,jk,jk,jk,jk,jk,jk,jk,jk,jk,jk,jk,jk,jk,jk,jk,.raw (.int .i64 (n:Int)),.raw (.int .i64 (i:Int)),jk,jk,jk,jk,jk,jk,jk,jk,jk,jk,jk,jk,jk,jk,jk,jk,jk,jk,jk,jk,jk,jk,jk,jk,jk,jk,jk,jk,jk,jk,jk,jk,jk,jk,jk,jk,jk,jk,jk,jk,jk,jk,jk,jk,jk,jk,jk,jk,jk,jk,jk,jk,jk,jk,jk,jk,jk,jk,jk,jk,jk,jk,jk,jk,jk,jk,jk,jk,jk,jk,jk,jk,jk,jk,jk]) (l:=[(4,GX A),(19,gG 19 n n (upd q i j (IntKind.i64.wrap (A (i*4+j*1)))))]) ⟨rfl,rfl,trivial⟩ (by simp[di,b9,b8])) ?_
   generalize upd q i j (IntKind.i64.wrap (A (i*4+j*1)))=q2
   have r2:=fo (n:=n) n q2 (i:=i) hm
   have q3:=cu (q2 i) (show j<n by omega)
   by_cases hij:i=j
   ·subst hij
    (refine cP (bX [] [] (by simp) fun K hK=>?_);simp(disch:=omega) only[kc,aM,aa,dx,Hm,aU,aO,aR,aX,aS,cw];apply hK)
    refine fv rfl ?_
    ((refine i4 cJ [] [] (by kernel_rfl) (by simp) fun K hK=>?_);simp(disch:=omega) only[kc,aM,aa,aQ,aZ,aW,bv,af,db,cQ,g1,packT,dc,yx,yv,BP,hi4,yw,yu,BO,yr,d1,ct,aU,Tryz.underlying23,IV,Tryz.underlying5,BN,aO,aR,aX,aN,ab,aS,ca,r2,dJ,bo,ew,cU,dp,fI,q3,cellsOf,ai,isPure,bu,jq,bz,bx];apply hK)
    show f6 _ _ _ _ _ _ _
    obtain⟨q4,hq4⟩: ∃q4,q4=upd q2 i i (IntKind.i64.wrap (1+Int.tmod (IntKind.i64.wrap (IntKind.u8.wrap (A (i*4+i*1)))) 8)):=⟨_,rfl⟩
    refine f6.weak (aT (tm:=[dx M,jk,jk,jk,.one (.ptr 4 0 0 0),jk,jk,.one (.sl 19 0 0 n),jk,.raw (.int .i64 (i:Int)),.raw (.int .i64 (i:Int)),jk,jk,jk,jk,jk,jk,jk,jk,jk,jk,jk,jk,jk,jk,jk,jk,jk,jk,jk,jk,jk,jk,.raw (.int .i64 (n:Int)),.raw (.int .i64 (i:Int)),jk,jk,jk,jk,jk,jk,jk,jk,jk,jk,jk,jk,jk,jk,jk,jk,jk,jk,jk,jk,jk,jk,jk,jk,jk,jk,jk,jk,jk,jk,jk,jk,jk,jk,jk,jk,jk,jk,jk,jk,jk,jk,jk,jk,jk,jk,jk,jk,jk,jk,jk,jk,jk,jk,jk,jk,jk,jk,jk,jk,jk,jk,jk,jk,jk,jk,jk,jk,jk,jk,jk,jk,jk,jk,jk]) (l:=[(4,GX A),(19,gG 19 n n q4)]) ⟨rfl,by rw[hq4];rfl,trivial⟩ (by simp[di,b9,b8])) ?_
    clear hq4
    have r3:=fo (n:=n) n q4 (i:=i) hm
    have r4:=fo (n:=n) n q4 (i:=i) (by omega)
    have q5:=cu (q4 i) (show i<n by omega)
    have q6:=cu (q4 i) hm
    ((refine i4 cJ [] [] (by kernel_rfl) (by simp) fun K hK=>?_);simp(disch:=omega) only[kc,aM,aa,dx,Hm,aQ,aZ,aW,bv,af,db,cQ,g1,packT,dc,ca,r3,dJ,dp,fI,q5,et,bo,ew,cU,cellsOf,ai,isPure,bu,jq,bz,bx];apply hK)
    show f6 _ _ _ _ _ _ _
    ((refine eu [] [] (by simp) fun K hK=>?_);simp(disch:=omega) only[kc,aM,aa,aU,aO,aR,aX,aN,ab,aS,e4];apply hK)
    refine⟨⟨i+1,by omega,upd q4 i i (q4 i i)⟩,by simp only;omega,aT ⟨rfl,rfl,trivial⟩ ?_,rfl⟩
    simp[di,b9,b8]
   have hij': ¬(i:Int)=(j:Int):=by omega
   (refine cP (bX [] [] (by simp) fun K hK=>?_);simp(disch:=omega) only[kc,aM,aa,dx,Hm,aU,aO,aR,aX,aS,hij',decide_false];apply hK)
   refine fK rfl ?_
   ((refine eu [] [] (by simp) fun K hK=>?_);simp(disch:=omega) only[kc,aM,aa,aQ,aZ,aW,bv,af,db,cQ,g1,packT,dc,ca,r2,dJ,dp,fI,q3,et,aU,aO,aR,aX,aN,ab,aS,bo,ew,cU,cellsOf,ai,isPure,bu,jq,bz,bx];apply hK)
   show f6 _ _ _ _ _ _ _
   obtain⟨q4,hq4⟩: ∃q4,q4=upd q2 i j (Int.tmod (q2 i j) 4):=⟨_,rfl⟩
   refine f6.weak (aT (tm:=[dx M,jk,jk,jk,.one (.ptr 4 0 0 0),jk,jk,.one (.sl 19 0 0 n),jk,.raw (.int .i64 (i:Int)),.raw (.int .i64 (j:Int)),jk,jk,jk,jk,jk,jk,jk,jk,jk,jk,jk,jk,jk,jk,jk,jk,jk,jk,jk,jk,jk,jk,.raw (.int .i64 (n:Int)),.raw (.int .i64 (i:Int)),jk,jk,jk,jk,jk,jk,jk,jk,jk,jk,jk,jk,jk,jk,jk,jk,jk,jk,jk,jk,jk,jk,jk,jk,jk,jk,jk,jk,jk,jk,jk,jk,jk,jk,jk,jk,jk,jk,jk,jk,jk,jk,jk,jk,jk,jk,jk,jk,jk,jk,jk,jk,jk,jk,jk,jk,jk,jk,jk,jk,jk,jk,jk,jk,jk,jk,jk,jk,jk,jk,jk,jk,jk,jk,jk]) (l:=[(4,GX A),(19,gG 19 n n q4)]) ⟨rfl,by rw[hq4];rfl,trivial⟩ (by simp[di,b9,b8])) ?_
   clear hq4
   have r3:=fo (n:=n) n q4 (i:=i) hm
   have r4:=fo (n:=n) n q4 (i:=j) (by omega)
   have q5:=cu (q4 i) (show j<n by omega)
   have q6:=cu (q4 j) hm
   ((refine i4 cJ [] [] (by kernel_rfl) (by simp) fun K hK=>?_);simp(disch:=omega) only[kc,aM,aa,dx,Hm,aQ,aZ,aW,bv,af,db,cQ,g2,packT,dc,g1,ca,r3,dJ,dp,fI,q5,et,r4,bo,ew,cU,q6,cellsOf,ai,isPure,bu,jq,bz,bx];apply hK)
   show f6 _ _ _ _ _ _ _
   ((refine eu [] [] (by simp) fun K hK=>?_);simp(disch:=omega) only[kc,aM,aa,aU,aO,aR,aX,aN,ab,aS,e4];apply hK)
   refine⟨⟨j+1,by omega,upd q4 j i (q4 i j)⟩,by simp only;omega,aT ⟨rfl,rfl,trivial⟩ ?_,rfl⟩
   simp[di,b9,b8]
  have hji': ¬(j:Int)<=(i:Int):=by omega
  (refine cP (bX [] [] (by simp) fun K hK=>?_);simp(disch:=omega) only[kc,aM,aa,dx,Hm,aU,aO,aR,aX,aS,hji',decide_false];apply hK)
  refine fK rfl (gB ?_)
  show f6 _ _ _ _ _ _ _
  ((refine eu [] [] (by simp) fun K hK=>?_);simp(disch:=omega) only[kc,aM,aU,aO,aR,aX,aN,ab,aS,cd];apply hK)
  refine⟨⟨i+1,by omega,q⟩,by simp only;omega,aT ⟨rfl,rfl,trivial⟩ ?_,rfl⟩
  simp[di,b9,b8]
 (refine bX [] [] (by simp) fun K hK=>?_;simp(disch:=omega) only[kc,aM,dx,Hm,aU,aO,aR,aX,aS,cp];apply hK)
 refine cP (fK rfl (gB ?_))
 show f6 _ _ _ _ _ _ _
 refine f6.weak ((fp 19 (lh (d:=19) (n:=n) (c:=n) (f:=f) rfl)).trans (aT (tm:=[dx M,jk,jk,jk,jk,jk,jk,dx (dC n n f),jk,jk,jk,jk,jk,jk,jk,jk,jk,jk,jk,jk,jk,jk,jk,jk,jk,jk,jk,jk,jk,jk,jk,jk,jk,jk,jk,jk,jk,jk,jk,jk,jk,jk,jk,jk,jk,jk,jk,jk,jk,jk,jk,jk,jk,jk,jk,jk,jk,jk,jk,jk,jk,jk,jk,jk,jk,jk,jk,jk,jk,jk,jk,jk,jk,jk,jk,jk,jk,jk,jk,jk,jk,jk,jk,jk,jk,jk,jk,jk,jk,jk,jk,jk,jk,jk,jk,jk,jk,jk,jk,jk,jk,jk,jk,jk,jk,jk,jk,jk,jk,jk]) (l:=[]) trivial (by
  simp[di,b9,b8]
  (repeat' apply And.intro)<;>first|rfl|exact(Cx (H:=Hm [(4,GX A),(19,gG 19 n n f)]) (d:=19) (n:=n) (c:=n) (f:=f) rfl).symm))) ?_
 obtain⟨r',hr'⟩: ∃r:Bool,r=true↔yK (dC n n f):=by
  classical
  exact⟨decide (yK (dC n n f)),by simp⟩
 have c3:=l4 (dC n n f) r' hr'
 have c4:=pg (dC n n f) r' hr'
 generalize dC n n f=N at*
 (refine gp [⟨1,_,_,_,c1,rfl⟩,⟨7,_,_,_,c3,rfl⟩,⟨13,_,_,_,cA,rfl⟩] [⟨3,_,_,_,c2⟩,⟨9,_,_,_,c4⟩] [] (by simp) fun K hK=>?_;simp(disch:=omega) only[kc,dx,bj.a,io.a,aM,aa,Hm,aY,bU,bI,ac,ak,bO,cq,ae,bV,bW,bs,noRefTV,bf,bQ,bM,aU,aO,aR,aX,aS,fV,bP,cQ,b7];apply hK)
 (refine ib ⟨.inr rfl,rfl,bF rfl ?_ rfl⟩;simp(disch:=omega) only[cH,Tryz.results3,bH,ah,ag])
section
open Go.ChangeShapes Go.WideShapes Go.ChangeAt Go.RowKit
theorem GO (A:Nat->Int) {k:Nat} (h:k<16):(JF A)[k]?=some (.p (.raw (.int .i8 (A k)))):=by
 have hk:k=0\/k=1\/k=2\/k=3\/k=4\/k=5\/k=6\/k=7\/k=8\/k=9\/k=10\/k=11\/k=12\/k=13\/k=14\/k=15:=by omega
 rcases hk with rfl|rfl|rfl|rfl|rfl|rfl|rfl|rfl|rfl|rfl|rfl|rfl|rfl|rfl|rfl|rfl<;>rfl
theorem Fb {H:Type} {enc:TypeId×Value->H} {P:Program} {W:World} {base b0:Nat} {sp:Nat->Bool} {r:Reach} {held:Bool} {t t4 t1:TypeId} {v:Value} {d:DataW H} {p:List MemPlace}
  (ht:P.underlying t=some (.array 4 t4)) (ht4:P.underlying t4=some (.array 4 t1)) (ht1:P.underlying t1=some (.int .i8)) (hc:P.cellsOf t=16) (hc4:P.cellsOf t4=4) (hc1:P.cellsOf t1=1)
  (hv:Value.okWide P W r b0 t v) (h:DataW.Trod enc P W base sp held t v d p): ∃A:Nat->Int,(tA A).rel (fun _ _=>none) (fun _=>[]) (fun _=>False) W v:=by
 unfold Value.okWide at hv
 rw[ht]at hv
 obtain⟨cs,rfl,hsz,_⟩:=hv
 rw[hc]at hsz
 obtain⟨fuel,hf⟩:=h
 have hf:DataW.trod enc P W base sp held fuel t cs.toList=some (d,p):=hf
 obtain⟨xs,m1,rfl,_,hlen,hn,hel⟩:=DataW.trod_array ht hf
 have at_: ∀i j,i<4->j<4-> ∃z:Int,cs[i*4+j]?=some (.int .i8 z):=fun i j hi hj=>by
  have h1:=hel i hi
  rw[hc4]at h1
  obtain⟨y,hy⟩: ∃y,xs[i]?=some y:=⟨xs[i]'(by omega),List.getElem?_eq_getElem (by omega)⟩
  rw[hy]at h1
  obtain⟨ys,m2,rfl,_,hlen2,hn2,hel2⟩:=DataW.trod_array ht4 h1
  have h2:=hel2 j hj
  rw[hc1,Nat.mul_one]at h2
  obtain⟨y2,hy2⟩: ∃y,ys[j]?=some y:=⟨ys[j]'(by omega),List.getElem?_eq_getElem (by omega)⟩
  rw[hy2]at h2
  obtain⟨k,e1,_,_⟩:=DataW.trod_int ht1 h2
  refine⟨k,?_⟩
  have h3:=congrArg (fun l=>l[0]?) e1
  simp only[List.getElem?_take,List.getElem?_drop,Nat.add_zero]at h3
  rw[if_pos (by omega),if_pos hj]at h3
  simpa using h3
 refine⟨fun k=>match cs[k]? with|some (.int _ z)=>z|_=>0,cs,rfl,hsz,fun j x hx=>?_⟩
 have hj:j<16:=by
  have:=(List.getElem?_eq_some_iff.1 hx).1
  rwa[u7]at this
 rw[GO _ hj]at hx
 injection hx with hx
 subst hx
 obtain⟨z,hz⟩:=at_ (j/4) (j%4) (by omega) (by omega)
 rw[show j/4*4+j%4=j by omega]at hz
 refine⟨.int .i8 z,hz,rfl,?_⟩
 simp only[hz]
 exact ee.raw _ rfl
end
end Go.Proofs.YtfgeomlagfomgaaGreatDoor
