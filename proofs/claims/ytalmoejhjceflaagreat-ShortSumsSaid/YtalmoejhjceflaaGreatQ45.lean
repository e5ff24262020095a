/-
  Part 46 of a proof (walks and plain facts).
-/
import Derived.Test.YtalmoejhjceflaaGreatQ43
import Derived.Test.YtalmoejhjceflaaGreatQ44
set_option linter.all false
set_option maxRecDepth 100000
set_option maxHeartbeats 64000000
open Nat renaming reduceAdd → aa
open Nat renaming reduceBEq → af
namespace Go.Proofs.YtalmoejhjceflaaGreat
open Go.RowKit Go.Proofs.Tryz
variable {x:Int} {s:AS}
section
theorem NA {P:Program} {D:Type} {L:jd D} {u:List Nat} {g:D} {Q:Exit->AS->D->Prop} (y:P.follows .mixedOrders=true) (c:List (aq P)) (C:List Nat) {id:Nat} {b:Array Oper} (E:bZ [] b=true) (T:dK u b=true) (h: ∀K:AS->Prop,(∀q,Q .normal q g->K q)->aY P (c.map aq.a) C (aK b b.toList 0) (some s) K):fw P L u (.region id b true) Q s g:=fun H Y I O X a w r=>by
 obtain⟨G,h1,N⟩:=aP P (c.map aq.a) C b b.toList 0 s _ (h (fun q=>Q .normal q g) fun _ h=>h);have R:cY P (c.map aq.a) C b (List.range b.size) s=some G:=by
  grind [List.range_eq_range',gJ]
 refine(wpIn_wide (n:=0)).1 (wpIn_region_any (F:=FW none) y ?_);have A:k9 L u H Y I O X g s a {w with drawn:=w.drawn+1}:=by
  obtain⟨J,Oa,Xa,⟨Z,q2,M,m,l⟩,B⟩:=ii s a w r;have e:Ext w {w with drawn:=w.drawn+1}:=⟨rfl,rfl,rfl,acs _,fun _ _=>rfl⟩;have l:bo Xa M s a w:=l;exact B _ _ _ (fun _ _=>rfl) ⟨Z,q2,M,m.grow e,l.grow e⟩
 have f:mZ s:=by obtain⟨J,Oa,Xa,r,_⟩:=ii s a w r;exact fd r
 rw[<- xS];refine og (sep:=[]) (lZ E (by simp)) E (fun _ s a w=>k9 L u H Y I O X g s a w) ⟨f,fun x W=>by simp at W⟩ R (fun p a w _ z=>⟨G,g,N,z⟩) (fun p i o q aa a w K t U _ V z S=>?_) b.size (Array.replicate b.size false) s a _ (by simp) ?_ ?_ ?_ A
 ·obtain⟨J,Oa,Xa,ra,B⟩:=ii _ _ _ z;exact yl t V ra fun v w' r'=>S v w' (B _ _ _ (nr T t v) r')
 ·intro j o t hp;have hj:j<b.size:=(acB.1 t).1;simp_all
 ·grind
 have:mU b.size (fun j=>(Array.replicate b.size false).getD j true)=[]:=by
  simp_all[mU]
 rw[this];rfl
theorem pK {n m:Nat} {c:Int} {y D:List Int} {M acc:List (List Int)} {ex:Bool} (b:s.H 0=Gb 0 n m (c::y) D M acc ex):bJ s ⟨s.tmps,aF s.H 0 (Gb 0 n (m+1) y D M acc ex)⟩:=by
 have h:=n4 (s:=s) 0 3 (o:=⟨2,1,iE m++lc fI (c::y)⟩) (o':=⟨2,1,iE (m+1)++lc fI y⟩) (by rw[b];rfl) rfl rfl (by simp only[kS,acC];omega) fun i e f=>by
  rw[<- p9 m c y];grind [iE]
 grind
structure SrG (lo hi:Int) (h:Int->List (List Int)) (T:List (List Int)) where
 x:Int
 acc:List (List Int)
 h1:lo<=x
 e:acc++(rng x hi).flatMap h=T
section
variable {n:Nat} {f:FF} {B:Int} {ex:Bool}
theorem Hx (I:pJ n f B) (k:Nat) (y:List Int) (z:Bool) (acc:List (List Int)) (hk:y.length+(k+1)=n) (hT:rQ y) (hP:fj f n B (k+1) (aJ n y)) (hz:z=true->b9 f n B k (aJ n y)<=0) (R:(acc++Bx f n B ex k y z).length<=1000000)
  (ap: ∀j,k=j+1-> ∀c P,b9 f n B k (aJ n y)<=c->c<=cq f n B k (aJ n y)->(z=true->0<=c)->(P++Bx f n B ex j (c::y) (z&&decide (c=0))).length<=1000000->SrC n f B ex j (c::y) (z&&decide (c=0)) P):SrC n f B ex k y z acc:=by
 have cA:=I.n8;have ct:=I.d (k:=k) (by omega);have ab:=I.d (k:=k+1) (by omega);have a7:=aB (dk f) (show k<n+1 by omega);have a8:=aB (dk f) (show k+1<n+1 by omega);have cr:=aD (n+1) (dk f);have hM:=zX n f (show k<n by omega);have cs:=nt n f n;have bc:(pC n f k).length=n-k-1:=aD _ _;have hR: ∀i,i<y.length->(pC n f k)[i]?=some (bk f k k (k+(i+1))):=fun i E=>aB _ (by omega)
 have Z:=fun m (hm:m<=y.length)=>I.shP_c hk hT hm
 have U:=rk f hk;have cD:=I.rs0 (k:=k+1) (by omega) hP;have N:=I.sq (k:=k) (by omega) hP;have b0:=I.lohi hk hT hP;have b3:=Xw (m:=y.length+1) (by omega);have cE:=pZ N.1 N.2;have cR:=AL (.inr (.inl rfl)) _ N.1 N.2;have a4:=fun c=>I.step hk (c:=c) hP
 have a3:dk f k*sV f n B (k+1) (aJ n y)=fH f n B k (aJ n y):=rfl;have an:b9 f n B k (aJ n y)=0-(isqF (fH f n B k (aJ n y))+xq f k y y.length)/dk f (k+1):=by grind [b9]
 have ah:cq f n B k (aJ n y)=(isqF (fH f n B k (aJ n y))-xq f k y y.length)/dk f (k+1):=by rw[U];rfl
 have cm:=Z y.length (acs _);have a5:=qL (.inr (.inl rfl)) (isqF (fH f n B k (aJ n y))+xq f k y y.length) (dk f (k+1)) ab.1 (by omega) (by omega) (by omega);have a6:=qL (.inr (.inl rfl)) (isqF (fH f n B k (aJ n y))-xq f k y y.length) (dk f (k+1)) ab.1 (by omega) (by omega) (by omega);have e1:IntKind.i64.wrap ((k:Int)+1)=((k+1:Nat):Int):=aL (by omega) (by omega);have hS: ∃h:Int->List (List Int),Bx f n B ex k y z=(rng (if z=true then 0 else b9 f n B k (aJ n y)) (cq f n B k (aJ n y))).flatMap h/\(k=0-> ∀c,h c=if(z&&decide (c=0))=true\/(ex&&!decide (sV f n B k (aJ n (c::y))=0))=true then[]else[c::y])/\ ∀j,k=j+1-> ∀c,h c=Bx f n B ex j (c::y) (z&&decide (c=0)):=by
  cases k with
  |zero=>exact⟨_,rfl,fun _ _=>rfl,fun j e=>absurd e (by omega)⟩
  |succ j=>
   refine⟨_,rfl,fun e=>absurd e (by omega),fun j' e c=>?_⟩;grind
 obtain⟨h,hS,ae,ag⟩:=hS;have a1:xq f k y 0=0:=rfl;have a2: ∀i,xq f k y i+bk f k k (k+(i+1))*y.getD i 0=xq f k y (i+1):=fun _=>rfl
 rw[<- U]at a4;have av: ∀c,fj f n B k (aJ n (c::y))->0<=sV f n B k (aJ n (c::y))/\sV f n B k (aJ n (c::y))<=70368744177664:=fun c h=>I.rs0 (by omega) h
 clear I hP hT;unfold SrC at*
 rw[hS]at R⊢;clear hS;generalize b9 f n B k (aJ n y)=lo at*
 generalize cq f n B k (aJ n y)=E at*
 generalize fH f n B k (aJ n y)=sq at*
 generalize sV f n B (k+1) (aJ n y)=X at*
 generalize isqF sq=rt at*
 generalize aN (n+1) (dk f)=D at*
 generalize gy n f n=M at*
 generalize pC n f k=r at*
 generalize dk f (k+1)=d1 at*
 generalize dk f k=d0 at*
 generalize xq f k y=F at*
 have cy: -46911780290560<=lo/\lo<=46911780290560:=by omega
 have cv: -46911780290560<=E/\E<=46911780290560:=by omega
 clear b0 b3;have cl:(d1=0)=False:=eq_false (by omega);refine tP func139 rfl (by kernel_rfl) YM (by simp) (by simp[selfTV,bH]) (by simp[selfTV]) (Gc 0 _ _ _ _ _ _ _) (Gc 0 _ _ _ _ _ _ _) (ZK 0 _ _ _ _ _ _ _ _ _ _) ?_;rw[ntmps139];refine fw.weak (aj (tm:=(.raw (.int .i64 (k:Int))::.raw (.int .i64 X)::.raw (.bool z)::.one (.ptr 0 1 0 0)::.one (.ptr 0 2 0 0)::.one (.ptr 0 0 0 0)::.one (.ptr 0 6 0 0)::.one (.ptr 0 4 0 0)::j16 (j16 (j16 (j16 (j16 (j16 (j16 (jk::jk::jk::[]))))))))) (l:=[(0,Gb 0 n (k+1) y D M acc ex)]) ⟨rfl,trivial⟩ (by simp[wk,List.replicate])) ?_;refine eR (aC e1 a8) (k:=bX (eR (aC hM bc) (k:=?_)));refine lQ (G:=fY y.length) (fun q=>⟨(.raw (.int .i64 (k:Int))::.raw (.int .i64 X)::.raw (.bool z)::.one (.ptr 0 1 0 0)::.one (.ptr 0 2 0 0)::.one (.ptr 0 0 0 0)::.one (.ptr 0 6 0 0)::.one (.ptr 0 4 0 0)::jk::jk::jk::.raw (.int .i64 d1)::.raw (.int .i64 (F q.i))::j16 (jk::jk::jk::.one (.p (.sl (ls fI r)))::rN y.length::rN q.i::j16 (j16 (j16 (j16 (j16 (j4 (j4 ([]))))))))),Hm [(0,Gb 0 n (k+1) y D M acc ex)]⟩) (fun _=>()) (fun q=>y.length-q.i) ⟨0,by omega⟩ ?_ rfl ?_
 ·refine aj ⟨rfl,trivial⟩ ?_;simp[wk,a1];omega
 rintro⟨i,cx⟩;simp only;by_cases hm:i<y.length
 ·have ba:=hR i hm;have s0:=Z i (by omega);have s1:=Z (i+1) (by omega);have s2:=a2 i;have e3:IntKind.i64.wrap (((k+1:Nat):Int)+(i:Int))=((k+1+i:Nat):Int):=by rw[aL (by omega) (by omega)];omega
  have bn:=RY (k+1) i y;have bp:=kS (k+1) y;have cg:y[i]?=some (y.getD i 0):=by rw[acm,acy hm];rfl
  generalize bk f k k (k+(i+1))=q at*
  generalize y.getD i 0=yi at*
  refine iu (k:=IX rfl (bX (ib (eR ba (k:=tC (aC e1 (aC e3 (aC bn (aC cg s2)))) (k:=xA (k:=?_)))))));refine⟨⟨i+1,by omega⟩,by grind,aj ⟨rfl,trivial⟩ ?_,trivial⟩;simp[wk]
 have br:i=y.length:=by omega
 subst br;refine iu (k:=IV rfl (eR (aC a7 a3) (k:=QF [⟨1,_,_,_,cR⟩] (k:=?_))));refine pP [⟨4,_,_,_,a5⟩,⟨10,_,_,_,a6⟩] [] (by kernel_rfl) fun _ K=>?_;simp(disch:=omega) only[kd,<- ah,aa,aL,<- an,af];apply K
 refine bX (FJ (S:=⟨(.raw (.int .i64 (k:Int))::jk::.raw (.bool z)::.one (.ptr 0 1 0 0)::.one (.ptr 0 2 0 0)::.one (.ptr 0 0 0 0)::.one (.ptr 0 6 0 0)::.one (.ptr 0 4 0 0)::jk::jk::jk::.raw (.int .i64 d1)::.raw (.int .i64 (F y.length))::jk::jk::.raw (.int .i64 sq)::jk::.raw (.int .i64 (if z=true then 0 else lo))::.raw (.int .i64 E)::j16 (j16 (j16 (j16 (j16 (j16 (j4 (j4 ([]))))))))),Hm [(0,Gb 0 n (k+1) y D M acc ex)]⟩) ?_ ?_)
 ·cases z with
  |true=>
   refine iu (k:=iN rfl (xA (k:=?_)));refine⟨aj ⟨rfl,trivial⟩ ?_,rfl⟩;simp[wk]
  |false=>
   refine iu (k:=ir rfl (eP ?_));refine⟨aj ⟨rfl,trivial⟩ ?_,rfl⟩;simp[wk]
 refine iu (k:=?_);have bh:((acc++(rng (if z=true then 0 else lo) E).flatMap h)).length<=1000000:=R;generalize bl:acc++(rng (if z=true then 0 else lo) E).flatMap h=T at*
 refine lQ (G:=SrG (if z=true then 0 else lo) E h T) (fun v=>⟨(.raw (.int .i64 (k:Int))::jk::.raw (.bool z)::.one (.ptr 0 1 0 0)::.one (.ptr 0 2 0 0)::.one (.ptr 0 0 0 0)::.one (.ptr 0 6 0 0)::.one (.ptr 0 4 0 0)::jk::jk::jk::.raw (.int .i64 d1)::.raw (.int .i64 (F y.length))::jk::jk::.raw (.int .i64 sq)::jk::jk::.raw (.int .i64 E)::.raw (.int .i64 v.x)::j16 (j16 (j16 (j16 (j16 (j16 (j4 (jk::jk::jk::[])))))))),Hm [(0,Gb 0 n (k+1) y D M v.acc ex)]⟩) (fun _=>()) (fun v=>(E+1-v.x).toNat) ⟨_,acc,adT _,bl⟩ ?_ rfl ?_
 ·refine aj ⟨rfl,trivial⟩ ?_;simp[wk]
 rintro⟨x,C,cL,w⟩;simp only;by_cases hx:x<=E
 ·have cc:z=true->0<=x:=fun e=>by grind
  have V:lo<=x:=by
   cases z with
   |true=>grind
   |false=>grind
  obtain⟨a9,hq⟩:=a4 x V hx;have b2:=av x a9;rw[i5 hx,aeF,<- acI]at w;have J:(C++h x).length<=1000000:=by
   rw[<- w,acJ]at bh;omega
  have cM:(d1*x).natAbs<=65535*46911780290560:=by
   rw[adt];exact acU (by omega) (by omega)
  have Q:=fun e=>ae e x
  generalize a0:sV f n B k (aJ n (x::y))=O at*
  have b1:0<=d1*O:=acP (by omega) b2.1;have ad:Int.tdiv (sq-(d1*x+F y.length)*(d1*x+F y.length)) d1=O:=by rw[hq];exact afa _ (by omega)
  have cI:0<=(d1*x+F y.length)*(d1*x+F y.length):=by
   rcases aec 0 (d1*x+F y.length)with h|h
   ·exact acP h h
   exact ac3 h h
  have bp:=kS (k+1) y;have bq:=p9 k x y;have bm:(iE (k+1)++lc fI y)[k]?=some [.junk]:=by
   rw[acx (by simp[iE])];simp[iE]
  refine bX (iu (k:=iN rfl (eP (bX (ib (eR (aC bm bq) (k:=iu (k:=?_))))))));generalize hU:(d1*x+F y.length)*(d1*x+F y.length)=uu at*
  refine eR (aC hU ad) (k:=ib ?_);cases k with
  |zero=>
   have L:=Q rfl;obtain⟨bb,u⟩: ∃bb:Bool,bb=((z&&decide (x=0))||(ex&&!decide (O=0))):=⟨_,rfl⟩;have al:h x=if bb=true then[]else[x::y]:=by rw[L,u];simp
   clear L Q ae ag;have bw:(0<((0:Nat):Int))=False:=eq_false (by omega);have bt:iE 0++lc fI (x::y)=lc fI (x::y):=rfl;refine eR bw (k:=ir rfl ?_);simp only[bt];refine bX (FJ (S:=⟨(.raw (.int .i64 ((0:Nat):Int))::jk::.raw (.bool z)::.one (.ptr 0 1 0 0)::.one (.ptr 0 2 0 0)::.one (.ptr 0 0 0 0)::.one (.ptr 0 6 0 0)::.one (.ptr 0 4 0 0)::jk::jk::jk::.raw (.int .i64 d1)::.raw (.int .i64 (F y.length))::jk::jk::.raw (.int .i64 sq)::jk::jk::.raw (.int .i64 E)::.raw (.int .i64 x)::j16 (j16 (j16 (j16 (j16 (j4 (j4 (j4 (.raw (.bool bb)::j4 (j4 (jk::jk::[]))))))))))),Hm [(0,Gb 0 n 0 (x::y) D M C ex)]⟩) ?_ ?_)
   ·cases z with
    |false=>
     refine iu (k:=ir rfl ?_);cases ex with
     |false=>
      refine xA (k:=?_);refine⟨aj ⟨rfl,trivial⟩ ?_,rfl⟩;simp[wk,u]
     |true=>
      by_cases t:O=0
      ·have A:(O=0)=True:=eq_true t;refine tC A (k:=?_);refine⟨aj ⟨rfl,trivial⟩ ?_,rfl⟩;simp[wk,u,t]
      have A:(O=0)=False:=eq_false t;refine tC A (k:=?_);refine⟨aj ⟨rfl,trivial⟩ ?_,rfl⟩;simp[wk,u,t]
    |true=>
     by_cases b:x=0
     ·have s:(x=0)=True:=eq_true b;refine eR s (k:=iN rfl (eP ?_));refine⟨aj ⟨rfl,trivial⟩ ?_,rfl⟩;simp[wk,u,b]
     have s:(x=0)=False:=eq_false b;refine eR s (k:=ir rfl ?_);cases ex with
     |false=>
      refine xA (k:=?_);refine⟨aj ⟨rfl,trivial⟩ ?_,rfl⟩;simp[wk,u,b]
     |true=>
      by_cases t:O=0
      ·have A:(O=0)=True:=eq_true t;refine tC A (k:=?_);refine⟨aj ⟨rfl,trivial⟩ ?_,rfl⟩;simp[wk,u,t,b]
      have A:(O=0)=False:=eq_false t;refine tC A (k:=?_);refine⟨aj ⟨rfl,trivial⟩ ?_,rfl⟩;simp[wk,u,t,b]
   rw[al]at w J;cases bb with
   |true=>
    rw[if_pos rfl,adc]at w;refine iN rfl (eP (xA (k:=?_)));refine⟨⟨x+1,C,by omega,w⟩,by simp only;omega,(pK (m:=0) rfl).trans (aj ⟨rfl,trivial⟩ ?_),trivial⟩;simp[wk]
   |false=>
    rw[if_neg (by decide)]at w J;have cC:=Q4 (x::y) (by simp) (by grind);have cp:(x::y).length=n:=by omega
    have ci:C.length+1<=1000000:=by grind
    generalize b5:x::y=xy at*
    refine ir rfl ?_;refine B9 cu 2 0 96 3 0 2 (lc fI xy) (.sl (ls fI xy)) (f:=142) (ts:=[.one (.sl 0 3 0 n)]) [] [] (by kernel_rfl) (by kernel_rfl) rfl (by decide) fun K g=>?_
    simp only[kd];refine g _ ⟨rfl,rfl,rfl,?_,?_⟩
    ·intro vs b4;obtain rfl:vs=[]:=aee b4;refine⟨_,_,cC,⟨rfl,fun o ho e w x hx=>?_⟩,⟨.inr (.inl ⟨3,0,n,_,rfl,rfl,bL 2 1 xy,?_⟩),trivial⟩,fun H hH=>?_⟩
     ·simp only[aco]at ho;subst ho;obtain⟨z,_,rfl⟩:=acn.1 w;simp only[fI,acA,acT,aco]at hx;subst hx;rfl
     ·grind [jY,qP]
     simp only[acA,acT,renO,gT]at hH;refine⟨bf hH,?_⟩;simp only[renTV,b6,fk,dP,if_true,hH,adZ];grind [jY,gz]
    clear g K;intro K g;simp(disch:=omega) only[kd,aa,Nat.reduceMul,Nat.reduceLeDiff,List.any_cons,af,List.any_nil];apply g;clear g K;show fw _ _ _ _ _ _ _;refine xA (k:=?_);subst b5;refine⟨⟨x+1,C++[x::y],by omega,w⟩,by simp only;omega,(pK (m:=0) (c:=x) (y:=y) (acc:=C++[x::y]) ?_).trans (aj ⟨rfl,trivial⟩ ?_),trivial⟩
    ·have bx:List.map (List.map (aR fun x y=>x==0&&y==5)) (iE 0++lc fI (x::y))=iE 0++lc fI (x::y):=x5 _ _;simp only[aS,bx,Gb,acJ,acC,aei,acQ,<- JW];rfl
    simp[wk]
  |succ j=>
   have L:=ag j rfl x;have e4:IntKind.i64.wrap (((j+1:Nat):Int)-1)=(j:Int):=by rw[aL (by omega) (by omega)];omega
   have bR:(0<((j+1:Nat):Int))=True:=eq_true (by omega);rw[L]at J w;have Y:=ap j rfl x C V hx cc J;rw[a0]at Y;generalize Bx f n B ex j (x::y) (z&&decide (x=0))=W at*
   refine eR bR (k:=iN rfl ?_);cases z with
   |false=>
    simp only[afi]at Y;refine jQ 9 Y 0 [] [] (by kernel_rfl) (by omega) (by decide) fun K g=>?_
    simp(disch:=omega) only[kd,aa,e4];refine g _ ⟨⟨rfl,(xX 0 0 _ _ _ _ _ _ _).symm⟩,?_⟩;clear g K;intro K g;simp(disch:=omega) only[kd,aa,Jo,cwD,YM,uh,pB,af,ac1,jp];apply g;clear g K;show fw _ _ _ _ _ _ _;refine xA (k:=?_);refine⟨⟨x+1,C++W,by omega,w⟩,by simp only;omega,(pK rfl).trans (aj ⟨rfl,trivial⟩ ?_),trivial⟩;simp[wk]
   |true=>
    by_cases b:x=0
    ·subst b;simp only[afv,decide_true]at Y;refine jQ 9 Y 0 [] [] (by kernel_rfl) (by omega) (by decide) fun K g=>?_
     simp(disch:=omega) only[kd,aa,e4];refine g _ ⟨⟨rfl,(xX 0 0 _ _ _ _ _ _ _).symm⟩,?_⟩;clear g K;intro K g;simp(disch:=omega) only[kd,aa,Jo,cwD,YM,uh,pB,af,ac1,jp];apply g;clear g K;show fw _ _ _ _ _ _ _;refine xA (k:=?_);refine⟨⟨0+1,C++W,by omega,w⟩,by simp only;omega,(pK rfl).trans (aj ⟨rfl,trivial⟩ ?_),trivial⟩;simp[wk]
    have s:(x=0)=False:=eq_false b;simp only[afv,s,decide_false]at Y;refine jQ 9 Y 0 [] [] (by kernel_rfl) (by omega) (by decide) fun K g=>?_
    simp(disch:=omega) only[kd,aa,e4,s];refine g _ ⟨⟨rfl,(xX 0 0 _ _ _ _ _ _ _).symm⟩,?_⟩;clear g K;intro K g;simp(disch:=omega) only[kd,aa,Jo,cwD,YM,uh,pB,af,ac1,jp];apply g;clear g K;show fw _ _ _ _ _ _ _;refine xA (k:=?_);refine⟨⟨x+1,C++W,by omega,w⟩,by simp only;omega,(pK rfl).trans (aj ⟨rfl,trivial⟩ ?_),trivial⟩;simp[wk]
 rw[kL hx,aer,adc]at w;subst w;refine bX (iu (k:=ir rfl (pN ?_)));show _/\_;refine⟨.inl rfl,trivial,_,aj (tm:=(jk::jk::jk::.one (.ptr 0 1 0 0)::.one (.ptr 0 2 0 0)::.one (.ptr 0 0 0 0)::.one (.ptr 0 6 0 0)::.one (.ptr 0 4 0 0)::j16 (j16 (j16 (j16 (j16 (j16 (j16 (jk::jk::jk::[]))))))))) (l:=[(0,Gb 0 n (k+1) y D M C ex)]) ⟨rfl,trivial⟩ (by simp[wk]),⟨dA _,rfl⟩,by simp⟩
end
end
section
noncomputable def td (f:FF) (n:Nat) (B:Int):Nat->List Int->List (Int×Int)
 |0,y=>[(b9 f n B 0 (aJ n y),cq f n B 0 (aJ n y))]
 |k+1,y=>(b9 f n B (k+1) (aJ n y),cq f n B (k+1) (aJ n y))::(rng (b9 f n B (k+1) (aJ n y)) (cq f n B (k+1) (aJ n y))).flatMap fun c=>td f n B k (c::y)
abbrev IB (a n m:Nat) (y D:List Int) (M:List (List Int)) (acc:List (Int×Int)):List OObj:=[⟨190,1,[[.fn 146 a [(1,0,0),(2,0,0),(4,0,0),(0,0,0)]]]⟩,⟨188,2,[[.p (.sl (ls fI D)),.p (.sl (ls (fR fI) M))]]⟩,⟨35,1,[[.sl a 3 0 n]]⟩,⟨2,1,iE m++lc fI y⟩,⟨76,1,[[.sl a 5 0 acc.length]]⟩,⟨133,2,lc fV acc⟩]
theorem L6 (a d n m:Nat) (y D:List Int) (M:List (List Int)) (acc:List (Int×Int)):(IB a n m y D M acc).map (renO d)=IB d n m y D M acc:=by
 simp only[IB,acA,acT,renO,b6,gT,ac1,jp,afW,ada,if_false]
theorem Gr (a n m:Nat) (y D:List Int) (M:List (List Int)) (acc:List (Int×Int)): ∀o∈IB a n m y D M acc,selfO a o:=fun o f e b x c=>by
 simp only[acR,ado,or_false]at f;rcases f with rfl|rfl|rfl|rfl|rfl|rfl
 ·simp only[aco]at b;subst b;simp only[aco]at c;subst c;exact⟨rfl,by simp⟩
 ·simp only[aco]at b;subst b;simp only[acR,ado,or_false]at c;rcases c with rfl|rfl<;>trivial
 ·simp only[aco]at b;subst b;simp only[aco]at c;subst c;rfl
 ·simp only[adh]at b;rcases b with b|b
  ·obtain⟨_,rfl⟩:=aev.1 b;simp only[aco]at c;subst c;trivial
  exact df (bL 2 1 _ e b x c)
 ·simp only[aco]at b;subst b;simp only[aco]at c;subst c;rfl
 exact df (bL 133 2 _ e b x c)
abbrev emP:List (Nat×Nat):=[(1,2),(2,3),(4,4),(0,5)]
theorem ZO (a n m f:Nat) (y g D:List Int) (M:List (List Int)) (acc b:List (Int×Int)): ∀r∈emP.map Prod.fst,∀o,(IB a n m y D M acc)[r]?=some o-> ∃c,(IB a n f g D M b)[r]?=some c/\c.es=o.es/\o.elems.length<=c.elems.length:=fun r e o h=>by
 simp only[emP,acA,acT,acR,ado,or_false]at e;grind
abbrev emA (k:Nat) (b:Int):List TV:=[.raw (.int .i64 (k:Int)),.raw (.int .i64 b),.one (.ptr 0 1 0 0),.one (.ptr 0 2 0 0),.one (.ptr 0 4 0 0),.one (.ptr 0 0 0 0)]
abbrev EmC (n:Nat) (f:FF) (B:Int) (k:Nat) (y:List Int) (acc:List (Int×Int)):Prop:=
 mY prog noL (emP.map Prod.fst) 146 (emA k (sV f n B (k+1) (aJ n y))) (IB 0 n (k+1) y (aN (n+1) (dk f)) (gy n f n) acc) (IB 0 n (k+1) y (aN (n+1) (dk f)) (gy n f n) (acc++td f n B k y)) () () (.tup [])
theorem Qk {n m:Nat} {y D:List Int} {M:List (List Int)} {acc:List (Int×Int)} (b:s.H 0=IB 0 n m (x::y) D M acc):bJ s ⟨s.tmps,aF s.H 0 (IB 0 n (m+1) y D M acc)⟩:=by
 have h:=n4 (s:=s) 0 3 (o:=⟨2,1,iE m++lc fI (x::y)⟩) (o':=⟨2,1,iE (m+1)++lc fI y⟩) (by rw[b];rfl) rfl rfl (by simp only[kS,acC];omega) fun i e f=>by
  rw[<- p9 m x y];grind [iE]
 grind
theorem RZ (m:Nat) (y:List Int) (b:Nat->Nat->Bool):List.map (List.map (aR b)) (iE m++lc fI y)=iE m++lc fI y:=by
 simp_all[x5,iE,aR]
structure EmG (lo hi:Int) (h:Int->List (Int×Int)) (T:List (Int×Int)) where
 x:Int
 acc:List (Int×Int)
 h1:lo<=x
 e:acc++(rng x hi).flatMap h=T
section
variable {n:Nat} {f:FF} {B:Int}
theorem Rz (q:pJ n f B) (k:Nat) (y:List Int) (acc:List (Int×Int)) (Q:y.length+(k+1)=n) (hT:rQ y) (I:fj f n B (k+1) (aJ n y)) (g:(acc++td f n B k y).length<=2000000)
  (U: ∀j,k=j+1-> ∀c w,b9 f n B k (aJ n y)<=c->c<=cq f n B k (aJ n y)->(w++td f n B j (c::y)).length<=2000000->EmC n f B j (c::y) w):EmC n f B k y acc:=by
 have bq:=q.n8;have bm:=q.d (k:=k) (by omega);have N:=q.d (k:=k+1) (by omega);have ag:=aB (dk f) (show k<n+1 by omega);have ah:=aB (dk f) (show k+1<n+1 by omega);have bh:=aD (n+1) (dk f);have X:=q.shP_c Q hT (acs _);have A:=rk f Q;have br:=q.rs0 (k:=k+1) (by omega) I;have t:=q.sq (k:=k) (by omega) I;have a5:=q.lohi Q hT I;have a9:=Xw (m:=y.length+1) (by omega);have bt:=pZ t.1 t.2;have cR:=AL (.inr (.inr rfl)) _ t.1 t.2;have cS:=fun xs h1 h2=>Xd q k y xs Q hT h1 h2
 have a8:=fun c=>q.step Q (c:=c) I
 have Y:dk f k*sV f n B (k+1) (aJ n y)=fH f n B k (aJ n y):=rfl;rw[A]at X;have S:b9 f n B k (aJ n y)=0-(isqF (fH f n B k (aJ n y))+jb f n k (aJ n y))/dk f (k+1):=by grind [b9]
 have P:cq f n B k (aJ n y)=(isqF (fH f n B k (aJ n y))-jb f n k (aJ n y))/dk f (k+1):=rfl;have ad:=qL (.inr (.inr rfl)) (isqF (fH f n B k (aJ n y))+jb f n k (aJ n y)) (dk f (k+1)) N.1 (by omega) (by omega) (by omega);have ae:=qL (.inr (.inr rfl)) (isqF (fH f n B k (aJ n y))-jb f n k (aJ n y)) (dk f (k+1)) N.1 (by omega) (by omega) (by omega);have e1:IntKind.i64.wrap ((k:Int)+1)=((k+1:Nat):Int):=aL (by omega) (by omega);have hS: ∃h:Int->List (Int×Int),td f n B k y=(b9 f n B k (aJ n y),cq f n B k (aJ n y))::(if k=0 then[]else(rng (b9 f n B k (aJ n y)) (cq f n B k (aJ n y))).flatMap h)/\ ∀j,k=j+1-> ∀c,h c=td f n B j (c::y):=by
  cases k with
  |zero=>exact⟨fun _=>[],rfl,fun j e=>absurd e (by omega)⟩
  |succ j=>
   refine⟨_,rfl,fun j' e c=>?_⟩;grind
 obtain⟨h,hS,a0⟩:=hS;have V: ∀c,fj f n B k (aJ n (c::y))->0<=sV f n B k (aJ n (c::y))/\sV f n B k (aJ n (c::y))<=70368744177664:=fun c h=>q.rs0 (by omega) h
 clear q I hT A;unfold EmC at*
 rw[hS]at g⊢;clear hS;generalize b9 f n B k (aJ n y)=u at*
 generalize cq f n B k (aJ n y)=b at*
 generalize fH f n B k (aJ n y)=sq at*
 generalize sV f n B (k+1) (aJ n y)=ab at*
 generalize isqF sq=rt at*
 generalize aN (n+1) (dk f)=D at*
 generalize gy n f n=M at*
 generalize dk f (k+1)=d1 at*
 generalize dk f k=d0 at*
 generalize jb f n k (aJ n y)=s at*
 have bp: -46911780290560<=u/\u<=46911780290560:=by omega
 have bn: -46911780290560<=b/\b<=46911780290560:=by omega
 clear a5 a9;have bc:(d1=0)=False:=eq_false (by omega);have L:acc.length+1<=2000000:=by
  grind
 refine tP func146 rfl (by kernel_rfl) emP (by simp) (by simp[selfTV,bH]) (by simp[selfTV]) (Gr 0 _ _ _ _ _ _) (Gr 0 _ _ _ _ _ _) (ZO 0 _ _ _ _ _ _ _ _ _) ?_;rw[ntmps146];refine fw.weak (aj (tm:=(.raw (.int .i64 (k:Int))::.raw (.int .i64 ab)::.one (.ptr 0 1 0 0)::.one (.ptr 0 2 0 0)::.one (.ptr 0 4 0 0)::.one (.ptr 0 0 0 0)::j16 (j16 (j16 (j16 (j4 (j4 (jk::[])))))))) (l:=[(0,IB 0 n (k+1) y D M acc)]) ⟨rfl,trivial⟩ (by simp[wk,List.replicate])) ?_;refine bX (B9 cu 8 0 24 3 (k+1) 2 (lc fI y) (.raw (.int .i64 s)) (f:=147) (ts:=[.one (.ptr 0 1 0 0),.raw (.int .i64 (k:Int)),.one (.sl 0 3 0 n)]) [] [] (by kernel_rfl) (by kernel_rfl) rfl (by decide) fun K z=>?_);simp(disch:=omega) only[kd,aa,e1,ah];refine z _ ⟨rfl,rfl,rfl,?_,?_⟩
 ·intro vs ba;refine⟨_,_,cS (vs.map (fun v=>[PV.raw v])++ls fI y) (by grind [d8]) (fun i b=>?_),⟨rfl,by simp⟩,⟨.inr (.inr ⟨1,0,0,_,_,rfl,rfl,rfl,by simp[isPure],rfl⟩),.inl ⟨rfl,rfl⟩,.inr (.inl ⟨3,0,n,_,rfl,rfl,?_,?_⟩),trivial⟩,fun H hH=>⟨fun r o ho=>by rw[hH]at ho;simp at ho,rfl⟩⟩
  ·rw[acD (by rw[ac0];omega),ac0,ba,show k+1+i-(k+1)=i by omega,gV,acy b,acm,acy b];rfl
  ·intro e p x C;simp only[adh,acn]at p;rcases p with⟨v,_,rfl⟩|p
   ·simp only[aco]at C;subst C;rfl
   exact bL 2 1 y e p x C
  rw[acQ,adC,ack (by grind [jY]),ac1,qP,adH];rfl
 clear z K;intro K z;simp only[kd,aa];apply z;clear z K cS;show fw _ _ _ _ _ _ _;refine eR (aC ag Y) (k:=QF [⟨1,_,_,_,cR⟩] (k:=?_));refine pP [⟨4,_,_,_,ad⟩,⟨10,_,_,_,ae⟩] [] (by kernel_rfl) fun _ K=>?_;simp(disch:=omega) only[kd,<- P,aa,aL,<- S,af];apply K
 have R: ∀κ,List.map (List.map (aR κ)) (iE (k+1)++lc fI y)=iE (k+1)++lc fI y:=RZ (k+1) y;refine eR (aC @List.any_cons.{0} (aC @List.any_nil.{0} R)) (k:=?_);clear R;generalize E:acc++[(u,b)]=F at*
 refine fw.weak (aj (tm:=(.raw (.int .i64 (k:Int))::jk::.one (.ptr 0 1 0 0)::.one (.ptr 0 2 0 0)::.one (.ptr 0 4 0 0)::.one (.ptr 0 0 0 0)::jk::jk::.raw (.int .i64 d1)::.raw (.int .i64 s)::.raw (.int .i64 sq)::jk::.raw (.int .i64 u)::.raw (.int .i64 b)::j16 (j16 (j16 (j16 (jk::[])))))) (l:=[(0,IB 0 n (k+1) y D M F)]) ⟨?_,trivial⟩ (by simp[wk])) ?_
 ·subst E;simp only[aS,IB,acJ,acC,aei,acQ,<- JW];rfl
 have bb:F.length<=2000000:=by rw[<- E,acJ];exact L
 rw[show acc++(u,b)::(if k=0 then[]else(rng u b).flatMap h)=F++(if k=0 then[]else(rng u b).flatMap h) by rw[<- E,acI];rfl]at g⊢;cases k with
 |zero=>
  have a3:(((0:Nat):Int)=0)=True:=eq_true rfl;refine bX (eR a3 (k:=iN rfl (n5 ?_)));rw[if_pos rfl,adc];refine⟨.inr rfl,rfl,_,aj (tm:=(jk::jk::.one (.ptr 0 1 0 0)::.one (.ptr 0 2 0 0)::.one (.ptr 0 4 0 0)::.one (.ptr 0 0 0 0)::j16 (j16 (j16 (j16 (j4 (j4 (jk::[])))))))) (l:=[(0,IB 0 n (0+1) y D M F)]) ⟨rfl,trivial⟩ (by simp[wk]),⟨dA _,rfl⟩,by simp⟩
 |succ j=>
  rw[if_neg (by omega)]at g⊢;have a4:(((j+1:Nat):Int)=0)=False:=eq_false (by omega);have e4:IntKind.i64.wrap (((j+1:Nat):Int)-1)=(j:Int):=by grind [aL]
  refine bX (eR a4 (k:=ir rfl (eP (iu (k:=?_)))));generalize an:F++(rng u b).flatMap h=T at*
  refine lQ (G:=EmG u b h T) (fun v=>⟨(.raw (.int .i64 ((j+1:Nat):Int))::jk::.one (.ptr 0 1 0 0)::.one (.ptr 0 2 0 0)::.one (.ptr 0 4 0 0)::.one (.ptr 0 0 0 0)::jk::jk::.raw (.int .i64 d1)::.raw (.int .i64 s)::.raw (.int .i64 sq)::jk::jk::.raw (.int .i64 b)::.raw (.int .i64 v.x)::j16 (j16 (j16 (j16 ([]))))),Hm [(0,IB 0 n (j+1+1) y D M v.acc)]⟩) (fun _=>()) (fun v=>(b+1-v.x).toNat) ⟨_,F,adT _,an⟩ ?_ rfl ?_
  ·refine aj ⟨rfl,trivial⟩ ?_;simp[wk]
  rintro⟨x,ac,Z,p⟩;simp only;by_cases C:x<=b
  ·obtain⟨al,hq⟩:=a8 x Z C;have a7:=V x al;rw[i5 C,aeF,<- acI]at p;have J:(ac++h x).length<=2000000:=by
    rw[<- p,acJ]at g;omega
   have bx:(d1*x).natAbs<=65535*46911780290560:=by
    rw[adt];exact acU (by omega) (by omega)
   have a2:=a0 j rfl x;rw[a2]at J p;have cV:=U j rfl x ac Z C J;generalize sV f n B (j+1) (aJ n (x::y))=rx at*
   generalize td f n B j (x::y)=W at*
   have a6:0<=d1*rx:=acP (by omega) a7.1;have O:Int.tdiv (sq-(d1*x+s)*(d1*x+s)) d1=rx:=by rw[hq];exact afa _ (by omega)
   have bw:0<=(d1*x+s)*(d1*x+s):=by
    rcases aec 0 (d1*x+s)with h|h
    ·exact acP h h
    exact ac3 h h
   have bl:=kS (j+1+1) y;have av:=p9 (j+1) x y;have ap:(iE (j+1+1)++lc fI y)[j+1]?=some [.junk]:=by
    rw[acx (by simp[iE])];simp[iE]
   refine bX (iu (k:=iN rfl (eP (bX (ib (eR (aC ap av) (k:=iu (k:=?_))))))));generalize hU:(d1*x+s)*(d1*x+s)=uu at*
   refine pO cu cV 0 [] [] (by kernel_rfl) (by omega) (by kernel_rfl) fun K z=>?_
   simp(disch:=omega) only[kd,adD,aa,Nat.reduceSub,e4,hU,aL,O];refine z _ ⟨⟨rfl,?_⟩,?_⟩
   ·exact(L6 0 0 _ _ _ _ _ _).symm
   clear z K;show fw _ _ _ _ _ _ _;refine Ca (by kernel_rfl) fun _ K=>?_;simp(disch:=omega) only[kd,aa,Jo,cwD,adD,Nat.reduceSub,emP,uh,pB,af,ac1,jp,aL];apply K
   refine⟨⟨x+1,ac++W,by omega,p⟩,by simp only;omega,(Qk rfl).trans (aj ⟨rfl,trivial⟩ ?_),trivial⟩;simp[wk]
  rw[kL C,aer,adc]at p;subst p;refine bX (iu (k:=ir rfl (pN ?_)));show _/\_;refine⟨.inl rfl,trivial,_,aj (tm:=(jk::jk::.one (.ptr 0 1 0 0)::.one (.ptr 0 2 0 0)::.one (.ptr 0 4 0 0)::.one (.ptr 0 0 0 0)::j16 (j16 (j16 (j16 (j4 (j4 (jk::[])))))))) (l:=[(0,IB 0 n (j+1+1) y D M ac)]) ⟨rfl,trivial⟩ (by simp[wk]),⟨dA _,rfl⟩,by simp⟩
end
end
def SC (h B:Int) (ex:Bool) (x:Int):List (List Int):=if(!ex||decide (h*x*x=B))=true then[[x]]else[]
structure MuG (r:Int) (g:Int->List (List Int)) (T:List (List Int)) where
 x:Int
 acc:List (List Int)
 h1:1<=x
 h2:x<=r+1
 e:acc++(rng x r).flatMap g=T
theorem Z8 {h B x:Int} (c:0<h) (b:0<=B) (f:1<=x):h*x*x<=B↔x<=isqF (B/h):=by
 have e:0<=B/h:=adW b (by omega);rw[show h*x*x=x*x*h by grind,<- ael c,uf (de e)];omega
theorem Z9 (h B:Int) (ex:Bool) (L:0<h) (z:h<=10000) (y:0<=B) (H:B<=4611686018427387904) (E:((rng 1 (isqF (B/h))).flatMap (SC h B ex)).length<=1000000):
  CallC prog 137 [.raw (.int .i64 h),.raw (.int .i64 B),.raw (.bool ex)] ⟨[],cw ((rng 1 (isqF (B/h))).flatMap (SC h B ex))⟩:=by
 have N:0<=B/h:=adW y (by omega);have O:B/h<=B:=ae3 _ y;have V:=pZ N (by omega);have f:=fun x (l:1<=x)=>Z8 (x:=x) L y l
 have n: ∀x,1<=x->x<=2147483649->h*x<=21474836490000/\0<=h*x:=fun x H I=>by
  have:=acZ z I (by omega) (by omega);exact⟨by omega,acP (by omega) (by omega)⟩
 have o: ∀x,1<=x->x<=isqF (B/h)+1->0<=h*x*x/\h*x*x<=4611800000000000000:=fun x P W=>by
  obtain⟨F,C⟩:=n x P (by omega);refine⟨acP C (by omega),?_⟩;by_cases l:x<=isqF (B/h)
  ·grind
  by_cases e:x=1
  ·grind
  have S:=(f (x-1) (by omega)).2 (by omega);grind
 generalize J:(rng 1 (isqF (B/h))).flatMap (SC h B ex)=T at*
 generalize isqF (B/h)=r at*
 refine ax func137 rfl ntmps137 (aA (k:=bi (k:=ai (bi (k:=?_)))));refine ay (G:=MuG r (SC h B ex) T) (fun g=>⟨(.raw (.int .i64 h)::.raw (.int .i64 B)::.raw (.bool ex)::j4 (.one (.sl 33 0 0 g.acc.length)::.raw (.int .i64 g.x)::j16 (j4 (j4 (jk::jk::[]))))),Hm [(33,[⟨35,1,lc (fR fI) g.acc⟩])]⟩) (fun g=>(r+1-g.x).toNat) ⟨1,[],by omega,by omega,by rw[adP];exact J⟩ ?_ ?_
 ·refine(cz (k:=7) (d:=33) 35 1 (by omega) rfl rfl).trans (aj ⟨rfl,trivial⟩ ?_);simp[wk]
 rintro⟨x,acc,e,A,b⟩;simp only;obtain⟨F,C⟩:=n x e (by omega);obtain⟨Q,R⟩:=o x e A;have D:=f x e;by_cases l:x<=r
 ·have M:=D.2 l;rw[i5 l,aeF,<- acI]at b;have c:(acc++SC h B ex x).length<=1000000:=by
   grind
  rw[show SC h B ex x=if(!ex||decide (h*x*x=B))=true then[[x]]else[]from rfl]at b c;generalize U:SC h B ex=G at*
  generalize s:h*x=u at*
  generalize t:u*x=w at*
  refine ai (aH (aC s t) (k:=az rfl (ak (ai (am ?_)))));have q:lc (fR fI) acc++[[AV.p (.sl [[.raw (.int .i64 x)]])]]=lc (fR fI) (acc++[[x]]):=lH acc [x];cases ex with
  |false=>
   simp only[Bool.not_false,Bool.true_or,if_true]at b c;have m:acc.length+1<=1000000:=by grind
   refine ar (k:=az rfl (dF q (k:=bu (k:=?_))));refine⟨⟨x+1,acc++[[x]],by omega,by omega,b⟩,by grind,aj ⟨rfl,trivial⟩ ?_⟩;simp[wk]
  |true=>
   simp only[Bool.not_true,Bool.false_or,decide_eq_true_eq]at b c;by_cases v:w=B
   ·have j:(w=B)=True:=eq_true v;rw[if_pos v]at b c;have m:acc.length+1<=1000000:=by grind
    refine aH (aC s (aC t j)) (k:=az rfl (dF q (k:=bu (k:=?_))));refine⟨⟨x+1,acc++[[x]],by omega,by omega,b⟩,by grind,aj ⟨rfl,trivial⟩ ?_⟩;simp[wk]
   have j:(w=B)=False:=eq_false v;rw[if_neg v,adc]at b;refine aH (aC s (aC t j)) (k:=ao rfl (ak (bu (k:=?_))));refine⟨⟨x+1,acc,by omega,by omega,b⟩,by grind,aj ⟨rfl,trivial⟩ ?_⟩;simp[wk]
 have K: ¬h*x*x<=B:=fun k=>l (D.1 k)
 rw[kL l,aer,adc]at b;subst b;generalize s:h*x=u at*
 generalize t:u*x=w at*
 refine ai (aH (aC s t) (k:=ao rfl (aX (bi (k:=?_)))));refine aQ ⟨.inr rfl,dp 33 (bf rfl) ?_ rfl⟩;simp(disch:=omega) only[kd,results137,cw]
 simp
theorem LA {P:Program} {c:Code} {Q:Exit->AS->Prop} (h:fw P noL [] c (fun e s _=>Q e s) s ()):bA P c Q s:=fun l O X a w r=>
 wp_mono (h (fun _=>none) (fun _=>True) l O X a w ⟨WT.2 r,fun _ g=>by simp at g⟩) fun _ _ _ ⟨j,_,b,f⟩=>⟨j,b,f.1.1⟩
end Go.Proofs.YtalmoejhjceflaaGreat
