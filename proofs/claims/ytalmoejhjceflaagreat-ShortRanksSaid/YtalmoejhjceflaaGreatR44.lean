/-
  Part 45 of a proof (walks and plain facts).
-/
import Derived.Test.YtalmoejhjceflaaGreatR42
import Derived.Test.YtalmoejhjceflaaGreatR43
set_option linter.all false
set_option maxRecDepth 100000
set_option maxHeartbeats 64000000
open Nat renaming reduceAdd → aa
open Nat renaming reduceBEq → af
namespace Go.Proofs.YtalmoejhjceflaaGreat
open Go.RowKit Go.Proofs.Tryz
variable {x:Int} {P:Program} {s:AS}
section
theorem yK {G:Type} {L:f5 G} {y:List Nat} {g:G} {Q:Exit->AS->G->Prop} (f:List (Nat×Nat×Nat)) (z:P.follows .mixedOrders=true) (c:List (ao P)) (E:List Nat) {id:Nat} {b:Array Oper} (H:bY f b=true) (hz: ∀x∈f,gL P x.2.2≠some 1) (Z:MR f s) (V:cW y b=true) (h: ∀K:AS->Prop,(∀t,Q .normal t g->K t)->aS P (c.map ao.a) E (aJ b b.toList 0) (some s) K):dW P L y (.region id b true) Q s g:=fun J Y M O X a w r=>by
 obtain⟨I,h1,S⟩:=aR P (c.map ao.a) E b b.toList 0 s _ (h (fun t=>Q .normal t g) fun _ h=>h);have T:dy P (c.map ao.a) E b (List.range b.size) s=some I:=by
  grind [List.range_eq_range',gS]
 refine(wpIn_wide (n:=0)).1 (wpIn_region_any (F:=FW none) z ?_);have B:jA L y J Y M O X g s a {w with drawn:=w.drawn+1}:=by
  obtain⟨N,Oa,Xa,⟨q1,q2,R,q,m⟩,D⟩:=fK s a w r;have e:Ext w {w with drawn:=w.drawn+1}:=⟨rfl,rfl,rfl,aar _,fun _ _=>rfl⟩;have m:aV Xa R s a w:=m;exact D _ _ _ (fun _ _=>rfl) ⟨q1,q2,R,q.grow e,m.grow e⟩
 have l:kV s:=by obtain⟨N,Oa,Xa,r,_⟩:=fK s a w r;exact eP r
 rw[<- uz];refine mc (sep:=f) (lF H hz) H (fun _ s a w=>jA L y J Y M O X g s a w) ⟨l,Z⟩ T (fun p a w _ A=>⟨I,g,S,A⟩) (fun p i o t aa a w K u W _ C A U=>?_) b.size (Array.replicate b.size false) s a _ (by simp) ?_ ?_ ?_ B
 ·obtain⟨N,Oa,Xa,ra,D⟩:=fK _ _ _ A;exact uV u C ra fun v w' r'=>U v w' (D _ _ _ (lJ V u v) r')
 ·intro j o u hp;have hj:j<b.size:=(aaD.1 u).1;simp_all
 ·grind
 have:l5 b.size (fun j=>(Array.replicate b.size false).getD j true)=[]:=by
  simp_all[l5]
 rw[this];rfl
theorem Km {f:Type} {L:f5 f} {j:List Nat} {g:f} {Q:Exit->AS->f->Prop} (e:P.follows .mixedOrders=true) (b:List (ao P)) (l:List Nat) {id:Nat} {c:Array Oper} (n:bY [] c=true) (o:cW j c=true) (h: ∀K:AS->Prop,(∀m,Q .normal m g->K m)->aS P (b.map ao.a) l (aJ c c.toList 0) (some s) K):dW P L j (.region id c true) Q s g:=yK [] e b l n (by simp) (fun x p=>by simp at p) o h
theorem m8 {n m:Nat} {c:Int} {y D:List Int} {M acc:List (List Int)} {ex:Bool} (b:s.H 0=Dg 0 n m (c::y) D M acc ex):bG s ⟨s.tmps,ax s.H 0 (Dg 0 n (m+1) y D M acc ex)⟩:=by
 have h:=l8 (s:=s) 0 3 (o:=⟨2,1,gh m++lc fI (c::y)⟩) (o':=⟨2,1,gh (m+1)++lc fI y⟩) (by rw[b];rfl) rfl rfl (by simp only[jq,aaP];omega) fun i e f=>by
  rw[<- nG m c y];grind [gh]
 grind
structure SrG (lo hi:Int) (h:Int->List (List Int)) (T:List (List Int)) where
 x:Int
 acc:List (List Int)
 h1:lo<=x
 e:acc++(rng x hi).flatMap h=T
section
variable {n:Nat} {f:FF} {B:Int} {ex:Bool}
theorem Ep (I:oS n f B) (k:Nat) (y:List Int) (z:Bool) (acc:List (List Int)) (hk:y.length+(k+1)=n) (hT:o8 y) (hP:gM f n B (k+1) (aY n y)) (hz:z=true->eB f n B k (aY n y)<=0) (R:(acc++yh f n B ex k y z).length<=1000000)
  (av: ∀j,k=j+1-> ∀c P,eB f n B k (aY n y)<=c->c<=fC f n B k (aY n y)->(z=true->0<=c)->(P++yh f n B ex j (c::y) (z&&decide (c=0))).length<=1000000->Yu n f B ex j (c::y) (z&&decide (c=0)) P):Yu n f B ex k y z acc:=by
 have cy:=I.n8;have cs:=I.d (k:=k) (by omega);have ab:=I.d (k:=k+1) (by omega);have a8:=aw (dk f) (show k<n+1 by omega);have a9:=aw (dk f) (show k+1<n+1 by omega);have cp:=aI (n+1) (dk f);have hM:=wH n f (show k<n by omega);have cr:=lN n f n;have bd:(mW n f k).length=n-k-1:=aI _ _;have hR: ∀i,i<y.length->(mW n f k)[i]?=some (bk f k k (k+(i+1))):=fun i E=>aw _ (by omega)
 have Z:=fun m (hm:m<=y.length)=>I.shP_c hk hT hm
 have U:=oN f hk;have cD:=I.rs0 (k:=k+1) (by omega) hP;have N:=I.sq (k:=k) (by omega) hP;have b0:=I.lohi hk hT hP;have b3:=Ui (m:=y.length+1) (by omega);have cE:=nE N.1 N.2;have cR:=xz (.inr (.inl rfl)) _ N.1 N.2;have a5:=fun c=>I.step hk (c:=c) hP
 have a4:dk f k*pT f n B (k+1) (aY n y)=mK f n B k (aY n y):=rfl;have ap:eB f n B k (aY n y)=0-(isqF (mK f n B k (aY n y))+tX f k y y.length)/dk f (k+1):=by grind [eB]
 have ah:fC f n B k (aY n y)=(isqF (mK f n B k (aY n y))-tX f k y y.length)/dk f (k+1):=by rw[U];rfl
 have cl:=Z y.length (aar _);have a6:=ov (.inr (.inl rfl)) (isqF (mK f n B k (aY n y))+tX f k y y.length) (dk f (k+1)) ab.1 (by omega) (by omega) (by omega);have a7:=ov (.inr (.inl rfl)) (isqF (mK f n B k (aY n y))-tX f k y y.length) (dk f (k+1)) ab.1 (by omega) (by omega) (by omega);have e1:IntKind.i64.wrap ((k:Int)+1)=((k+1:Nat):Int):=aK (by omega) (by omega);have hS: ∃h:Int->List (List Int),yh f n B ex k y z=(rng (if z=true then 0 else eB f n B k (aY n y)) (fC f n B k (aY n y))).flatMap h/\(k=0-> ∀c,h c=if(z&&decide (c=0))=true\/(ex&&!decide (pT f n B k (aY n (c::y))=0))=true then[]else[c::y])/\ ∀j,k=j+1-> ∀c,h c=yh f n B ex j (c::y) (z&&decide (c=0)):=by
  cases k with
  |zero=>exact⟨_,rfl,fun _ _=>rfl,fun j e=>absurd e (by omega)⟩
  |succ j=>
   refine⟨_,rfl,fun e=>absurd e (by omega),fun j' e c=>?_⟩;grind
 obtain⟨h,hS,ae,ag⟩:=hS;have a2:tX f k y 0=0:=rfl;have a3: ∀i,tX f k y i+bk f k k (k+(i+1))*y.getD i 0=tX f k y (i+1):=fun _=>rfl
 rw[<- U]at a5;have a0: ∀c,gM f n B k (aY n (c::y))->0<=pT f n B k (aY n (c::y))/\pT f n B k (aY n (c::y))<=70368744177664:=fun c h=>I.rs0 (by omega) h
 clear I hP hT;unfold Yu at*
 rw[hS]at R⊢;clear hS;generalize eB f n B k (aY n y)=lo at*
 generalize fC f n B k (aY n y)=E at*
 generalize mK f n B k (aY n y)=sq at*
 generalize pT f n B (k+1) (aY n y)=X at*
 generalize isqF sq=rt at*
 generalize aN (n+1) (dk f)=D at*
 generalize fd n f n=M at*
 generalize mW n f k=r at*
 generalize dk f (k+1)=d1 at*
 generalize dk f k=d0 at*
 generalize tX f k y=F at*
 have cx: -46911780290560<=lo/\lo<=46911780290560:=by omega
 have ct: -46911780290560<=E/\E<=46911780290560:=by omega
 clear b0 b3;have ci:(d1=0)=False:=eq_false (by omega);refine nt func139 rfl (by kernel_rfl) Vm (by simp) (by simp[selfTV,bs]) (by simp[selfTV]) (Dh 0 _ _ _ _ _ _ _) (Dh 0 _ _ _ _ _ _ _) (Wt 0 _ _ _ _ _ _ _ _ _ _) ?_;rw[ntmps139];refine dW.weak (aj (tm:=(.raw (.int .i64 (k:Int))::.raw (.int .i64 X)::.raw (.bool z)::.one (.ptr 0 1 0 0)::.one (.ptr 0 2 0 0)::.one (.ptr 0 0 0 0)::.one (.ptr 0 6 0 0)::.one (.ptr 0 4 0 0)::j16 (j16 (j16 (j16 (j16 (j16 (j16 (jk::jk::jk::[]))))))))) (l:=[(0,Dg 0 n (k+1) y D M acc ex)]) ⟨rfl,trivial⟩ (by simp[wk,List.replicate])) ?_;refine de (aH e1 a9) (k:=bA (de (aH hM bd) (k:=?_)));refine fw (G:=jx y.length) (fun q=>⟨(.raw (.int .i64 (k:Int))::.raw (.int .i64 X)::.raw (.bool z)::.one (.ptr 0 1 0 0)::.one (.ptr 0 2 0 0)::.one (.ptr 0 0 0 0)::.one (.ptr 0 6 0 0)::.one (.ptr 0 4 0 0)::jk::jk::jk::.raw (.int .i64 d1)::.raw (.int .i64 (F q.i))::j16 (jk::jk::jk::.one (.p (.sl (ls fI r)))::rN y.length::rN q.i::j16 (j16 (j16 (j16 (j16 (j4 (j4 ([]))))))))),Hm [(0,Dg 0 n (k+1) y D M acc ex)]⟩) (fun _=>()) (fun q=>y.length-q.i) ⟨0,by omega⟩ ?_ rfl ?_
 ·refine aj ⟨rfl,trivial⟩ ?_;simp[wk,a2];omega
 rintro⟨i,cv⟩;simp only;by_cases hm:i<y.length
 ·have bc:=hR i hm;have s0:=Z i (by omega);have s1:=Z (i+1) (by omega);have s2:=a3 i;have e3:IntKind.i64.wrap (((k+1:Nat):Int)+(i:Int))=((k+1+i:Nat):Int):=by rw[aK (by omega) (by omega)];omega
  have bn:=Ow (k+1) i y;have bp:=jq (k+1) y;have cg:y[i]?=some (y.getD i 0):=by rw[aaw,aay hm];rfl
  generalize bk f k k (k+(i+1))=q at*
  generalize y.getD i 0=yi at*
  refine dE (k:=nk rfl (bA (dz (de bc (k:=lB (aH e1 (aH e3 (aH bn (aH cg s2)))) (k:=sn (k:=?_)))))));refine⟨⟨i+1,by omega⟩,by grind,aj ⟨rfl,trivial⟩ ?_,trivial⟩;simp[wk]
 have br:i=y.length:=by omega
 subst br;refine dE (k:=pa rfl (de (aH a8 a4) (k:=CY [⟨1,_,_,_,cR⟩] (k:=?_))));refine lA [⟨4,_,_,_,a6⟩,⟨10,_,_,_,a7⟩] [] (by kernel_rfl) fun _ K=>?_;simp(disch:=omega) only[kd,<- ah,aa,aK,<- ap,af];apply K
 refine bA (CR (S:=⟨(.raw (.int .i64 (k:Int))::jk::.raw (.bool z)::.one (.ptr 0 1 0 0)::.one (.ptr 0 2 0 0)::.one (.ptr 0 0 0 0)::.one (.ptr 0 6 0 0)::.one (.ptr 0 4 0 0)::jk::jk::jk::.raw (.int .i64 d1)::.raw (.int .i64 (F y.length))::jk::jk::.raw (.int .i64 sq)::jk::.raw (.int .i64 (if z=true then 0 else lo))::.raw (.int .i64 E)::j16 (j16 (j16 (j16 (j16 (j16 (j4 (j4 ([]))))))))),Hm [(0,Dg 0 n (k+1) y D M acc ex)]⟩) ?_ ?_)
 ·cases z with
  |true=>
   refine dE (k:=fO rfl (sn (k:=?_)));refine⟨aj ⟨rfl,trivial⟩ ?_,rfl⟩;simp[wk]
  |false=>
   refine dE (k:=fq rfl (dM ?_));refine⟨aj ⟨rfl,trivial⟩ ?_,rfl⟩;simp[wk]
 refine dE (k:=?_);have bh:((acc++(rng (if z=true then 0 else lo) E).flatMap h)).length<=1000000:=R;generalize bl:acc++(rng (if z=true then 0 else lo) E).flatMap h=T at*
 refine fw (G:=SrG (if z=true then 0 else lo) E h T) (fun v=>⟨(.raw (.int .i64 (k:Int))::jk::.raw (.bool z)::.one (.ptr 0 1 0 0)::.one (.ptr 0 2 0 0)::.one (.ptr 0 0 0 0)::.one (.ptr 0 6 0 0)::.one (.ptr 0 4 0 0)::jk::jk::jk::.raw (.int .i64 d1)::.raw (.int .i64 (F y.length))::jk::jk::.raw (.int .i64 sq)::jk::jk::.raw (.int .i64 E)::.raw (.int .i64 v.x)::j16 (j16 (j16 (j16 (j16 (j16 (j4 (jk::jk::jk::[])))))))),Hm [(0,Dg 0 n (k+1) y D M v.acc ex)]⟩) (fun _=>()) (fun v=>(E+1-v.x).toNat) ⟨_,acc,acA _,bl⟩ ?_ rfl ?_
 ·refine aj ⟨rfl,trivial⟩ ?_;simp[wk]
 rintro⟨x,C,cI,w⟩;simp only;by_cases hx:x<=E
 ·have cc:z=true->0<=x:=fun e=>by grind
  have V:lo<=x:=by
   cases z with
   |true=>grind
   |false=>grind
  obtain⟨ba,hq⟩:=a5 x V hx;have b2:=a0 x ba;rw[gR hx,ac2,<- aaM]at w;have J:(C++h x).length<=1000000:=by
   rw[<- w,aaV]at bh;omega
  have cK:(d1*x).natAbs<=65535*46911780290560:=by
   rw[abk];exact aaT (by omega) (by omega)
  have Q:=fun e=>ae e x
  generalize a1:pT f n B k (aY n (x::y))=O at*
  have b1:0<=d1*O:=aaS (by omega) b2.1;have ad:Int.tdiv (sq-(d1*x+F y.length)*(d1*x+F y.length)) d1=O:=by rw[hq];exact acT _ (by omega)
  have cH:0<=(d1*x+F y.length)*(d1*x+F y.length):=by
   rcases abU 0 (d1*x+F y.length)with h|h
   ·exact aaS h h
   exact aaU h h
  have bp:=jq (k+1) y;have bq:=nG k x y;have bm:(gh (k+1)++lc fI y)[k]?=some [.junk]:=by
   rw[aaB (by simp[gh])];simp[gh]
  refine bA (dE (k:=fO rfl (dM (bA (dz (de (aH bm bq) (k:=dE (k:=?_))))))));generalize hU:(d1*x+F y.length)*(d1*x+F y.length)=uu at*
  refine de (aH hU ad) (k:=dz ?_);cases k with
  |zero=>
   have L:=Q rfl;obtain⟨bb,u⟩: ∃bb:Bool,bb=((z&&decide (x=0))||(ex&&!decide (O=0))):=⟨_,rfl⟩;have al:h x=if bb=true then[]else[x::y]:=by rw[L,u];simp
   clear L Q ae ag;have bw:(0<((0:Nat):Int))=False:=eq_false (by omega);have bt:gh 0++lc fI (x::y)=lc fI (x::y):=rfl;refine de bw (k:=fq rfl ?_);simp only[bt];refine bA (CR (S:=⟨(.raw (.int .i64 ((0:Nat):Int))::jk::.raw (.bool z)::.one (.ptr 0 1 0 0)::.one (.ptr 0 2 0 0)::.one (.ptr 0 0 0 0)::.one (.ptr 0 6 0 0)::.one (.ptr 0 4 0 0)::jk::jk::jk::.raw (.int .i64 d1)::.raw (.int .i64 (F y.length))::jk::jk::.raw (.int .i64 sq)::jk::jk::.raw (.int .i64 E)::.raw (.int .i64 x)::j16 (j16 (j16 (j16 (j16 (j4 (j4 (j4 (.raw (.bool bb)::j4 (j4 (jk::jk::[]))))))))))),Hm [(0,Dg 0 n 0 (x::y) D M C ex)]⟩) ?_ ?_)
   ·cases z with
    |false=>
     refine dE (k:=fq rfl ?_);cases ex with
     |false=>
      refine sn (k:=?_);refine⟨aj ⟨rfl,trivial⟩ ?_,rfl⟩;simp[wk,u]
     |true=>
      by_cases t:O=0
      ·have A:(O=0)=True:=eq_true t;refine lB A (k:=?_);refine⟨aj ⟨rfl,trivial⟩ ?_,rfl⟩;simp[wk,u,t]
      have A:(O=0)=False:=eq_false t;refine lB A (k:=?_);refine⟨aj ⟨rfl,trivial⟩ ?_,rfl⟩;simp[wk,u,t]
    |true=>
     by_cases b:x=0
     ·have s:(x=0)=True:=eq_true b;refine de s (k:=fO rfl (dM ?_));refine⟨aj ⟨rfl,trivial⟩ ?_,rfl⟩;simp[wk,u,b]
     have s:(x=0)=False:=eq_false b;refine de s (k:=fq rfl ?_);cases ex with
     |false=>
      refine sn (k:=?_);refine⟨aj ⟨rfl,trivial⟩ ?_,rfl⟩;simp[wk,u,b]
     |true=>
      by_cases t:O=0
      ·have A:(O=0)=True:=eq_true t;refine lB A (k:=?_);refine⟨aj ⟨rfl,trivial⟩ ?_,rfl⟩;simp[wk,u,t,b]
      have A:(O=0)=False:=eq_false t;refine lB A (k:=?_);refine⟨aj ⟨rfl,trivial⟩ ?_,rfl⟩;simp[wk,u,t,b]
   rw[al]at w J;cases bb with
   |true=>
    rw[if_pos rfl,aa8]at w;refine fO rfl (dM (sn (k:=?_)));refine⟨⟨x+1,C,by omega,w⟩,by simp only;omega,(m8 (m:=0) rfl).trans (aj ⟨rfl,trivial⟩ ?_),trivial⟩;simp[wk]
   |false=>
    rw[if_neg (by decide)]at w J;have cC:=NG (x::y) (by simp) (by grind);have cm:(x::y).length=n:=by omega
    have ch:C.length+1<=1000000:=by grind
    generalize b5:x::y=xy at*
    refine fq rfl ?_;refine yL b8 2 0 96 3 0 2 (lc fI xy) (.sl (ls fI xy)) (f:=142) (ts:=[.one (.sl 0 3 0 n)]) [] [] (by kernel_rfl) (by kernel_rfl) rfl (by decide) fun K g=>?_
    simp only[kd];refine g _ ⟨rfl,rfl,rfl,?_,?_⟩
    ·intro vs b4;obtain rfl:vs=[]:=abW b4;refine⟨_,_,cC,⟨rfl,fun o ho e w x hx=>?_⟩,⟨.inr (.inl ⟨3,0,n,_,rfl,rfl,bo 2 1 xy,?_⟩),trivial⟩,fun H hH=>?_⟩
     ·simp only[aaq]at ho;subst ho;obtain⟨z,_,rfl⟩:=aau.1 w;simp only[fI,aaI,aaY,aaq]at hx;subst hx;rfl
     ·grind [my,oA]
     simp only[aaI,aaY,renO,iC]at hH;refine⟨bO hH,?_⟩;simp only[renTV,cb,ew,dF,if_true,hH,ac0];grind [my,eG]
    clear g K;intro K g;simp(disch:=omega) only[kd,aa,Nat.reduceMul,Nat.reduceLeDiff,List.any_cons,af,List.any_nil];apply g;clear g K;show dW _ _ _ _ _ _ _;refine sn (k:=?_);subst b5;refine⟨⟨x+1,C++[x::y],by omega,w⟩,by simp only;omega,(m8 (m:=0) (c:=x) (y:=y) (acc:=C++[x::y]) ?_).trans (aj ⟨rfl,trivial⟩ ?_),trivial⟩
    ·have bx:List.map (List.map (aO fun x y=>x==0&&y==5)) (gh 0++lc fI (x::y))=gh 0++lc fI (x::y):=uH _ _;simp only[aM,bx,Dg,aaV,aaP,abO,aa6,<- GD];rfl
    simp[wk]
  |succ j=>
   have L:=ag j rfl x;have e4:IntKind.i64.wrap (((j+1:Nat):Int)-1)=(j:Int):=by rw[aK (by omega) (by omega)];omega
   have bR:(0<((j+1:Nat):Int))=True:=eq_true (by omega);rw[L]at J w;have Y:=av j rfl x C V hx cc J;rw[a1]at Y;generalize yh f n B ex j (x::y) (z&&decide (x=0))=W at*
   refine de bR (k:=fO rfl ?_);cases z with
   |false=>
    simp only[Bool.false_and]at Y;refine gC 9 Y 0 [] [] (by kernel_rfl) (by omega) (by decide) fun K g=>?_
    simp(disch:=omega) only[kd,aa,e4];refine g _ ⟨⟨rfl,(uB 0 0 _ _ _ _ _ _ _).symm⟩,?_⟩;clear g K;intro K g;simp(disch:=omega) only[kd,aa,Fd,cwD,Vm,pB,mu,af,abe,gY];apply g;clear g K;show dW _ _ _ _ _ _ _;refine sn (k:=?_);refine⟨⟨x+1,C++W,by omega,w⟩,by simp only;omega,(m8 rfl).trans (aj ⟨rfl,trivial⟩ ?_),trivial⟩;simp[wk]
   |true=>
    by_cases b:x=0
    ·subst b;simp only[aea,decide_true]at Y;refine gC 9 Y 0 [] [] (by kernel_rfl) (by omega) (by decide) fun K g=>?_
     simp(disch:=omega) only[kd,aa,e4];refine g _ ⟨⟨rfl,(uB 0 0 _ _ _ _ _ _ _).symm⟩,?_⟩;clear g K;intro K g;simp(disch:=omega) only[kd,aa,Fd,cwD,Vm,pB,mu,af,abe,gY];apply g;clear g K;show dW _ _ _ _ _ _ _;refine sn (k:=?_);refine⟨⟨0+1,C++W,by omega,w⟩,by simp only;omega,(m8 rfl).trans (aj ⟨rfl,trivial⟩ ?_),trivial⟩;simp[wk]
    have s:(x=0)=False:=eq_false b;simp only[aea,s,decide_false]at Y;refine gC 9 Y 0 [] [] (by kernel_rfl) (by omega) (by decide) fun K g=>?_
    simp(disch:=omega) only[kd,aa,e4,s];refine g _ ⟨⟨rfl,(uB 0 0 _ _ _ _ _ _ _).symm⟩,?_⟩;clear g K;intro K g;simp(disch:=omega) only[kd,aa,Fd,cwD,Vm,pB,mu,af,abe,gY];apply g;clear g K;show dW _ _ _ _ _ _ _;refine sn (k:=?_);refine⟨⟨x+1,C++W,by omega,w⟩,by simp only;omega,(m8 rfl).trans (aj ⟨rfl,trivial⟩ ?_),trivial⟩;simp[wk]
 rw[jd hx,acM,aa8]at w;subst w;refine bA (dE (k:=fq rfl (ni ?_)));show _/\_;refine⟨.inl rfl,trivial,_,aj (tm:=(jk::jk::jk::.one (.ptr 0 1 0 0)::.one (.ptr 0 2 0 0)::.one (.ptr 0 0 0 0)::.one (.ptr 0 6 0 0)::.one (.ptr 0 4 0 0)::j16 (j16 (j16 (j16 (j16 (j16 (j16 (jk::jk::jk::[]))))))))) (l:=[(0,Dg 0 n (k+1) y D M C ex)]) ⟨rfl,trivial⟩ (by simp[wk]),⟨fQ _,rfl⟩,by simp⟩
end
end
section
noncomputable def p8 (f:FF) (n:Nat) (B:Int):Nat->List Int->List (Int×Int)
 |0,y=>[(eB f n B 0 (aY n y),fC f n B 0 (aY n y))]
 |k+1,y=>(eB f n B (k+1) (aY n y),fC f n B (k+1) (aY n y))::(rng (eB f n B (k+1) (aY n y)) (fC f n B (k+1) (aY n y))).flatMap fun c=>p8 f n B k (c::y)
abbrev Fe (a n m:Nat) (y D:List Int) (M:List (List Int)) (acc:List (Int×Int)):List OObj:=[⟨190,1,[[.fn 146 a [(1,0,0),(2,0,0),(4,0,0),(0,0,0)]]]⟩,⟨188,2,[[.p (.sl (ls fI D)),.p (.sl (ls (fR fI) M))]]⟩,⟨35,1,[[.sl a 3 0 n]]⟩,⟨2,1,gh m++lc fI y⟩,⟨76,1,[[.sl a 5 0 acc.length]]⟩,⟨133,2,lc fV acc⟩]
theorem IT (a d n m:Nat) (y D:List Int) (M:List (List Int)) (acc:List (Int×Int)):(Fe a n m y D M acc).map (renO d)=Fe d n m y D M acc:=by
 simp only[Fe,aaI,aaY,renO,cb,iC,abe,gY,adw,aaZ,if_false]
theorem Dq (a n m:Nat) (y D:List Int) (M:List (List Int)) (acc:List (Int×Int)): ∀o∈Fe a n m y D M acc,selfO a o:=fun o f e b x c=>by
 simp only[aaR,abj,or_false]at f;rcases f with rfl|rfl|rfl|rfl|rfl|rfl
 ·simp only[aaq]at b;subst b;simp only[aaq]at c;subst c;exact⟨rfl,by simp⟩
 ·simp only[aaq]at b;subst b;simp only[aaR,abj,or_false]at c;rcases c with rfl|rfl<;>trivial
 ·simp only[aaq]at b;subst b;simp only[aaq]at c;subst c;rfl
 ·simp only[abf]at b;rcases b with b|b
  ·obtain⟨_,rfl⟩:=ach.1 b;simp only[aaq]at c;subst c;trivial
  exact cf (bo 2 1 _ e b x c)
 ·simp only[aaq]at b;subst b;simp only[aaq]at c;subst c;rfl
 exact cf (bo 133 2 _ e b x c)
abbrev X5:List (Nat×Nat):=[(1,2),(2,3),(4,4),(0,5)]
theorem Wy (a n m f:Nat) (y g D:List Int) (M:List (List Int)) (acc b:List (Int×Int)): ∀r∈X5.map Prod.fst,∀o,(Fe a n m y D M acc)[r]?=some o-> ∃c,(Fe a n f g D M b)[r]?=some c/\c.es=o.es/\o.elems.length<=c.elems.length:=fun r e o h=>by
 simp only[X5,aaI,aaY,aaR,abj,or_false]at e;grind
abbrev emA (k:Nat) (b:Int):List TV:=[.raw (.int .i64 (k:Int)),.raw (.int .i64 b),.one (.ptr 0 1 0 0),.one (.ptr 0 2 0 0),.one (.ptr 0 4 0 0),.one (.ptr 0 0 0 0)]
abbrev Yk (n:Nat) (f:FF) (B:Int) (k:Nat) (y:List Int) (acc:List (Int×Int)):Prop:=
 ku prog YY (X5.map Prod.fst) 146 (emA k (pT f n B (k+1) (aY n y))) (Fe 0 n (k+1) y (aN (n+1) (dk f)) (fd n f n) acc) (Fe 0 n (k+1) y (aN (n+1) (dk f)) (fd n f n) (acc++p8 f n B k y)) () () (.tup [])
theorem MY {n m:Nat} {y D:List Int} {M:List (List Int)} {acc:List (Int×Int)} (b:s.H 0=Fe 0 n m (x::y) D M acc):bG s ⟨s.tmps,ax s.H 0 (Fe 0 n (m+1) y D M acc)⟩:=by
 have h:=l8 (s:=s) 0 3 (o:=⟨2,1,gh m++lc fI (x::y)⟩) (o':=⟨2,1,gh (m+1)++lc fI y⟩) (by rw[b];rfl) rfl rfl (by simp only[jq,aaP];omega) fun i e f=>by
  rw[<- nG m x y];grind [gh]
 grind
theorem Ox (m:Nat) (y:List Int) (b:Nat->Nat->Bool):List.map (List.map (aO b)) (gh m++lc fI y)=gh m++lc fI y:=by
 simp_all[uH,gh,aO]
structure EmG (lo hi:Int) (h:Int->List (Int×Int)) (T:List (Int×Int)) where
 x:Int
 acc:List (Int×Int)
 h1:lo<=x
 e:acc++(rng x hi).flatMap h=T
section
variable {n:Nat} {f:FF} {B:Int}
theorem N1 (q:oS n f B) (k:Nat) (y:List Int) (acc:List (Int×Int)) (Q:y.length+(k+1)=n) (hT:o8 y) (I:gM f n B (k+1) (aY n y)) (g:(acc++p8 f n B k y).length<=2000000)
  (U: ∀j,k=j+1-> ∀c w,eB f n B k (aY n y)<=c->c<=fC f n B k (aY n y)->(w++p8 f n B j (c::y)).length<=2000000->Yk n f B j (c::y) w):Yk n f B k y acc:=by
 have bq:=q.n8;have bm:=q.d (k:=k) (by omega);have N:=q.d (k:=k+1) (by omega);have ag:=aw (dk f) (show k<n+1 by omega);have ah:=aw (dk f) (show k+1<n+1 by omega);have bh:=aI (n+1) (dk f);have X:=q.shP_c Q hT (aar _);have A:=oN f Q;have br:=q.rs0 (k:=k+1) (by omega) I;have t:=q.sq (k:=k) (by omega) I;have a6:=q.lohi Q hT I;have ba:=Ui (m:=y.length+1) (by omega);have bt:=nE t.1 t.2;have cR:=xz (.inr (.inr rfl)) _ t.1 t.2;have cS:=fun xs h1 h2=>TY q k y xs Q hT h1 h2
 have a9:=fun c=>q.step Q (c:=c) I
 have Y:dk f k*pT f n B (k+1) (aY n y)=mK f n B k (aY n y):=rfl;rw[A]at X;have S:eB f n B k (aY n y)=0-(isqF (mK f n B k (aY n y))+uS f n k (aY n y))/dk f (k+1):=by grind [eB]
 have P:fC f n B k (aY n y)=(isqF (mK f n B k (aY n y))-uS f n k (aY n y))/dk f (k+1):=rfl;have ad:=ov (.inr (.inr rfl)) (isqF (mK f n B k (aY n y))+uS f n k (aY n y)) (dk f (k+1)) N.1 (by omega) (by omega) (by omega);have ae:=ov (.inr (.inr rfl)) (isqF (mK f n B k (aY n y))-uS f n k (aY n y)) (dk f (k+1)) N.1 (by omega) (by omega) (by omega);have e1:IntKind.i64.wrap ((k:Int)+1)=((k+1:Nat):Int):=aK (by omega) (by omega);have hS: ∃h:Int->List (Int×Int),p8 f n B k y=(eB f n B k (aY n y),fC f n B k (aY n y))::(if k=0 then[]else(rng (eB f n B k (aY n y)) (fC f n B k (aY n y))).flatMap h)/\ ∀j,k=j+1-> ∀c,h c=p8 f n B j (c::y):=by
  cases k with
  |zero=>exact⟨fun _=>[],rfl,fun j e=>absurd e (by omega)⟩
  |succ j=>
   refine⟨_,rfl,fun j' e c=>?_⟩;grind
 obtain⟨h,hS,a2⟩:=hS;have V: ∀c,gM f n B k (aY n (c::y))->0<=pT f n B k (aY n (c::y))/\pT f n B k (aY n (c::y))<=70368744177664:=fun c h=>q.rs0 (by omega) h
 clear q I hT A;unfold Yk at*
 rw[hS]at g⊢;clear hS;generalize eB f n B k (aY n y)=u at*
 generalize fC f n B k (aY n y)=b at*
 generalize mK f n B k (aY n y)=sq at*
 generalize pT f n B (k+1) (aY n y)=ab at*
 generalize isqF sq=rt at*
 generalize aN (n+1) (dk f)=D at*
 generalize fd n f n=M at*
 generalize dk f (k+1)=d1 at*
 generalize dk f k=d0 at*
 generalize uS f n k (aY n y)=s at*
 have bp: -46911780290560<=u/\u<=46911780290560:=by omega
 have bn: -46911780290560<=b/\b<=46911780290560:=by omega
 clear a6 ba;have bd:(d1=0)=False:=eq_false (by omega);have L:acc.length+1<=2000000:=by
  grind
 refine nt func146 rfl (by kernel_rfl) X5 (by simp) (by simp[selfTV,bs]) (by simp[selfTV]) (Dq 0 _ _ _ _ _ _) (Dq 0 _ _ _ _ _ _) (Wy 0 _ _ _ _ _ _ _ _ _) ?_;rw[ntmps146];refine dW.weak (aj (tm:=(.raw (.int .i64 (k:Int))::.raw (.int .i64 ab)::.one (.ptr 0 1 0 0)::.one (.ptr 0 2 0 0)::.one (.ptr 0 4 0 0)::.one (.ptr 0 0 0 0)::j16 (j16 (j16 (j16 (j4 (j4 (jk::[])))))))) (l:=[(0,Fe 0 n (k+1) y D M acc)]) ⟨rfl,trivial⟩ (by simp[wk,List.replicate])) ?_;refine bA (yL b8 8 0 24 3 (k+1) 2 (lc fI y) (.raw (.int .i64 s)) (f:=147) (ts:=[.one (.ptr 0 1 0 0),.raw (.int .i64 (k:Int)),.one (.sl 0 3 0 n)]) [] [] (by kernel_rfl) (by kernel_rfl) rfl (by decide) fun K z=>?_);simp(disch:=omega) only[kd,aa,e1,ah];refine z _ ⟨rfl,rfl,rfl,?_,?_⟩
 ·intro vs bb;refine⟨_,_,cS (vs.map (fun v=>[PV.raw v])++ls fI y) (by grind [co]) (fun i b=>?_),⟨rfl,by simp⟩,⟨.inr (.inr ⟨1,0,0,_,_,rfl,rfl,rfl,by simp[isPure],rfl⟩),.inl ⟨rfl,rfl⟩,.inr (.inl ⟨3,0,n,_,rfl,rfl,?_,?_⟩),trivial⟩,fun H hH=>⟨fun r o ho=>by rw[hH]at ho;simp at ho,rfl⟩⟩
  ·rw[aaE (by rw[ab0];omega),ab0,bb,show k+1+i-(k+1)=i by omega,dO,aay b,aaw,aay b];rfl
  ·intro e p x C;simp only[abf,aau]at p;rcases p with⟨v,_,rfl⟩|p
   ·simp only[aaq]at C;subst C;rfl
   exact bo 2 1 y e p x C
  rw[aa6,abL,aaz (by grind [my]),abe,oA,abV];rfl
 clear z K;intro K z;simp only[kd,aa];apply z;clear z K cS;show dW _ _ _ _ _ _ _;refine de (aH ag Y) (k:=CY [⟨1,_,_,_,cR⟩] (k:=?_));refine lA [⟨4,_,_,_,ad⟩,⟨10,_,_,_,ae⟩] [] (by kernel_rfl) fun _ K=>?_;simp(disch:=omega) only[kd,<- P,aa,aK,<- S,af];apply K
 have R: ∀κ,List.map (List.map (aO κ)) (gh (k+1)++lc fI y)=gh (k+1)++lc fI y:=Ox (k+1) y;refine de (aH (@List.any_cons.{0}) (aH (@List.any_nil.{0}) R)) (k:=?_);clear R;generalize E:acc++[(u,b)]=F at*
 refine dW.weak (aj (tm:=(.raw (.int .i64 (k:Int))::jk::.one (.ptr 0 1 0 0)::.one (.ptr 0 2 0 0)::.one (.ptr 0 4 0 0)::.one (.ptr 0 0 0 0)::jk::jk::.raw (.int .i64 d1)::.raw (.int .i64 s)::.raw (.int .i64 sq)::jk::.raw (.int .i64 u)::.raw (.int .i64 b)::j16 (j16 (j16 (j16 (jk::[])))))) (l:=[(0,Fe 0 n (k+1) y D M F)]) ⟨?_,trivial⟩ (by simp[wk])) ?_
 ·subst E;simp only[aM,Fe,aaV,aaP,abO,aa6,<- GD];rfl
 have bc:F.length<=2000000:=by rw[<- E,aaV];exact L
 rw[show acc++(u,b)::(if k=0 then[]else(rng u b).flatMap h)=F++(if k=0 then[]else(rng u b).flatMap h) by rw[<- E,aaM];rfl]at g⊢;cases k with
 |zero=>
  have a4:(((0:Nat):Int)=0)=True:=eq_true rfl;refine bA (de a4 (k:=fO rfl (jB ?_)));rw[if_pos rfl,aa8];refine⟨.inr rfl,rfl,_,aj (tm:=(jk::jk::.one (.ptr 0 1 0 0)::.one (.ptr 0 2 0 0)::.one (.ptr 0 4 0 0)::.one (.ptr 0 0 0 0)::j16 (j16 (j16 (j16 (j4 (j4 (jk::[])))))))) (l:=[(0,Fe 0 n (0+1) y D M F)]) ⟨rfl,trivial⟩ (by simp[wk]),⟨fQ _,rfl⟩,by simp⟩
 |succ j=>
  rw[if_neg (by omega)]at g⊢;have a5:(((j+1:Nat):Int)=0)=False:=eq_false (by omega);have e4:IntKind.i64.wrap (((j+1:Nat):Int)-1)=(j:Int):=by grind [aK]
  refine bA (de a5 (k:=fq rfl (dM (dE (k:=?_)))));generalize ap:F++(rng u b).flatMap h=T at*
  refine fw (G:=EmG u b h T) (fun v=>⟨(.raw (.int .i64 ((j+1:Nat):Int))::jk::.one (.ptr 0 1 0 0)::.one (.ptr 0 2 0 0)::.one (.ptr 0 4 0 0)::.one (.ptr 0 0 0 0)::jk::jk::.raw (.int .i64 d1)::.raw (.int .i64 s)::.raw (.int .i64 sq)::jk::jk::.raw (.int .i64 b)::.raw (.int .i64 v.x)::j16 (j16 (j16 (j16 ([]))))),Hm [(0,Fe 0 n (j+1+1) y D M v.acc)]⟩) (fun _=>()) (fun v=>(b+1-v.x).toNat) ⟨_,F,acA _,ap⟩ ?_ rfl ?_
  ·refine aj ⟨rfl,trivial⟩ ?_;simp[wk]
  rintro⟨x,ac,Z,p⟩;simp only;by_cases C:x<=b
  ·obtain⟨al,hq⟩:=a9 x Z C;have a8:=V x al;rw[gR C,ac2,<- aaM]at p;have J:(ac++h x).length<=2000000:=by
    rw[<- p,aaV]at g;omega
   have bx:(d1*x).natAbs<=65535*46911780290560:=by
    rw[abk];exact aaT (by omega) (by omega)
   have a3:=a2 j rfl x;rw[a3]at J p;have cV:=U j rfl x ac Z C J;generalize pT f n B (j+1) (aY n (x::y))=rx at*
   generalize p8 f n B j (x::y)=W at*
   have a7:0<=d1*rx:=aaS (by omega) a8.1;have O:Int.tdiv (sq-(d1*x+s)*(d1*x+s)) d1=rx:=by rw[hq];exact acT _ (by omega)
   have bw:0<=(d1*x+s)*(d1*x+s):=by
    rcases abU 0 (d1*x+s)with h|h
    ·exact aaS h h
    exact aaU h h
   have bl:=jq (j+1+1) y;have a0:=nG (j+1) x y;have av:(gh (j+1+1)++lc fI y)[j+1]?=some [.junk]:=by
    rw[aaB (by simp[gh])];simp[gh]
   refine bA (dE (k:=fO rfl (dM (bA (dz (de (aH av a0) (k:=dE (k:=?_))))))));generalize hU:(d1*x+s)*(d1*x+s)=uu at*
   refine nj b8 cV 0 [] [] (by kernel_rfl) (by omega) (by kernel_rfl) fun K z=>?_
   simp(disch:=omega) only[kd,abp,aa,Nat.reduceSub,e4,hU,aK,O];refine z _ ⟨⟨rfl,?_⟩,?_⟩
   ·exact(IT 0 0 _ _ _ _ _ _).symm
   clear z K;show dW _ _ _ _ _ _ _;refine yM (by kernel_rfl) fun _ K=>?_;simp(disch:=omega) only[kd,aa,Fd,cwD,abp,Nat.reduceSub,X5,pB,mu,af,abe,gY,aK];apply K
   refine⟨⟨x+1,ac++W,by omega,p⟩,by simp only;omega,(MY rfl).trans (aj ⟨rfl,trivial⟩ ?_),trivial⟩;simp[wk]
  rw[jd C,acM,aa8]at p;subst p;refine bA (dE (k:=fq rfl (ni ?_)));show _/\_;refine⟨.inl rfl,trivial,_,aj (tm:=(jk::jk::.one (.ptr 0 1 0 0)::.one (.ptr 0 2 0 0)::.one (.ptr 0 4 0 0)::.one (.ptr 0 0 0 0)::j16 (j16 (j16 (j16 (j4 (j4 (jk::[])))))))) (l:=[(0,Fe 0 n (j+1+1) y D M ac)]) ⟨rfl,trivial⟩ (by simp[wk]),⟨fQ _,rfl⟩,by simp⟩
end
end
def O5 (h B:Int) (ex:Bool) (x:Int):List (List Int):=if(!ex||decide (h*x*x=B))=true then[[x]]else[]
structure MuG (r:Int) (g:Int->List (List Int)) (T:List (List Int)) where
 x:Int
 acc:List (List Int)
 h1:1<=x
 h2:x<=r+1
 e:acc++(rng x r).flatMap g=T
theorem WT {h B x:Int} (c:0<h) (b:0<=B) (f:1<=x):h*x*x<=B↔x<=isqF (B/h):=by
 have e:0<=B/h:=abH b (by omega);rw[show h*x*x=x*x*h by grind,<- ab2 c,qH (eF e)];omega
theorem WU (h B:Int) (ex:Bool) (L:0<h) (z:h<=10000) (y:0<=B) (H:B<=4611686018427387904) (E:((rng 1 (isqF (B/h))).flatMap (O5 h B ex)).length<=1000000):
  CallC prog 137 [.raw (.int .i64 h),.raw (.int .i64 B),.raw (.bool ex)] ⟨[],cq ((rng 1 (isqF (B/h))).flatMap (O5 h B ex))⟩:=by
 have N:0<=B/h:=abH y (by omega);have O:B/h<=B:=acK _ y;have V:=nE N (by omega);have f:=fun x (l:1<=x)=>WT (x:=x) L y l
 have n: ∀x,1<=x->x<=2147483649->h*x<=21474836490000/\0<=h*x:=fun x H I=>by
  have:=aa7 z I (by omega) (by omega);exact⟨by omega,aaS (by omega) (by omega)⟩
 have o: ∀x,1<=x->x<=isqF (B/h)+1->0<=h*x*x/\h*x*x<=4611800000000000000:=fun x P W=>by
  obtain⟨F,C⟩:=n x P (by omega);refine⟨aaS C (by omega),?_⟩;by_cases l:x<=isqF (B/h)
  ·grind
  by_cases e:x=1
  ·grind
  have S:=(f (x-1) (by omega)).2 (by omega);grind
 generalize J:(rng 1 (isqF (B/h))).flatMap (O5 h B ex)=T at*
 generalize isqF (B/h)=r at*
 refine aA func137 rfl ntmps137 (aC (k:=bC (k:=ai (bC (k:=?_)))));refine aB (G:=MuG r (O5 h B ex) T) (fun g=>⟨(.raw (.int .i64 h)::.raw (.int .i64 B)::.raw (.bool ex)::j4 (.one (.sl 33 0 0 g.acc.length)::.raw (.int .i64 g.x)::j16 (j4 (j4 (jk::jk::[]))))),Hm [(33,[⟨35,1,lc (fR fI) g.acc⟩])]⟩) (fun g=>(r+1-g.x).toNat) ⟨1,[],by omega,by omega,by rw[ab1];exact J⟩ ?_ ?_
 ·refine(dZ (k:=7) (d:=33) 35 1 (by omega) rfl rfl).trans (aj ⟨rfl,trivial⟩ ?_);simp[wk]
 rintro⟨x,acc,e,A,b⟩;simp only;obtain⟨F,C⟩:=n x e (by omega);obtain⟨Q,R⟩:=o x e A;have D:=f x e;by_cases l:x<=r
 ·have M:=D.2 l;rw[gR l,ac2,<- aaM]at b;have c:(acc++O5 h B ex x).length<=1000000:=by
   grind
  rw[show O5 h B ex x=if(!ex||decide (h*x*x=B))=true then[[x]]else[]from rfl]at b c;generalize U:O5 h B ex=G at*
  generalize s:h*x=u at*
  generalize t:u*x=w at*
  refine ai (aL (aH s t) (k:=ay rfl (ak (ai (am ?_)))));have q:lc (fR fI) acc++[[AV.p (.sl [[.raw (.int .i64 x)]])]]=lc (fR fI) (acc++[[x]]):=oz acc [x];cases ex with
  |false=>
   simp only[Bool.not_false,Bool.true_or,if_true]at b c;have m:acc.length+1<=1000000:=by grind
   refine ar (k:=ay rfl (eK q (k:=bS (k:=?_))));refine⟨⟨x+1,acc++[[x]],by omega,by omega,b⟩,by grind,aj ⟨rfl,trivial⟩ ?_⟩;simp[wk]
  |true=>
   simp only[Bool.not_true,ad8,decide_eq_true_eq]at b c;by_cases v:w=B
   ·have j:(w=B)=True:=eq_true v;rw[if_pos v]at b c;have m:acc.length+1<=1000000:=by grind
    refine aL (aH s (aH t j)) (k:=ay rfl (eK q (k:=bS (k:=?_))));refine⟨⟨x+1,acc++[[x]],by omega,by omega,b⟩,by grind,aj ⟨rfl,trivial⟩ ?_⟩;simp[wk]
   have j:(w=B)=False:=eq_false v;rw[if_neg v,aa8]at b;refine aL (aH s (aH t j)) (k:=aq rfl (ak (bS (k:=?_))));refine⟨⟨x+1,acc,by omega,by omega,b⟩,by grind,aj ⟨rfl,trivial⟩ ?_⟩;simp[wk]
 have K: ¬h*x*x<=B:=fun k=>l (D.1 k)
 rw[jd l,acM,aa8]at b;subst b;generalize s:h*x=u at*
 generalize t:u*x=w at*
 refine ai (aL (aH s t) (k:=aq rfl (aZ (bC (k:=?_)))));refine aW ⟨.inr rfl,jt 33 (bO rfl) ?_ rfl⟩;simp(disch:=omega) only[kd,results137,cq]
 simp
theorem AD {c:Code} {Q:Exit->AS->Prop} (h:dW P YY [] c (fun e s _=>Q e s) s ()):bf P c Q s:=fun l O X a w r=>
 wp_mono (h (fun _=>none) (fun _=>True) l O X a w ⟨TI.2 r,fun _ g=>by simp at g⟩) fun _ _ _ ⟨j,_,b,f⟩=>⟨j,b,f.1.1⟩
end Go.Proofs.YtalmoejhjceflaaGreat
