/-
  Proved: the statement MinkowskiBinarySaid: for every input the law quadformlaw14.MinkowskiBinary returns true, and each argument reads afterwards as it read before. The package variable holds what the program says.
-/
import Derived.Test.YtfgeomlagfomgaaGreatDoorQ24
import Derived.Test.YtfgeomlagfomgaaGreatDoorCards
import Derived.Test.YtfgeomlagfomgaaGreatDoorTie
import Derived.SevenTiedAt
import Derived.ProofKit
import Derived.Stop.Joined
set_option linter.all false
set_option maxRecDepth 100000
set_option maxHeartbeats 64000000
open Nat renaming reduceAdd → aa
open Nat renaming reduceEqDiff → ab
open List renaming replicate → ae
open Nat renaming reduceBEq → af
open Nat renaming le_trans → az
namespace Go.Proofs.YtfgeomlagfomgaaGreatDoor
open Go.RowKit
def gG (i j:Nat) (c:Int) (f:FF):Nat->Nat->Int:=fun r b=>
 if i=j then(if c<0 then(if b=i then-f r i else f r b)else f r b)
 else if c=0 then(if b=i then f r j else if b=j then f r i else f r b)
 else if b=i then f r i+c*f r j else f r b
def dX (i j:Nat) (c:Int) (f:FF) (m:Nat):Nat->Nat->Int:=fun r b=>if r<m then gG i j c f r b else f r b
theorem rP (i j:Nat) (c:Int) (f:FF):dX i j c f 0=f:=by funext r b;simp[dX]
theorem iJ {i j:Nat} {c:Int} {f:FF} {m:Nat} (b:Nat):dX i j c f m m b=f m b:=by simp[dX]
theorem uQ {i j:Nat} {c:Int} {f:FF} {m r b:Nat} (h:r<m):dX i j c f m r b=gG i j c f r b:=by simp[dX,h]
def di (L:List Int) (n:Nat):Nat->(Nat->Nat->Int)×Nat
 |0=>(fun i j=>if i=j then 1 else 0,0)
 |k+1=>
  let s:=di L n k
  if s.2<L.length then(gG (f5 L s.2 n) (f5 L (bI L s.2) n) (Int.tmod (L.getD (bI L (bI L s.2)) 0) 3) s.1,bI L (bI L (bI L s.2)))else s
def dK (L:List Int) (n:Nat):Nat->Nat->Int:=(di L n 12).1
theorem lP {L:List Int} {n k:Nat} (h: ¬(di L n k).2<L.length): ∀m,di L n (k+m)=di L n k
 |0=>rfl
 |m+1=>by
  have ih:=lP h m;rw[<- Nat.add_assoc,di];rw[ih,if_neg h]
theorem wQ {L:List Int} {n k:Nat} (hk:k<=12) (h:k=12\/ ¬(di L n k).2<L.length):(di L n k).1=dK L n:=by
 unfold dK;rcases h with rfl|h
 ·rfl
 have:=lP h (12-k);rw[show k+(12-k)=12 by omega]at this;rw[this]
theorem ry (L:List Int) (n:Nat): ∀k,(di L n k).2<=L.length
 |0=>Nat.zero_le _
 |k+1=>by
  have ih:=ry L n k;rw[di];split
  ·exact dV (dV (dV ih))
  exact ih
theorem Da {i j:Nat} {c:Int} {f:FF} {B:Nat} (hc: -2<=c/\c<=2) (h: ∀a b,(f a b).natAbs<=B) (a b:Nat):(gG i j c f a b).natAbs<=3*B:=by
 have h1:=h a b;have h2:=h a i;have h3:=h a j;unfold gG;split
 ·split
  ·split<;>omega
  omega
 split
 ·split
  ·omega
  split<;>omega
 split
 ·have:c= -2\/c= -1\/c=1\/c=2:=by omega
  rcases this with rfl|rfl|rfl|rfl<;>omega
 omega
theorem wK (x:Int): -2<=Int.tmod x 3/\Int.tmod x 3<=2:=by
 have h1:=Int.tmod_lt_of_pos x (show(0:Int)<3 by omega);have h2:=Int.lt_tmod_of_pos x (show(0:Int)<3 by omega);omega
theorem ru (L:List Int) (n:Nat): ∀k a b,((di L n k).1 a b).natAbs<=3^k
 |0,a,b=>by
  rw[di];show(if a=b then(1:Int)else 0).natAbs<=3^0;split<;>simp
 |k+1,a,b=>by
  have ih:=ru L n k;rw[di];split
  ·have:=Da (i:=f5 L (di L n k).2 n) (j:=f5 L (bI L (di L n k).2) n) (wK (L.getD (bI L (bI L (di L n k).2)) 0)) ih a b;exact az this (by rw[Nat.pow_succ];omega)
  have:=ih a b;exact az this (by rw[Nat.pow_succ];omega)
theorem jZ (L:List Int) (n:Nat) {k:Nat} (hk:k<=12) (a b:Nat): -531441<=(di L n k).1 a b/\(di L n k).1 a b<=531441:=by
 have h1:=ru L n k a b;have h2:3^k<=3^12:=Nat.pow_le_pow_right (by omega) hk;rw[show 3^12=531441 from rfl]at h2;omega
theorem uS {i j n:Nat} (c:Int) (f:FF) (hi:i<n) (hj:j<n):(dk (gG i j c f) n).natAbs=(dk f n).natAbs:=by
 by_cases e:i=j
 ·by_cases hc:c<0
  ·have h:gG i j c f=dv f i (fun r=> - f r i):=by
    funext r b;unfold gG dv;rw[if_pos e,if_pos hc]
   rw[h,oA hi,Int.natAbs_neg]
  have h:gG i j c f=f:=by
   funext r b;unfold gG;rw[if_pos e,if_neg hc]
  rw[h]
 by_cases hc:c=0
 ·have h:gG i j c f=fun r b=>if b=i then f r j else if b=j then f r i else f r b:=by
   funext r b;unfold gG;rw[if_neg e,if_pos hc]
  rw[h,me hi hj e,Int.natAbs_neg]
 have h:gG i j c f=dv f i (fun r=>f r i+c*f r j):=by
  funext r b;unfold gG dv;rw[if_neg e,if_neg hc]
 rw[h,jD hi hj e]
theorem rx (L:List Int) {n:Nat} (hn:0<n): ∀k,(dk (di L n k).1 n).natAbs=1
 |0=>by rw[di,Dd];rfl
 |k+1=>by
  have ih:=rx L hn k;rw[di];split
  ·rw[uS _ _ (dA _ _ hn) (dA _ _ hn),ih]
  exact ih
theorem Ai (L:List Int) {n:Nat} (hn:0<n):(dk (dK L n) n).natAbs=1:=rx L hn 12
theorem iR (L:List Int) (n a b:Nat): -531441<=dK L n a b/\dK L n a b<=531441:=jZ L n (Nat.le_refl 12) a b
section
variable {n:Nat}
theorem gB.mul {t u:FF} (ht:gB n t) (hu:gB n u):gB n (eH n t u):=fun v=>by
 obtain⟨y,hy⟩:=ht v;obtain⟨z,hz⟩:=hu y;refine⟨z,fun j hj=>?_⟩;rw[<- hy j hj];unfold mV;rw[aO n (F:=fun a=>y a*t j a) (G:=fun p=>bY (fun a=>z a*(t j p*u p a)) n) (fun p hp=>by
  rw[<- hz p hp];unfold mV;rw[<- jX];exact aO n fun a _=>by grind),ji]
 exact aO n fun a _=>by rw[dP,cd]
theorem gB.addc {t:FF} (h:gB n t) {i j:Nat} (hi:i<n) (hj:j<n) (hij:i≠j) (c:Int):gB n (fun a b=>if b=i then t a i+c*t a j else t a b):=h.of fun x=>
 ⟨fun b=>if b=j then x j-c*x i else x b,fun a _=>by
  have h1:=kD (F:=fun b=>x b*t a b) (G:=fun b=>if b=j then(x j-c*x i)*t a j else x b*t a b) hj (fun b _ hne=>(if_neg hne).symm);have h2:=kD (F:=fun b=>if b=j then(x j-c*x i)*t a j else x b*t a b) (G:=fun b=>(if b=j then x j-c*x i else x b)*(if b=i then t a i+c*t a j else t a b)) hi (fun b _ hne=>by
   show _=(if b=j then x j-c*x i else x b)*(if b=i then t a i+c*t a j else t a b);rw[if_neg hne];by_cases e:b=j
   ·subst e;rw[if_pos rfl,if_pos rfl]
   rw[if_neg e,if_neg e])
  show bY (fun b=>(if b=j then x j-c*x i else x b)*(if b=i then t a i+c*t a j else t a b)) n=bY (fun b=>x b*t a b) n;rw[h2,h1];simp only[if_true,if_neg hij];grind⟩
theorem zM {f t h T:FF} (hr:Rch n f t h T):gB n t->gB n T:=by
 induction hr with
 |done _ _ _=>exact id
 |step f t h T c hc _ ih=>
  intro ht;refine ih ?_;obtain⟨hF,hi⟩:=fd hc;cases c with
  |add i j=>
   have hi:i<n:=hi;have hji:j<i:=hF.1;refine(ht.addc hi (show j<n by omega) (by omega) (cF f i j)).congr fun a b _ hb=>?_
   show eH n t (Gv i j (cF f i j)) a b=_;rw[vz (by omega) (by omega) t a b hb];by_cases e:b=i
   ·subst e;rw[if_pos rfl,if_pos rfl]
   rw[if_neg e,if_neg e,Int.add_zero]
  |swp m=>
   have hm:m+1<n:=hi;refine(ht.swap (show m<n by omega) hm).congr fun a b _ hb=>?_
   show eH n t (F6 m) a b=_;rw[vC hm t a b hb];unfold m0;split
   ·rfl
   split<;>rfl
theorem uO {f f' t:FF} (h: ∀a b,a<n->b<n->f a b=f' a b) (a b:Nat):cngF n f t a b=cngF n f' t a b:=by
 rw[dW,dW];exact eJ h (fun _ _=>rfl) fun _ _=>rfl
theorem zL {f0 f t h T:FF} (hr:Rch n f t h T):(∀a b,a<n->b<n->cngF n f0 t a b=f a b)-> ∀a b,a<n->b<n->cngF n f0 T a b=h a b:=by
 induction hr with
 |done _ _ _=>exact id
 |step f t h T c hc _ ih=>
  intro e;refine ih fun a b ha hb=>?_
  rw[<- tG,uO e];obtain⟨hF,hi⟩:=fd hc;cases c with
  |add i j=>exact yR (by have:=hF.1;omega) (by have:i<n:=hi;have:=hF.1;omega) f a b ha hb
  |swp m=>exact C5 hi f a b ha hb
def gD (n:Nat) (g h:FF):Prop:= ∃T,gB n T/\ ∀a b,a<n->b<n->cngF n g T a b=h a b
theorem gD.trans {g h p:FF} (h1:gD n g h) (h2:gD n h p):gD n g p:=by
 obtain⟨T,s1,e1⟩:=h1;obtain⟨S,s2,e2⟩:=h2;refine⟨_,s1.mul s2,fun a b ha hb=>?_⟩;rw[<- tG,uO e1];exact e2 a b ha hb
theorem pY:gB n idF:=gB.one.congr fun _ _ _ _=>rfl
theorem uP (h:FF) {a b:Nat} (ha:a<n) (hb:b<n):cngF n h idF a b=h a b:=by
 have e: ∀x y,BF n h x y=bY (fun i=>x i*bY (fun j=>h i j*y j) n) n:=fun _ _=>rfl
 rw[dW,e,aO n (G:=fun i=>h i b*idF i a) (fun i _=>by rw[n5 hb];exact Int.mul_comm _ _)];exact n5 (y:=fun i=>h i b) ha
theorem gD.refl (g:FF):gD n g g:=⟨idF,pY,fun _ _ ha hb=>uP g ha hb⟩
theorem oR {f h T:FF} (hr:Rch n f idF h T):gD n f h:=⟨T,zM hr pY,zL hr fun _ _ ha hb=>uP f ha hb⟩
theorem lK {h R:FF} (hR:RchB n h idF R):gD n h (gmB n h (j7 (gmB n h R) R)):=by
 have one:gB n (trF idF):=gB.one.congr fun i j _ _=>by
  show(if j=i then(1:Int)else 0)=if i=j then 1 else 0
  by_cases e:i=j<;>simp[e,eq_comm]
 exact⟨_,zV (g:=gmB n h R) (vW hR one),fun a b _ _=>by rw[<- qp]⟩
theorem nF {g p q:FF} (hn:n<=4) (h1:gD n g p) (h2:gD n g q) (pp:PD p n) (pq:PD q n) (mp:MinkP p n) (mq:MinkP q n) {i:Nat} (hi:i<n):p i i=q i i:=by
 obtain⟨T,s1,e1⟩:=h1;obtain⟨S,s2,e2⟩:=h2;have e1':=fun i j hi hj=>(e1 i j hi hj).symm
 have e2':=fun i j hi hj=>(e2 i j hi hj).symm
 rw[<- e1 i i hi hi,<- e2 i i hi hi];exact rZ hn (pp.congr e1') (pq.congr e2') (mp.congr e1') (mq.congr e2') s1.rinv s2.rinv hi
theorem ri {t:FF} (h:gB 2 t):(dk t 2).natAbs=1:=by
 obtain⟨x,hx⟩:=h (fun j=>if j=0 then 1 else 0);obtain⟨y,hy⟩:=h (fun j=>if j=1 then 1 else 0);have x0:=hx 0 (by omega);have x1:=hx 1 (by omega);have y0:=hy 0 (by omega);have y1:=hy 1 (by omega);simp[mV,bY]at x0 x1 y0 y1;have e:(x 0*y 1-x 1*y 0)*dk t 2=1:=by rw[kN];grind
 have:=congrArg Int.natAbs e;rw[Int.natAbs_mul]at this;exact Nat.eq_one_of_mul_eq_one_left this
theorem tJ {g p q:FF} (hn1:1<=n) (hn:n<=2) (hg:PD g n) (h1:gD n g p) (h2:gD n g q) (mp:MinkP p n) (mq:MinkP q n) (pp:PD p n) (pq:PD q n) {i j:Nat} (hi:i<n) (hj:j<n):p i j=q i j:=by
 have:n=1\/n=2:=by omega
 rcases this with rfl|rfl
 ·obtain rfl:i=0:=by omega
  obtain rfl:j=0:=by omega
  exact nF (by omega) h1 h2 pp pq mp mq (by omega)
 obtain⟨T,s1,e1⟩:=h1;obtain⟨S,s2,e2⟩:=h2;rw[<- e1 i j hi hj,<- e2 i j hi hj];exact vy hg (mp.congr fun i j hi hj=>(e1 i j hi hj).symm) (mq.congr fun i j hi hj=>(e2 i j hi hj).symm) s1.rinv s2.rinv (ri s1) (ri s2) hi hj
/-! Unimodular of quadformmake. -/
theorem yT {i j:Nat} (c:Int) {f:FF} (hi:i<n) (hj:j<n) (h:gB n f):gB n (gG i j c f):=by
 by_cases e:i=j
 ·by_cases hc:c<0
  ·refine(h.sign (s:=fun a=>if a=i then -1 else 1) (fun a=>by by_cases ha:a=i<;>simp[ha])).congr fun a b _ _=>?_
   unfold gG;rw[if_pos e,if_pos hc];by_cases hb:b=i
   ·subst hb;simp
   simp[hb]
  refine h.congr fun a b _ _=>?_
  unfold gG;rw[if_pos e,if_neg hc]
 by_cases hc:c=0
 ·refine(h.swap hi hj).congr fun a b _ _=>?_
  unfold gG;rw[if_neg e,if_pos hc]
 refine(h.addc hi hj e c).congr fun a b _ _=>?_
 unfold gG;rw[if_neg e,if_neg hc]
theorem oh (L:List Int) (hn:0<n): ∀k,gB n (di L n k).1
 |0=>pY.congr fun _ _ _ _=>rfl
 |k+1=>by
  have ih:=oh L hn k;rw[di];split
  ·exact yT _ (dA _ _ hn) (dA _ _ hn) ih
  exact ih
theorem zt (X:FF) (i j:Nat) (c:Int) (f:FF) (r b:Nat):eH n X (gG i j c f) r b=gG i j c (eH n X f) r b:=by
 have hz: ∀(A:FF) b,eH n X A r b=bY (fun p=>X r p*A p b) n:=fun A b=>dP _ _ _ _ _
 by_cases e:i=j
 ·by_cases hc:c<0
  ·simp only[gG,if_pos e,if_pos hc,hz];by_cases hb:b=i
   ·simp only[if_pos hb];have h1:=cd (-1) (fun p=>X r p*f p i) n;rw[aO n (G:=fun p=> -1*(X r p*f p i)) (fun p _=>by grind),h1];omega
   simp only[if_neg hb]
  simp only[gG,if_pos e,if_neg hc,hz]
 by_cases hc:c=0
 ·simp only[gG,if_neg e,if_pos hc,hz];by_cases hb:b=i
  ·simp only[if_pos hb]
  by_cases hb2:b=j
  ·simp only[if_neg hb,if_pos hb2]
  simp only[if_neg hb,if_neg hb2]
 simp only[gG,if_neg e,if_neg hc,hz];by_cases hb:b=i
 ·simp only[if_pos hb];rw[<- cd c,<- iX];exact aO n fun p _=>by grind
 simp only[if_neg hb]
theorem gU (L:List Int) (hn:0<n) (X:FF): ∀k,(dk (eH n X (di L n k).1) n).natAbs=(dk X n).natAbs
 |0=>by
  rw[ew (g:=X) fun i j _ hj=>?_];rw[dP];exact n5 (y:=fun p=>X i p) hj
 |k+1=>by
  have ih:=gU L hn X k;rw[di];split
  ·rw[ew (k:=n) fun i j _ _=>zt X _ _ _ _ i j,uS _ _ (dA _ _ hn) (dA _ _ hn),ih]
  exact ih
theorem A7 (hn:n<=4) (f:FF):dk (trF f) n=dk f n:=by
 have:n=0\/n=1\/n=2\/n=3\/n=4:=by omega
 rcases this with rfl|rfl|rfl|rfl|rfl
 ·rfl
 ·simp[dk,om,dr,iD,trF]
 ·simp[dk,om,dr,iD,trF];grind
 ·simp[dk,om,dr,iD,trF];grind
 simp[dk,om,dr,iD,trF];grind
theorem pB (L:List Int) (hn1:1<=n) (hn:n<=4) (g:FF):(dk (cngF n g (dK L n)) n).natAbs=(dk g n).natAbs:=by
 unfold cngF;rw[show dK L n=(di L n 12).1 from rfl,gU L hn1 _ 12,ew (g:=trF (eH n (trF g) (di L n 12).1)) fun i j _ _=>?_,A7 hn,gU L hn1 _ 12,A7 hn];rw[trF,dP,dP];exact aO n fun p _=>Int.mul_comm _ _
theorem mJ {F:Nat->Int} {B:Nat}: ∀k,(∀p,p<k->(F p).natAbs<=B)->(bY F k).natAbs<=k*B
 |0,_=>by simp[bY]
 |k+1,h=>by
  have h1:=mJ k fun p hp=>h p (by omega)
  have h2:=h k (by omega);rw[bY,Nat.add_mul,Nat.one_mul];omega
theorem pA (L:List Int) {E:Nat} {g:FF} (hb: ∀a b,(g a b).natAbs<=E) (hE:n*n*E<=200) (a b:Nat):(cngF n g (dK L n) a b).natAbs<=2^46:=by
 have hu: ∀a b,(dK L n a b).natAbs<=531441:=fun a b=>by have:=iR L n a b;omega
 rw[dW];have h1: ∀i,(bY (fun j=>g i j*dK L n j b) n).natAbs<=n*(E*531441):=fun i=>mJ n fun j _=>by
  rw[Int.natAbs_mul];exact Nat.mul_le_mul (hb i j) (hu j b)
 have h2:(BF n g (fun i=>dK L n i a) fun j=>dK L n j b).natAbs<=n*(531441*(n*(E*531441))):=mJ n fun i _=>by
  rw[Int.natAbs_mul];exact Nat.mul_le_mul (hu i a) (h1 i)
 refine az h2 ?_;have e:n*(531441*(n*(E*531441)))=n*n*E*(531441*531441):=by grind
 rw[e];exact az (Nat.mul_le_mul_right _ hE) (by decide)
theorem zK (L:List Int) {E:Nat} {g:FF} (hn1:1<=n) (hn:n<=4) (hg:GoodP n g) (hb: ∀a b,(g a b).natAbs<=E) (hE:n*n*E<=200):tj 4 (2^192) 90 n (cngF n g (dK L n)):=by
 obtain⟨hs,hp,hd⟩:=hg;have pg:PD g n:=⟨hs,fun k hk=>(kR hp k hk).1⟩;have hud:=Ai L (n:=n) (by omega);have pc:PD (cngF n g (dK L n)) n:=pg.cng (by omega);have hB:=pA L hb hE;have hpos:th (cngF n g (dK L n)) n:=fun k hk=>by
  rw[mb fun t ht=>by have:=pc.2 t (by omega);omega];exact pc.2 k hk
 have e: ∀f:Nat->Nat->Int,th f n->detF n f=dk f n:=fun f hf=>by
  have:=(kR hf (n-1) (by omega)).2;rwa[show n-1+1=n by omega]at this
 have hdt:detF n (cngF n g (dK L n))<=10000:=by
  have h1:=pB L hn1 hn g;have h2:=pc.det;have h3:=pg.det;rw[e _ hp]at hd;rw[e _ hpos];omega
 refine⟨⟨pc.1,hpos,hdt⟩,fun i j _ _=>?_,RedI.start_ Or hn pc.1 hpos (fun k hk=>?_) (fun a _=>az (hB a a) (by decide)) fun a b _ _=>vk a b⟩
 ·exact Sz.mono (k:=2) (Nat.lt_of_le_of_lt (hB i j) (by decide)) (by omega)
 exact az (Dc (L:=4) (by decide) hB (by omega)) (by decide)
theorem ud (L:List Int) (hn1:1<=n) (g:FF):gD n g (cngF n g (dK L n)):=⟨_,oh L hn1 12,fun _ _ _ _=>rfl⟩
end
def Qq (M:List (List Int)):Prop:=(1<=M.length/\M.length<=4)/\ ∀r∈M,RwOk M.length r
theorem Qq.entB {M:List (List Int)} (h:Qq M) {i j:Nat} (hi:i<M.length) (hj:j<M.length): -1125899906842624<=ent M i j/\ent M i j<=1125899906842624:=by
 have hr:=h.2 M[i] (List.getElem_mem hi);have e:ent M i j=M[i][j]'(by rw[hr.1];exact hj):=by
  unfold ent;simp[List.getD,hi,hr.1,hj]
 rw[e];exact hr.2 _ (List.getElem_mem _)
/-! The gJ of a row of small coefficients. -/
/-! The next list of coefficients. -/
theorem pS (x y:List Int):CallC Tryz.prog 31 [jW x,jW y] ⟨[],.raw (.int .i64 (lh x y))⟩:=by
 refine f6 (by kernel_rfl) fun X w vs hX hvs ha=>?_
 obtain⟨v0,e0,r0⟩:=kL ha (j:=0) rfl;obtain⟨v1,e1,r1⟩:=kL ha (j:=1) rfl;obtain⟨A,c,rfl,hc,hl,hA⟩:=gP r0;obtain⟨B,d,rfl,hd,hlb,hB⟩:=gP r1;obtain rfl:vs= #[.slice A x.length c,.slice B y.length d]:=by
  apply Array.ext_getElem?;intro j
  match j with
  |0=>exact e0
  |1=>exact e1
  |j+2=>rw[Array.getElem?_eq_none (by simp at hvs;omega)];rfl
 refine(jT A B c d x y w hA hB hl hlb).mono fun e w' ⟨h1,h2⟩=>?_
 obtain⟨n,rfl⟩:=h2;exact⟨_,h1,fun _ _ _=>cW.raw _ rfl,(Ext.refl _).drewN n⟩
theorem yS {i:Nat} {c:Int} {f:FF} {m:Nat} (hc:c<0) (a b:Nat):upd (dX i i c f m) m i (0-f m i) a b=dX i i c f (m+1) a b:=by
 rw[Int.zero_sub];unfold upd dX gG;by_cases h1:a=m
 ·subst h1;by_cases h2:b=i
  ·subst h2;simp[hc]
  simp[h2]
 have:a<m+1↔a<m:=by omega
 simp[h1,this]
theorem uU {i j:Nat} {f:FF} {m:Nat} (hij:i≠j) (a b:Nat):upd (upd (dX i j 0 f m) m i (f m j)) m j (f m i) a b=dX i j 0 f (m+1) a b:=by
 unfold upd dX gG;by_cases h1:a=m
 ·subst h1;by_cases h2:b=j
  ·subst h2;simp[hij,Ne.symm hij]
  by_cases h3:b=i
  ·subst h3;simp[hij]
  simp[h2,h3,hij]
 have:a<m+1↔a<m:=by omega
 simp[h1,this]
theorem uR {i j:Nat} {c:Int} {f:FF} {m:Nat} (hij:i≠j) (hc:c≠0) (a b:Nat):upd (dX i j c f m) m i (f m i+c*f m j) a b=dX i j c f (m+1) a b:=by
 unfold upd dX gG;by_cases h1:a=m
 ·subst h1;by_cases h2:b=i
  ·subst h2;simp[hij,hc]
  simp[h2,hij,hc]
 have:a<m+1↔a<m:=by omega
 simp[h1,this]
theorem uT {i:Nat} {c:Int} {f:FF} {m:Nat} (hc: ¬c<0) (a b:Nat):dX i i c f m a b=dX i i c f (m+1) a b:=by
 unfold dX gG;simp[hc]
theorem zr {c x:Int} (h1: -2<=c) (h2:c<=2) (h3: -531441<=x) (h4:x<=531441): -1062882<=c*x/\c*x<=1062882:=by
 have:c= -2\/c= -1\/c=0\/c=1\/c=2:=by omega
 rcases this with rfl|rfl|rfl|rfl|rfl<;>omega
abbrev Ld (L:List Int) (p:Nat):List OObj:=[⟨95,2,[[.p (.sl (ls f8 L)),.p (.raw (.int .i64 (p:Int)))]]⟩]
structure RB where
 k:Nat
 hk:k<=12
theorem DJ (L:List Int) (n:Nat) (hL:I8 L) (hn1:1<=n) (hn:n<=16):
  CallC Tryz.prog 27 [z7 L,.raw (.int .i64 (n:Int))] ⟨df 0 n n (dK L n),.one (.sl 0 0 0 n)⟩:=by
 refine aI Tryz.func27 rfl (by kernel_rfl) ?_;rw[Tryz.ntmps27];refine aD fun _ K=>?_;simp only[kd,z7,aa,ae];apply K
 refine aD fun _ K=>?_;simp(disch:=omega) only[kd,aa];apply K
 refine aF (aD fun _ K=>?_);simp only[kd,aa];apply K;refine aY (G:=j6 n) (fun g=>⟨(z7 L::rN n::jk::jk::jk::.one (.sl 14 0 0 n)::j4 (j4 (jk::jk::rN n::rN g.i::j16 (j16 (j16 (j16 (j16 (j16 (j16 (j4 (j4 (j4 (jk::jk::jk::[]))))))))))))),Hm [(14,kI 14 n n g.i (mZ g.i))]⟩) (fun g=>n-g.i) ⟨0,by omega⟩ ?_ ?_
 ·refine aE ⟨?_,trivial⟩ ?_
  ·show[_]=_;simp[kI,gC,bs]
  simp[wk]
 rintro⟨i,hi⟩;simp only;by_cases hm:i<n
 ·have k1:=pG (i:=i) (n:=n) 14 n hm;have k2:=iL (i:=i) (n:=n) 14 n hi;have k3:=aW i n (mZ i);have k4:=mn (i:=i) (n:=n) (c:=n) 14 (mZ i) hm (fun j hj=>by unfold mZ;rw[if_neg (by omega)]);have k5:=pF (i:=i+1) (k:=i) (n:=n) 14 n (by omega);have k6:=iL (i:=i+1) (n:=n) 14 n (by omega);have k7:=cx (n:=i+1) n (mZ i) (i:=i) (by omega);have k8:=aU (mZ i i) hm;refine aD fun _ K=>?_;simp(disch:=omega) only[kd,z7];apply K
  refine bG rfl ?_;refine aF (aK ?_);refine aD fun _ K=>?_;simp only[kd];apply K
  refine aD fun _ K=>?_;simp(disch:=omega) only[kd,aa,ab,k1,Nat.reduceLeDiff,List.length_replicate,List.all_replicate,k3,k4,af];apply K
  refine bo.weak (aE (tm:=(z7 L::rN n::jk::jk::jk::.one (.sl 14 0 0 n)::rN i::j4 (j4 (jk::rN n::rN i::j16 (j16 (j16 (j16 (j16 (j16 (j16 (j4 (j4 (j4 (jk::jk::jk::[])))))))))))))) (l:=[(14,kI 14 n n (i+1) (mZ i))]) ⟨?_,trivial⟩ (by simp[wk])) ?_
  ·first|exact k4|rfl
  refine aL fun _ K=>?_;simp(disch:=omega) only[kd,aa,z7,k5,k7,k8,dC];apply K
  show bo _ _ _ _;refine aL fun _ K=>?_;simp(disch:=omega) only[kd,aP];apply K
  refine⟨⟨i+1,by omega⟩,by simp only;omega,aE ⟨?_,trivial⟩ ?_⟩
  ·show _::_=_::_;rw[bL fun x y _ _=>qJ i x y]
  simp[wk]
 have hin:i=n:=by omega
 subst hin;refine aD fun _ K=>?_;simp(disch:=omega) only[kd,z7];apply K
 refine bT rfl ?_;show bo _ _ _ _;have e:kI 14 i i i (mZ i)=df 14 i i (di L i 0).1:=by
  rw[mm];show _::_=_::_;rw[bL fun x y hx _=>tP x y hx];rfl
 rw[e];obtain⟨n,hni⟩: ∃n,n=i:=⟨_,rfl⟩;subst hni;refine aD fun _ K=>?_;simp(disch:=omega) only[kd,aa,Nat.reduceLeDiff,ab];apply K
 refine aF (aD fun _ K=>?_);simp only[kd];apply K;refine aY (G:=RB) (fun g=>⟨(jk::rN n::jk::jk::jk::.one (.sl 14 0 0 n)::jk::.one (.ptr 34 0 0 0)::rN g.k::j16 (j16 (j16 (j16 (j16 (j16 (j16 (j16 (j4 (j4 ([]))))))))))),Hm [(14,df 14 n n (di L n g.k).1),(34,Ld L (di L n g.k).2)]⟩) (fun g=>12-g.k) ⟨0,by omega⟩ ?_ ?_
 ·refine aE ⟨rfl,rfl,trivial⟩ ?_;simp[wk]
 rintro⟨k,hk⟩;simp only;have hle:=ry L n k;have hsm:=fun a b=>jZ L n hk a b
 have hend:=wQ (L:=L) (n:=n) hk;have hstep: ∀x,x=di L n (k+1)->x=(let s:=di L n k;if s.2<L.length then(gG (f5 L s.2 n) (f5 L (bI L s.2) n) (Int.tmod (L.getD (bI L (bI L s.2)) 0) 3) s.1,bI L (bI L (bI L s.2)))else s):=fun x h=>h
 have hst:=hstep _ rfl;generalize hu:di L n k=u at*
 obtain⟨f,p⟩:=u;simp only at hle hsm hend hst⊢;by_cases hk12:k=12
 ·subst hk12;rw[hend (.inl rfl)];refine aF (ch be (by kernel_rfl) fun _ K=>?_);simp(disch:=omega) only[kd,aa];apply K;refine aR rfl (bN ?_);show bo _ _ _ _;refine aD fun _ K=>?_;simp only[kd];apply K
  refine aH ⟨.inr rfl,_,ce.refl _,?_⟩;refine⟨.one (.sl 14 0 0 n),14,?_,rfl,?_,rfl⟩
  ·simp(disch:=omega) only[kd,Tryz.results27]
  exact(cB 14 0 _ _ _).symm
 by_cases hp:p<L.length
 ·rw[if_pos hp]at hst;have hi0:=dA (n:=n) L p hn1;have hj0:=dA (n:=n) L (bI L p) hn1;have hc0:=wK (L.getD (bI L (bI L p)) 0);have l1:=dV hle;have l2:=dV l1;refine aF (ch be (by kernel_rfl) fun _ K=>?_);simp(disch:=omega) only[kd,aa,ab];apply K;refine aX rfl (aM ?_);refine aF (pj 34 (cs:=Cq L p) rfl fun b=>?_);refine db ?_;refine eo.weak (aE (tm:=(jk::rN n::jk::jk::jk::.one (.sl 14 0 0 n)::jk::de b::rN k::j16 (j16 (j16 (j16 (j16 (j16 (j16 (j16 (j4 (j4 ([])))))))))))) (l:=[(14,df 14 n n f)]) ⟨rfl,trivial⟩ (by simp[wk,rY,ke])) ?_;have b1:=lS b L p n hL hle hn1 (by omega);have b2:=lS b L (bI L p) n hL l1 hn1 (by omega);have b3:=yx b L (bI L (bI L p)) hL l2;generalize f5 L p n=i at*
  generalize f5 L (bI L p) n=j at*
  generalize bI L (bI L p)=p2 at*
  generalize bI L p2=p3 at*
  refine ux 2 5 b1 b2 [] [] (by kernel_rfl) (by kernel_rfl) (by rfl) (by rfl) (by rfl) (by rfl) (by decide) (by simp[wk]) fun K hK=>?_
  simp only[kd,de,aa];apply hK;clear hK K;refine⟨by simp,?_⟩;intro K hK;simp only[kd,de,aa];apply hK;clear hK K;refine eo.weak (aE (tm:=(jk::rN n::jk::jk::jk::.one (.sl 14 0 0 n)::jk::de b::rN k::rN i::rN j::j16 (j16 (j16 (j16 (j16 (j16 (j16 (j16 (j4 (jk::jk::[]))))))))))) (l:=[(14,df 14 n n f)]) ⟨rfl,trivial⟩ (by simp[wk])) ?_;refine kZ 1 b3 [] [] (by kernel_rfl) (by rfl) (by rfl) fun _ K=>?_;simp(disch:=omega) only[kd,de,aa];apply K
  generalize hcc:Int.tmod (L.getD p2 0) 3=c at*
  refine aT fun _ K=>?_;simp only[kd,aa];apply K
  refine jM (G:=j6 n) (fun q=>⟨(jk::rN n::jk::jk::jk::.one (.sl 14 0 0 n)::jk::de b::rN k::rN i::rN j::.raw (.int .i64 c)::j16 (j16 (j16 (jk::rN n::rN q.i::j16 (j16 (j16 (j16 (j16 (jk::jk::[]))))))))),Hm [(14,df 14 n n (dX i j c f q.i))]⟩) (fun _=>Cq L p3) (fun q=>n-q.i) ⟨0,by omega⟩ ?_ rfl ?_
  ·rw[rP];refine aE ⟨rfl,trivial⟩ ?_;simp[wk]
  rintro⟨r,hr⟩;simp only;by_cases hm:r<n
  ·have g1:=bO (n:=n) (i:=r) 14 n hm;have g3:=cx (n:=n) n (dX i j c f r) (i:=r) hm;have g4:(bE n (dX i j c f r r))[i]?=some (f r i):=by rw[aU _ hi0,iJ]
   have g5:(bE n (dX i j c f r r))[j]?=some (f r j):=by rw[aU _ hj0,iJ]
   have s1:=hsm r i;have s2:=hsm r j;have s3:=zr hc0.1 hc0.2 s2.1 s2.2;have s11:=s1.1;have s12:=s1.2;have s31:=s3.1;have FQ:=s3.2;refine aT fun _ K=>?_;simp(disch:=omega) only[kd,de];apply K
   refine rI rfl ?_;refine cX (db ?_);refine aT fun _ K=>?_;simp only[kd];apply K
   refine db ?_;by_cases hij:i=j
   ·subst hij;by_cases hc:c<0
    ·refine aT fun _ K=>?_;simp(disch:=omega) only[kd,aa];apply K
     refine fp rfl ?_;refine gS be (by kernel_rfl) fun _ K=>?_;simp(disch:=omega) only[kd,aa,g1,g3,g4,aP,dC];apply K
     show eo _ _ _ _ _ _ _;refine dp fun _ K=>?_;simp(disch:=omega) only[kd,aP];apply K
     refine⟨⟨r+1,by omega⟩,by simp only;omega,aE ⟨?_,trivial⟩ ?_,rfl⟩
     ·show _::_=_::_;rw[bL fun a b _ _=>yS (i:=i) (f:=f) (m:=r) hc a b]
     simp[wk]
    refine aT fun _ K=>?_;simp(disch:=omega) only[kd,aa];apply K
    refine ck rfl ?_;refine aT fun _ K=>?_;simp(disch:=omega) only[kd,aa];apply K
    refine ck rfl ?_;refine aT fun _ K=>?_;simp(disch:=omega) only[kd,aa];apply K
    refine ck rfl (i4 ?_);show eo _ _ _ _ _ _ _;refine dp fun _ K=>?_;simp(disch:=omega) only[kd,aP];apply K
    refine⟨⟨r+1,by omega⟩,by simp only;omega,aE ⟨?_,trivial⟩ ?_,rfl⟩
    ·show _::_=_::_;rw[bL fun a b _ _=>uT (i:=i) (f:=f) (m:=r) hc a b]
    simp[wk]
   by_cases hc:c=0
   ·subst hc;have q4:(bE n (upd (dX i j 0 f r) r i (f r j) r))[j]?=some (f r j):=by
     rw[aU _ hj0,mO (.inr (Ne.symm hij)),iJ]
    have q3:=cx (n:=n) n (upd (dX i j 0 f r) r i (f r j)) (i:=r) hm;refine aT fun _ K=>?_;simp(disch:=omega) only[kd,aa];apply K
    refine ck rfl ?_;refine aT fun _ K=>?_;simp(disch:=omega) only[kd,aa];apply K
    refine fp rfl ?_;refine gS be (by kernel_rfl) fun _ K=>?_;simp(disch:=omega) only[kd,aa,g1,g3,g5,g4,dC,q3,q4];apply K
    show eo _ _ _ _ _ _ _;refine dp fun _ K=>?_;simp(disch:=omega) only[kd,aP];apply K
    refine⟨⟨r+1,by omega⟩,by simp only;omega,aE ⟨?_,trivial⟩ ?_,rfl⟩
    ·show _::_=_::_;rw[bL fun a b _ _=>uU (f:=f) (m:=r) hij a b]
    simp[wk]
   refine aT fun _ K=>?_;simp(disch:=omega) only[kd,aa];apply K
   refine ck rfl ?_;refine aT fun _ K=>?_;simp(disch:=omega) only[kd,aa];apply K
   refine ck rfl ?_;refine aT fun _ K=>?_;simp(disch:=omega) only[kd,aa];apply K
   refine fp rfl ?_;refine gS be (by kernel_rfl) fun _ K=>?_;simp(disch:=omega) only[kd,aa,g1,g3,g4,g5,aP,dC];apply K
   show eo _ _ _ _ _ _ _;refine dp fun _ K=>?_;simp(disch:=omega) only[kd,aP];apply K
   refine⟨⟨r+1,by omega⟩,by simp only;omega,aE ⟨?_,trivial⟩ ?_,rfl⟩
   ·show _::_=_::_;rw[bL fun a b _ _=>uR (f:=f) (m:=r) hij hc a b]
   simp[wk]
  have hrn:r=n:=by omega
  subst hrn;refine aT fun _ K=>?_;simp(disch:=omega) only[kd,de];apply K
  refine rH rfl ?_;have e:df 14 r r (dX i j c f r)=df 14 r r (gG i j c f):=by
   show _::_=_::_;rw[bL fun a b ha _=>uQ ha]
  rw[e];refine⟨rfl,?_⟩;show bo _ _ _ _;refine bo.weak (aE (tm:=(jk::rN r::jk::jk::jk::.one (.sl 14 0 0 r)::jk::.one (.ptr 34 0 0 0)::rN k::j16 (j16 (j16 (j16 (j16 (j16 (j16 (j16 (j4 (j4 ([])))))))))))) (l:=[(14,df 14 r r (gG i j c f)),(34,Ld L p3)]) ⟨rfl,rfl,trivial⟩ (by simp[wk,C1,uC])) ?_;refine aL fun _ K=>?_;simp(disch:=omega) only[kd,aa,aP];apply K
  refine⟨⟨k+1,by omega⟩,by simp only;omega,?_⟩;rw[hst];refine aE ⟨rfl,rfl,trivial⟩ ?_;simp[wk]
 rw[hend (.inr hp)];refine aF (ch be (by kernel_rfl) fun _ K=>?_);simp(disch:=omega) only[kd,aa,ab];apply K;refine aR rfl (bN ?_);show bo _ _ _ _;refine aD fun _ K=>?_;simp only[kd];apply K
 refine aH ⟨.inr rfl,_,ce.refl _,?_⟩;refine⟨.one (.sl 14 0 0 n),14,?_,rfl,?_,rfl⟩
 ·simp(disch:=omega) only[kd,Tryz.results27]
 exact(cB 14 0 _ _ _).symm
theorem zm (L:List Int) (n:Nat) (hL:I8 L) (hn1:1<=n) (hn:n<=16):
  CallC Tryz.prog 27 [z7 L,.raw (.int .i64 (n:Int))] ⟨[],bx (bs n n (dK L n))⟩:=(DJ L n hL hn1 hn).fzI
noncomputable abbrev si (kind:Nat) (L B:List Int) (n:Nat):Nat->Nat->Int:=cngF n (fK kind L n) (dK B n)
theorem qQ (kind:Nat) (L B:List Int) {n:Nat} (hn1:1<=n) (hn:n<=4):tj 4 (2^192) 90 n (si kind L B n):=by
 obtain⟨hg,hb⟩:=fP kind L n hn1 (by omega);exact zK B hn1 hn hg (E:=9) (fun a b=>by have:=hb a b;omega) (by
  have:n=1\/n=2\/n=3\/n=4:=by omega
  rcases this with rfl|rfl|rfl|rfl<;>decide)
theorem IH (dim kind:Nat) (L B:List Int) (most n:Nat) (hL:I8 L) (hB:I8 B) (hdim:dim<=255) (hkind:kind<=255) (hm1:1<=most) (hm8:most<=8) (hn:n=1+dim%most):
  CallC Tryz.prog 69 [tL dim kind L B,.raw (.int .i64 (most:Int))] ⟨[],bJ (bs n n (si kind L B n))⟩:=by
 have hn1:1<=n:=by omega
 have hn8:n<=8:=by have:=Nat.mod_lt dim (show 0<most by omega);omega
 unfold si;have c1:=CO dim kind L B most n hL hdim hkind hm1 hm8 hn;obtain⟨hg,hb⟩:=fP kind L n hn1 hn8;have c2:=Ay n n (fK kind L n) hn1 (by omega) hn1 (by omega) (fun i j _ _=>hb.i64 i j);have c3:=zm B n hB hn1 (by omega);have iU: ∀i j:Nat,EB (dK B n i j):=fun i j=>by have:=iR B n i j;constructor<;>omega
 have c4:=Ay n n (dK B n) hn1 (by omega) hn1 (by omega) (fun i j _ _=>iU i j);have c5:=kh n (fK kind L n) (dK B n) hn1 (by omega) (fun i j _ _=>(hb.i64 i j).sz (by omega)) (fun i j _ _=>(iU i j).sz (by omega));have hml:=aW n n (fK kind L n);generalize fK kind L n=gg at*
 generalize dK B n=uu at*
 refine aI Tryz.func69 rfl (by kernel_rfl) ?_;rw[Tryz.ntmps69];refine aD fun _ K=>?_;simp(disch:=omega) only[kd,tL,aa,ae];apply K
 refine aG [⟨2,_,_,_,c1⟩] [] fun _ K=>?_;simp only[kd,tL,bx,aa];apply K
 refine bu be [⟨1,_,_,_,c2⟩,⟨6,_,_,_,c3⟩,⟨7,_,_,_,c4⟩,⟨8,_,_,_,c5⟩] [] (by kernel_rfl) fun _ K=>?_;simp only[kd,bx,bJ,aa,hml,af];apply K
 (refine aH ⟨.inr rfl,aJ rfl ?_ rfl⟩;simp(disch:=omega) only[kd,Tryz.results69,bJ])
theorem yy (dim kind:Nat) (L B:List Int) (most n:Nat) (h T:FF) (hL:I8 L) (hB:I8 B) (hdim:dim<=255) (hkind:kind<=255) (hm1:1<=most) (hm4:most<=4) (hn:n=1+dim%most) (hr:RedR h n) (hT:Rch n (si kind L B n) idF h T):
  CallC Tryz.prog 32 [tL dim kind L B,.raw (.int .i64 (most:Int))] ⟨[],bx (bs n n h)⟩:=by
 have hn1:1<=n:=by omega
 have hn4:n<=4:=by have:=Nat.mod_lt dim (show 0<most by omega);omega
 have c1:=IH dim kind L B most n hL hB hdim hkind hm1 (by omega) hn;have c3:=rE Or n (si kind L B n) h T hn1 hn4 (qQ kind L B hn1 hn4) hr hT;generalize si kind L B n=gg at*
 refine aI Tryz.func32 rfl (by kernel_rfl) ?_;rw[Tryz.ntmps32];refine aD fun _ K=>?_;simp(disch:=omega) only[kd,tL,aa,ae];apply K
 refine aG [⟨2,_,_,_,c1⟩,⟨3,_,_,_,c3⟩] [] fun _ K=>?_;simp only[kd,tL,bJ,aa,af];apply K
 refine aD fun _ K=>?_;simp only[kd];apply K
 (refine aH ⟨.inr rfl,aJ rfl ?_ rfl⟩;simp(disch:=omega) only[kd,Tryz.results32,bx])
theorem nj {n:Nat} {g a b R S:FF} (hn1:1<=n) (hn:n<=4) (hg:PD g n) (ha:gD n g a) (hb:gD n g b) (ka:lV n a (j7 (gmB n a R) R)) (kb:lV n b (j7 (gmB n b S) S)) (hR:RchB n a idF R) (hS:RchB n b idF S):
  bE n (fun i=>gmB n a (j7 (gmB n a R) R) i i)=bE n (fun i=>gmB n b (j7 (gmB n b S) S) i i)/\(n<=2->bs n n (gmB n a (j7 (gmB n a R) R))=bs n n (gmB n b (j7 (gmB n b S) S))):=by
 have la:=ha.trans (lK hR);have lb:=hb.trans (lK hS);have pa:=ka.inb.pd ka.red.pd;have pb:=kb.inb.pd kb.red.pd;exact⟨fc fun i hi=>nF hn la lb pa pb ka.mink kb.mink hi,fun h2=>eg fun i j hi hj=>tJ hn1 h2 hg la lb ka.mink kb.mink pa pb hi hj⟩
theorem vp (dim kind:Nat) (L B:List Int) (hL:I8 L) (hB:I8 B) (hdim:dim<=255) (hkind:kind<=255):
  CallG Tryz.prog 0 138 9 [tL dim kind L B] iA ⟨[],.raw (.bool true)⟩:=by
 obtain⟨n,hn⟩: ∃n,n=1+dim%4:=⟨_,rfl⟩;have hn1:1<=n:=by omega
 have hn4:n<=4:=by have:=Nat.mod_lt dim (show 0<4 by omega);omega
 obtain⟨hg,_⟩:=fP kind L n hn1 (by omega);have pg:PD (fK kind L n) n:=⟨hg.1,fun k hk=>(kR hg.2.1 k hk).1⟩;obtain⟨a,T1,ra,t1⟩:=CM kind L (n:=n) hn1 (by omega);obtain⟨b,T2,rb,t2⟩:=(qQ kind L B hn1 hn4).ex Or hn1 hn4;have cF:=yw dim kind L B 4 n a T1 hL hdim hkind (by omega) (by omega) hn ra t1;have cO:=yy dim kind L B 4 n b T2 hL hB hdim hkind (by omega) (by omega) hn rb t2;rw[show((4:Nat):Int)=4 from rfl]at cF cO;obtain⟨R,ka,hR,cR⟩:=ia hn1 hn4 ra;obtain⟨S,kb,hS,cS⟩:=ia hn1 hn4 rb;obtain⟨e1,e2⟩:=nj hn1 hn4 pg (oR t1) ((ud B hn1 _).trans (oR t2)) ka kb hR hS;have cD:=qy _ _ n _ hn4 cR;have cE:=qy _ _ n _ hn4 cS;rw[<- e1]at cE;clear t1 t2 ra rb ka kb hR hS e1 hg pg;generalize gmB n a (j7 (gmB n a R) R)=p at*
 generalize gmB n b (j7 (gmB n b S) S)=q at*
 have cC:=pS (bE n (fun i=>p i i)) (bE n (fun i=>p i i));rw[ov]at cC;have cA:=tD;have l1:=aW n n a;have l3:=bv n (fun i=>p i i);generalize bE n (fun i=>p i i)=D at*
 generalize bs n n a=M at*
 generalize bs n n b=N at*
 generalize bs n n (trF (j7 (gmB n a R) R))=TT at*
 generalize bs n n (trF (j7 (gmB n b S) S))=UU at*
 by_cases h2:n<=2
 ·have h2': ¬(2:Int)<(n:Int):=by omega
  have cs:=zR (bs n n p) (bs n n p);rw[<- e2 h2]at cS;rw[decide_eq_true rfl]at cs;generalize bs n n p=PP at*
  refine dB Tryz.func9 rfl (by kernel_rfl) ?_;rw[Tryz.ntmps9];refine aN fun _ K=>?_;simp(disch:=omega) only[kd,tL,ae,aa];apply K
  refine gX be [⟨1,_,_,_,cF⟩,⟨3,_,_,_,cO⟩] [] (by kernel_rfl) fun _ K=>?_;simp only[kd,tL,bx,aa,af];apply K
  refine bz [⟨1,_,_,_,cD,rfl⟩] [] [] fun _ K=>?_;simp(disch:=omega) only[kd,bx,LS,da.a,aa];apply K
  refine bz [⟨1,_,_,_,cE,rfl⟩] [] [] fun _ K=>?_;simp(disch:=omega) only[kd,bx,LS,da.a,aa];apply K
  refine bz [⟨1,_,_,_,cR,rfl⟩] [] [] fun _ K=>?_;simp(disch:=omega) only[kd,bx,CG,da.a,aa];apply K
  refine bz [⟨1,_,_,_,cS,rfl⟩] [] [] fun _ K=>?_;simp(disch:=omega) only[kd,bx,CG,da.a,aa];apply K
  refine bz [⟨38,_,_,_,cA,rfl⟩] [⟨24,_,_,_,cC⟩,⟨34,_,_,_,cs⟩] [] fun _ K=>?_;simp(disch:=omega) only[kd,jW,bx,da.a,aa,l3,l1,h2',af];apply K
  (refine dj ⟨.inr rfl,rfl,aJ rfl ?_ rfl⟩;simp(disch:=omega) only[kd,Tryz.results9])
 have h2':(2:Int)<(n:Int):=by omega
 generalize bs n n p=PP at*
 generalize bs n n q=QQ at*
 refine dB Tryz.func9 rfl (by kernel_rfl) ?_;rw[Tryz.ntmps9];refine aN fun _ K=>?_;simp(disch:=omega) only[kd,tL,ae,aa];apply K
 refine gX be [⟨1,_,_,_,cF⟩,⟨3,_,_,_,cO⟩] [] (by kernel_rfl) fun _ K=>?_;simp only[kd,tL,bx,aa,af];apply K
 refine bz [⟨1,_,_,_,cD,rfl⟩] [] [] fun _ K=>?_;simp(disch:=omega) only[kd,bx,LS,da.a,aa];apply K
 refine bz [⟨1,_,_,_,cE,rfl⟩] [] [] fun _ K=>?_;simp(disch:=omega) only[kd,bx,LS,da.a,aa];apply K
 refine bz [⟨1,_,_,_,cR,rfl⟩] [] [] fun _ K=>?_;simp(disch:=omega) only[kd,bx,CG,da.a,aa];apply K
 refine bz [⟨1,_,_,_,cS,rfl⟩] [] [] fun _ K=>?_;simp(disch:=omega) only[kd,bx,CG,da.a,aa];apply K
 refine bz [⟨38,_,_,_,cA,rfl⟩] [⟨24,_,_,_,cC⟩] [] fun _ K=>?_;simp(disch:=omega) only[kd,jW,da.a,aa,l3,l1,h2',reduceCtorEq,af];apply K
 (refine dj ⟨.inr rfl,rfl,aJ rfl ?_ rfl⟩;simp(disch:=omega) only[kd,Tryz.results9])
def uD (F M S:Int):Nat->Nat->Int:=fun i j=>if i=0 then(if j=0 then F else M)else if j=0 then M else S
theorem I6 {F M S:Int} (h0:0<F) (h1:0<=M) (h2:2*M<=F) (h3:F<=S):PD (uD F M S) 2:=by
 refine⟨fun i hi j hj=>?_,fun k hk=>?_⟩
 ·have a1:i=0\/i=1:=by omega
  have a2:j=0\/j=1:=by omega
  rcases a1 with rfl|rfl<;>rcases a2 with rfl|rfl<;>rfl
 have hk2:k=0\/k=1:=by omega
 rcases hk2 with rfl|rfl
 ·simp[dk,om,dr,iD,uD];exact h0
 rw[kN];simp[uD];have q1:2*M*(2*M)<=F*S:=Int.mul_le_mul h2 (by omega) (by omega) (by omega);have q2:0<F*S:=Int.mul_pos h0 (by omega);have q3:2*M*(2*M)=4*(M*M):=by grind
 have q4:=Int.mul_nonneg h1 h1;omega
theorem Mj {F M S:Int} (h1:0<=M) (h2:2*M<=F) (h3:F<=S):MinkP (uD F M S) 2:=by
 refine⟨fun i hi=>?_,fun i hi=>?_⟩
 ·obtain rfl:i=0:=by omega
  exact⟨h3,h1⟩
 rintro⟨c,hc,hl⟩;have hi2:i=0\/i=1:=by omega
 rcases hi2 with rfl|rfl
 ·have hc0:c=0:=by simpa using hc
  subst hc0;simp[nrm,BF,bY,lQ,uD]at hl
 have hx:nrm 2 (uD F M S) (lQ 1 c)=dg c 0*(F*dg c 0+M)+(M*dg c 0+S):=by
  simp[nrm,BF,bY,lQ,uD]
 rw[hx]at hl;have:uD F M S 1 1=S:=rfl;have hd:=E5 c 0;have hd3:dg c 0= -1\/dg c 0=0\/dg c 0=1:=by omega
 rcases hd3 with e|e|e<;>rw[e]at hl<;>omega
theorem Mi {F M S:Int} (h0:0<F) (h1:0<=M) (h2:2*M<=F) (h3:F<=S) (hd:F*S-M*M<=10000):GoodP 2 (uD F M S):=by
 have hp:=I6 h0 h1 h2 h3;have e: ∀k,k<2->detF (k+1) (uD F M S)=dk (uD F M S) (k+1):=fun k hk=>mb fun t ht=>by have:=hp.2 t (by omega);omega
 refine⟨hp.1,fun k hk=>by rw[e k hk];exact hp.2 k hk,?_⟩;rw[e 1 (by omega),kN];simp[uD];omega
theorem I7 {F M S:Int} (L:List Int) (h0:0<F) (h1:0<=M) (h2:2*M<=F) (h3:F<=S) (h50:S<=50) (hd:F*S-M*M<=10000):
  tj 4 (2^192) 90 2 (cngF 2 (uD F M S) (dK L 2)):=
 zK L (by omega) (by omega) (Mi h0 h1 h2 h3 hd) (E:=50) (fun a b=>by unfold uD;split<;>split<;>omega) (by decide)
theorem Bt (a b c:Nat) (L:List Int) (ha:a<=255) (hb:b<=255) (hc:c<=255) (hL:I8 L):
  CallG Tryz.prog 0 138 7 [.raw (.int .u8 (a:Int)),.raw (.int .u8 (b:Int)),.raw (.int .u8 (c:Int)),z7 L] iA ⟨[],.raw (.bool true)⟩:=by
 have cA:=tD;obtain⟨f,hf⟩: ∃f,f=1+a%20:=⟨_,rfl⟩;obtain⟨m,hm⟩: ∃m,m=b%(f/2+1):=⟨_,rfl⟩;obtain⟨s,hs⟩: ∃s,s=f+c%30:=⟨_,rfl⟩;have hf2:1<=f/\f<=20:=by omega
 have hm2:m<f/2+1:=by rw[hm];exact Nat.mod_lt _ (by omega)
 have hs2:f<=s/\s<=49:=by omega
 have w1:IntKind.i64.wrap (a:Int)=(a:Int):=aP (by omega) (by omega);have w2:Int.tmod (a:Int) 20=((a%20:Nat):Int):=(Int.ofNat_tmod a 20).symm;have w3:IntKind.i64.wrap (1+((a%20:Nat):Int))=(f:Int):=by rw[show 1+((a%20:Nat):Int)=(f:Int) by omega];exact aP (by omega) (by omega)
 have w4:IntKind.i64.wrap (b:Int)=(b:Int):=aP (by omega) (by omega);have w5:IntKind.i64.wrap (Int.tdiv (f:Int) 2)=((f/2:Nat):Int):=by
  rw[show Int.tdiv (f:Int) 2=((f/2:Nat):Int)from(Int.ofNat_tdiv f 2).symm];exact aP (by omega) (by omega)
 have w6:IntKind.i64.wrap (((f/2:Nat):Int)+1)=((f/2+1:Nat):Int):=by rw[show((f/2:Nat):Int)+1=((f/2+1:Nat):Int) by omega];exact aP (by omega) (by omega)
 have w7:Int.tmod (b:Int) ((f/2+1:Nat):Int)=(m:Int):=by rw[hm];exact(Int.ofNat_tmod b _).symm
 have w8:IntKind.i64.wrap (c:Int)=(c:Int):=aP (by omega) (by omega);have w9:Int.tmod (c:Int) 30=((c%30:Nat):Int):=(Int.ofNat_tmod c 30).symm;have wA:IntKind.i64.wrap ((f:Int)+((c%30:Nat):Int))=(s:Int):=by rw[show(f:Int)+((c%30:Nat):Int)=(s:Int) by omega];exact aP (by omega) (by omega)
 have hne:((f/2+1:Nat):Int)≠0:=by omega
 obtain⟨P,hP⟩: ∃P:Int,P=(f:Int)*(s:Int):=⟨_,rfl⟩;obtain⟨Q,hQ⟩: ∃Q:Int,Q=(m:Int)*(m:Int):=⟨_,rfl⟩;have bP:0<=P/\P<=980:=by
  rw[hP];refine⟨Int.mul_nonneg (by omega) (by omega),?_⟩;exact Int.le_trans (Int.mul_le_mul (show(f:Int)<=20 by omega) (show(s:Int)<=49 by omega) (by omega) (by omega)) (by decide)
 have bQ:0<=Q/\Q<=400:=by
  rw[hQ];refine⟨Int.mul_nonneg (by omega) (by omega),?_⟩;exact Int.le_trans (Int.mul_le_mul (show(m:Int)<=20 by omega) (show(m:Int)<=20 by omega) (by omega) (by omega)) (by decide)
 have wB:IntKind.i64.wrap ((f:Int)*(s:Int))=P:=by rw[<- hP];exact aP (by omega) (by omega)
 have wC:IntKind.i64.wrap ((m:Int)*(m:Int))=Q:=by rw[<- hQ];exact aP (by omega) (by omega)
 have wD:IntKind.i64.wrap (P-Q)=P-Q:=aP (by omega) (by omega);have wE: ¬(10000:Int)<P-Q:=by omega
 have g0:(0:Int)<(f:Int):=by omega
 have g1:(0:Int)<=(m:Int):=by omega
 have g2:2*(m:Int)<=(f:Int):=by omega
 have g3:(f:Int)<=(s:Int):=by omega
 have gd:(f:Int)*(s:Int)-(m:Int)*(m:Int)<=10000:=by rw[<- hP,<- hQ];omega
 have ok:=I7 L g0 g1 g2 g3 (by omega) gd;obtain⟨h,T,rr,tt⟩:=ok.ex Or (by omega) (by omega);have iB: ∀i j:Nat,EB (uD (f:Int) (m:Int) (s:Int) i j):=fun i j=>by unfold uD;split<;>split<;>constructor<;>omega
 have iU: ∀i j:Nat,EB (dK L 2 i j):=fun i j=>by have:=iR L 2 i j;constructor<;>omega
 have c1:=Ay 2 2 (uD (f:Int) (m:Int) (s:Int)) (by omega) (by omega) (by omega) (by omega) (fun i j _ _=>iB i j);have c2:=zm L 2 hL (by omega) (by omega);have c3:=Ay 2 2 (dK L 2) (by omega) (by omega) (by omega) (by omega) (fun i j _ _=>iU i j);have c4:=kh 2 (uD (f:Int) (m:Int) (s:Int)) (dK L 2) (by omega) (by omega) (fun i j _ _=>(iB i j).sz (by omega)) (fun i j _ _=>(iU i j).sz (by omega));have c5:=rE Or 2 _ h T (by omega) (by omega) ok rr tt;obtain⟨R,kk,hR,cR⟩:=ia (n:=2) (by omega) (by omega) rr;have e2:bs 2 2 (gmB 2 h (j7 (gmB 2 h R) R))=bs 2 2 (uD (f:Int) (m:Int) (s:Int)):=eg fun i j hi hj=>
  tJ (by omega) (by omega) (I6 g0 g1 g2 g3) (((ud L (by omega) _).trans (oR tt)).trans (lK hR)) (gD.refl _) kk.mink (Mj g1 g2 g3) (kk.inb.pd kk.red.pd) (I6 g0 g1 g2 g3) hi hj
 rw[e2]at cR;have cS:=zR (bs 2 2 (uD (f:Int) (m:Int) (s:Int))) (bs 2 2 (uD (f:Int) (m:Int) (s:Int)));rw[decide_eq_true rfl]at cS;clear ok rr tt kk hR e2;rw[show((2:Nat):Int)=2 from rfl]at c2;generalize cngF 2 (uD (f:Int) (m:Int) (s:Int)) (dK L 2)=X at*
 generalize bs 2 2 (trF (j7 (gmB 2 h R) R))=TT at*
 generalize bs 2 2 h=HH at*
 have eM:bs 2 2 (uD (f:Int) (m:Int) (s:Int))=[[(f:Int),(m:Int)],[(m:Int),(s:Int)]]:=rfl;rw[eM]at c1 c4 cS cR;clear iB g0 g1 g2 g3 gd bP bQ hf hs hm;have eL:ls (fR fI) [[(f:Int),(m:Int)],[(m:Int),(s:Int)]]=[[.sl [[.raw (.int .i64 (f:Int))],[.raw (.int .i64 (m:Int))]]],[.sl [[.raw (.int .i64 (m:Int))],[.raw (.int .i64 (s:Int))]]]]:=rfl;simp only[bx,CG,eL]at c1 cS cR;refine dB Tryz.func7 rfl (by kernel_rfl) ?_;rw[Tryz.ntmps7];refine aN fun _ K=>?_;simp only[kd,z7,aa,ae];apply K
 refine aN fun _ K=>?_;simp(disch:=omega) only[kd,aa,w1,w2,w3];apply K
 refine aN fun _ K=>?_;simp(disch:=omega) only[kd,aa,w4,w5,w6,w7];apply K
 refine aN fun _ K=>?_;simp(disch:=omega) only[kd,aa,w8,w9,wA];apply K
 refine aN fun _ K=>?_;simp(disch:=omega) only[kd,aa,Nat.reduceMul,Nat.reduceLeDiff];apply K
 refine bH (aN fun _ K=>?_);simp only[kd,aa,wB,wC,wD,wE];apply K;refine eh rfl (eK ?_);show d7 _ _ _ _ _ _ _;refine dL [⟨1,_,_,_,c1⟩,⟨3,_,_,_,c2⟩,⟨4,_,_,_,c3⟩,⟨5,_,_,_,c4⟩,⟨6,_,_,_,c5⟩] [] fun _ K=>?_;simp only[kd,bJ,z7,bx,aa,af];apply K
 refine bz [⟨1,_,_,_,cR,rfl⟩] [] [] fun _ K=>?_;simp(disch:=omega) only[kd,da.a,aa];apply K
 refine bz [⟨8,_,_,_,cA,rfl⟩] [⟨5,_,_,_,cS⟩] [] fun _ K=>?_;simp(disch:=omega) only[kd,da.a,aa,af];apply K
 (refine dj ⟨.inr rfl,rfl,aJ rfl ?_ rfl⟩;simp(disch:=omega) only[kd,Tryz.results7])
section
open Go.ChangeShapes Go.WideShapes Go.ChangeAt Go.WideMaps Go.WideElems Go.RowKit
theorem mv (os:Os) (started:os.Started) (H:Type) (enc:TypeId×Value->H):
  ReturnsInHanded {} Tryz.checked os 7 .any (fun w args=>(Rows.minkowskiBinarySpec.pre enc Tryz.prog Tryz.f7 [] false w args/\laidMetH Tryz.prog nE w)/\sizedMet enc Tryz.prog Tryz.f7 (OpenSpec.ofChange Rows.minkowskiBinarySpec) false w args) (Rows.minkowskiBinarySpec.post enc Tryz.prog Tryz.f7 false true false false):=by
 refine returnsInHanded_of_change_and (C:=Tryz.checked) (X:=fun w _=>laidMetH Tryz.prog nE w) (fun _ _ _ hh h=>h.of_heap hh) Tryz.ownKnob_ started (by kernel_rfl) Tryz.func7
  (ChangeSpec.witness_shaped (enc:=enc) (C:=Tryz.checked) (os:=os) (X:=fun w _=>laidMetH Tryz.prog nE w) false (World.doorLaid Tryz.prog 400 os) #[.int .u8 0,.int .u8 0,.int .u8 0,.slice none 0 0] 8 rfl (World.shaped_of_RefB (by kernel_rfl) (by kernel_rfl)) (by kernel_rfl) (by kernel_rfl) (by kernel_rfl) (uW os _)) ?_
 intro W base args ds gs before hval0 hW hcnd hsz0 hL _;have hval: ∀(j:Nat) t v,Tryz.f7.params[j]?=some t->args[j]?=some v->Value.okWide Tryz.prog W .any base t v:=hval0;have hW':=hW;obtain⟨p,q,hA0,hV,rfl,hfz,hnd⟩:=hW;have hA:DataW.TrodAll enc Tryz.prog W 0 (fun _=>true) true Tryz.f7.params.toList args.toList ds p:=hA0;rw[Tryz.params7]at hA hval;obtain⟨v0,vs0,d0,ds0,p0,q0,hargs,rfl,rfl,h0,r0⟩:=trodAll_cons hA;obtain⟨v1,vs1,d1,ds1,p1,q1,rfl,rfl,rfl,h1,r1⟩:=trodAll_cons r0;obtain⟨v2,vs2,d2,ds2,p2,q2,rfl,rfl,rfl,h2,r2⟩:=trodAll_cons r1;obtain⟨v3,vs3,d3,ds3,p3,q3,rfl,rfl,rfl,h3,r3⟩:=trodAll_cons r2;obtain⟨rfl,rfl,rfl⟩:=trodAll_nil r3;obtain rfl:args= #[v0,v1,v2,v3]:=by cases args;simp_all
 obtain⟨rfl,rfl⟩:=trodVars_none hV;obtain⟨a0,rfl,rfl,rfl,w0⟩:=open_int Tryz.underlying5 (hval 0 5 v0 rfl rfl) h0;obtain⟨a1,rfl,rfl,rfl,w1⟩:=open_int Tryz.underlying5 (hval 1 5 v1 rfl rfl) h1;obtain⟨a2,rfl,rfl,rfl,w2⟩:=open_int Tryz.underlying5 (hval 2 5 v2 rfl rfl) h2;have k3:=h3;have lt3: ∀x∈p3,x.block<W.heap.size:=by obtain⟨m,hm⟩:=k3;exact DataW.trod_lt m _ _ _ hm
 obtain⟨a3,len3,cap3,rfl⟩:=okWide_slice Tryz.underlying30 (hval 3 30 v3 rfl rfl);obtain⟨z3,g3,i3⟩: ∃L:List Int,cW (fun _=>False) W (.sl (ls f8 L)) (.slice a3 len3 cap3)/\I8 L:=by obtain⟨m,hm⟩:=h3;exact jR (y:=(d3,p3)) Tryz.underlying30 Tryz.underlying23 (by kernel_rfl) (by simpa[Value.cells] using hm)
 clear hA0 hval0 hsz0;obtain⟨bn0,hbn0⟩: ∃bn:Nat,a0=(bn:Int):=⟨a0.toNat,by have:=j1 w0;omega⟩;have hw0:=j1 w0;subst hbn0;obtain⟨bn1,hbn1⟩: ∃bn:Nat,a1=(bn:Int):=⟨a1.toNat,by have:=j1 w1;omega⟩;have hw1:=j1 w1;subst hbn1;obtain⟨bn2,hbn2⟩: ∃bn:Nat,a2=(bn:Int):=⟨a2.toNat,by have:=j1 w2;omega⟩;have hw2:=j1 w2;subst hbn2;refine((Bt bn0 bn1 bn2 z3 (by omega) (by omega) (by omega) i3).law (np hL) (vs:= #[.int .u8 (bn0:Int),.int .u8 (bn1:Int),.int .u8 (bn2:Int),.slice a3 len3 cap3]) rfl (I1 (vs:=[.int .u8 (bn0:Int),.int .u8 (bn1:Int),.int .u8 (bn2:Int),.slice a3 len3 cap3]) rfl (fun j t v ht hv=>by
  match j,ht,hv with
  |0,ht,hv=>simp at ht hv;subst ht;subst hv;exact cW.raw _ rfl
  |1,ht,hv=>simp at ht hv;subst ht;subst hv;exact cW.raw _ rfl
  |2,ht,hv=>simp at ht hv;subst ht;subst hv;exact cW.raw _ rfl
  |3,ht,hv=>simp at ht hv;subst ht;subst hv;exact g3
  |j+4,ht,hv=>simp at ht))).mono fun e W' ⟨he,bel0⟩=>?_
 have bel:Below W.heap.size W W':=bel0;subst he;exact⟨_,rfl,_,_,_,[],_,[],hW',trodAll_mk1 (shut_bool Tryz.underlying4 _),(trodAll_cons_mk (shut_int Tryz.underlying5 w0) (trodAll_cons_mk (shut_int Tryz.underlying5 w1) (trodAll_cons_mk (shut_int Tryz.underlying5 w2) (trodAll_cons_mk (Below.trod Tryz.laidOut_ (by kernel_rfl) (of_decide_eq_true (by kernel_rfl)) k3 bel lt3) trodAll_mk0)))),rfl,bel.frame _,fun h=>by cases h⟩
theorem iE:Rows.MinkowskiBinarySaid:=
 OpenClaim.holds_of_wide 7 Tryz.f7 rfl rfl rfl rfl rfl rfl rfl ⟨rfl,rfl,rfl,rfl,rfl⟩ rfl rfl rfl rfl rfl (by kernel_rfl) Tryz.func7 (by kernel_rfl)
  (of_decide_eq_true (by kernel_rfl)) (by unfold Func.isWrapper;first|(rw[if_pos (by decide+kernel)];kernel_rfl)|(rw[if_neg (by decide+kernel)];exact⟨rfl,rfl⟩))
  (fun os started H enc _=>mv os started H enc)
#print axioms iE
/-- The tied card. -/
theorem minkowskiBinary_card:Rows.MinkowskiBinaryCardSaid:=
 Claim7.holds_tied_plain_at .later [] [.data] true (true, "b370a838ee78542826e78cbca499d325b4268683991bfe0a4729bbd0218e4133") false
  iE (fun _ h=>by cases h) (by kernel_rfl) (fun _ h=>by cases h) minkowskiBinary_row_tie rfl ⟨rfl,rfl⟩ (by kernel_rfl) rfl
  (fun f fn hf hfn=>by
   obtain rfl : f = 7 := Option.some.inj ((show Tryz.prog.funcNamed "quadform/quadformlaw14.MinkowskiBinary" = some 7 by kernel_rfl).symm.trans hf) |>.symm;obtain rfl:fn=Tryz.f7:=(Option.some.inj (Tryz.func7.symm.trans hfn)).symm;exact⟨by kernel_rfl,fun j t ht=>by
    rw[Tryz.params7]at ht;have hm:t∈[5,5,5,30]:=by simpa using Array.mem_of_getElem? ht
    have hall:([5,5,5,30].all fun u=>!Tryz.prog.wantsStandIn u)=true:=by kernel_rfl
    exact(show Tryz.prog.wantsStandIn t=false by simpa using List.all_eq_true.1 hall t hm)⟩)
  (by kernel_rfl)
#print axioms minkowskiBinary_card
end
end Go.Proofs.YtfgeomlagfomgaaGreatDoor
