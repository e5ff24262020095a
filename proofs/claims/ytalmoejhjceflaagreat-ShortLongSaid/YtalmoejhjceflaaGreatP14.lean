/-
  Part 15 of a proof (walks and plain facts).
-/
import Derived.Test.YtalmoejhjceflaaGreatP13
set_option linter.all false
set_option maxRecDepth 100000
set_option maxHeartbeats 64000000
open Nat renaming reduceAdd → aa
open Nat renaming le_refl → ae
open List renaming replicate → af
open List renaming getElem?_map → az
namespace Go.Proofs.YtalmoejhjceflaaGreat
open Go.RowKit
section
variable {n:Nat}
def mV (n:Nat) (t:FF) (x:Nat->Int):Nat->Int:=fun i=>cg (fun a=>x a*t i a) n
theorem Dd (h t:FF) (x y:Nat->Int): ∀m,BF n h (fun i=>cg (fun a=>x a*t i a) m) y=cg (fun a=>x a*BF n h (fun i=>t i a) y) m
 |0=>kn fun _ _=>rfl
 |m+1=>by
  have h1:=jf (n:=n) h (fun i=>cg (fun a=>x a*t i a) m) (fun i=>t i m) y (x m);rw[Dd h t x y m]at h1;exact h1
theorem De (h t:FF) (x y:Nat->Int): ∀m,BF n h x (fun i=>cg (fun a=>y a*t i a) m)=cg (fun a=>y a*BF n h x (fun i=>t i a)) m
 |0=>by
  show BF n h x (fun _=>0)=0;unfold BF;rw[aT n (G:=fun _=>0) (fun i _=>by rw[aT n (G:=fun _=>0) (fun j _=>Int.mul_zero _),dx,Int.mul_zero]),dx]
 |m+1=>by
  have h1:=gO (n:=n) h x (fun i=>cg (fun a=>y a*t i a) m) (fun i=>t i m) (y m);rw[De h t x y m]at h1;exact h1
theorem A2 (h t:FF) (x y:Nat->Int):BF n h (mV n t x) (mV n t y)=BF n (cngF n h t) x y:=by
 unfold mV;rw[Dd];unfold BF;refine aT n fun a _=>?_
 congr 1
 have h1:=De (n:=n) h t (fun i=>t i a) y n;unfold BF at h1;rw[h1];refine aT n fun b _=>?_
 have h2:=gE n h t a b;unfold BF at h2;rw[h2,Int.mul_comm]
theorem PD.cng {h t:FF} (hr:PD h n) (hd:dk t n≠0):PD (cngF n h t) n:=by
 refine F6 (fun i _ j _=>by rw[gE,gE];exact rE hr.1 _ _) fun x ⟨i,hi,hx⟩=>?_
 rw[<- A2];obtain⟨h1,h2⟩:=hr.pos (mV n t x);rcases Int.lt_or_le 0 (BF n h (mV n t x) (mV n t x))with hl|hl
 ·exact hl
 exfalso;have h3:=h2.1 (by omega);refine hx (B8 hd (fun i hi=>?_) i hi);have:=h3 i hi;unfold mV at this;rw[<- this];exact aT n fun j _=>Int.mul_comm _ _
theorem qB {t:FF} {i:Nat} (hi:i<n) (c:Nat->Int): ∀m,m<=n->dk (dq t i (fun r=>cg (fun j=>c j*t r j) m)) n=if i<m then c i*dk t n else 0
 |0,_=>by rw[if_neg (by omega)];exact DG hi fun _ _=>rfl
 |m+1,hm=>by
  have h:=pN (R:=t) hi 1 (c m) (fun r=>cg (fun j=>c j*t r j) m) (fun r=>t r m);rw[qB hi c m (by omega)]at h;have e:(fun r=>cg (fun j=>c j*t r j) (m+1))=fun r=>1*cg (fun j=>c j*t r j) m+c m*t r m:=by
   funext r;rw[cg,Int.one_mul]
  rw[e,h];by_cases hmi:m=i
  ·subst hmi;rw[mm,if_neg (by omega),if_pos (by omega)];omega
  rw[ss hi (show m<n by omega) (Ne.symm hmi),Int.mul_zero,Int.add_zero,Int.one_mul];have:i<m+1↔i<m:=by omega
  simp only[this]
theorem DE {t:FF} {i:Nat} (hi:i<n) (c:Nat->Int):dk (dq t i (mV n t c)) n=c i*dk t n:=by
 have:=qB hi c n (ae n) (t:=t);rwa[if_pos hi]at this
theorem In {h t:FF} {i:Nat} (c:Nat->Int):cngF n h (dq t i (mV n t c)) i i=nrm n (cngF n h t) c:=by
 rw[gE];unfold nrm;rw[<- A2];exact eE (fun _ _ _ _=>rfl) (fun r _=>if_pos rfl) (fun r _=>if_pos rfl)
theorem yP {h t:FF} {i a b:Nat} (S:Nat->Int) (ha:a≠i) (hb:b≠i):cngF n h (dq t i S) a b=cngF n h t a b:=by
 rw[gE,gE];exact eE (fun _ _ _ _=>rfl) (fun r _=>if_neg ha) (fun r _=>if_neg hb)
theorem PD.ent {f:FF} (hr:PD f n) {i j:Nat} (hi:i<n) (hj:j<n):f i j*f i j<=f i i*f j j:=by
 have e: ∀a b,a<n->b<n->BF n f (eC a) (eC b)=f a b:=fun a b ha hb=>by
  have e1: ∀(F:Nat->Int) a,a<n->cg (fun j=>F j*eC a j) n=F a:=fun F a ha=>by
   rw[iE ha (fun p _ hne=>by unfold eC;rw[if_neg hne,Int.mul_zero])];unfold eC;rw[if_pos rfl,Int.mul_one]
  unfold BF;rw[aT n (G:=fun k=>f k b*eC a k) (fun k _=>by rw[e1 (f k) b hb];exact Int.mul_comm _ _),e1 (fun k=>f k b) a ha]
 have:=hr.schwarz (eC i) (eC j);rwa[e i j hi hj,e i i hi hi,e j j hj hj]at this
theorem PD.diag {f:FF} (hr:PD f n) {i:Nat} (hi:i<n):0<f i i:=by
 have h:=hr.pos (eC i);have e:=Ci (f:=f) hi;unfold nrm at e;rw[e]at h;rcases Int.lt_or_le 0 (f i i)with hl|hl
 ·exact hl
 have:=h.2.1 (by omega) i hi;simp[eC]at this
end
section
variable {n:Nat}
def Rj (N:(Nat->Int)->Int) (B:FF) (i:Nat):Prop:= ∀a,a+1<i->N (B a)<=N (B (a+1))
theorem Rj.le {N:(Nat->Int)->Int} {B:FF} {i:Nat} (h:Rj N B i) {b:Nat} (hb:b<i): ∀a,a<=b->N (B a)<=N (B b):=fun a ha=>by
 obtain⟨m,rfl⟩: ∃m,b=a+m:=⟨b-a,by omega⟩
 induction m with
 |zero=>exact Int.le_refl _
 |succ m ih=>
  have:=ih (by omega) (by omega);have h2:=h (a+m) (by omega);rw[<- Nat.add_assoc];omega
end
section
variable {n:Nat}
def DQ (n:Nat) (h B:FF):Nat->Nat->Int:=fun a b=>BF n h (B a) (B b)
theorem DR (h B:FF):DQ n h B=cngF n h (trF B):=by
 funext a b;rw[gE];rfl
def Ga (n:Nat) (h S:FF) (i:Nat):Nat->Nat->Int:=fun k=>if k=i then mV n (trF S) (wn n (DQ n h S) i (3^i))else S k
structure uG (n:Nat) (h:FF) (W:Int) (B:FF):Prop where
 nr: ∀a,a<n->nrm n h (B a)<=W
 dt:(dk (trF B) n).natAbs=1
theorem uk {F:Nat->Int}: ∀m,(∀a,a<m->0<=F a)->0<=cg F m
 |0,_=>by simp[cg]
 |m+1,h=>by
  have:=uk m fun a ha=>h a (by omega)
  have:=h m (by omega);rw[cg];omega
theorem J4 {h S:FF} {i:Nat}:nrm n h (Ga n h S i i)=nrm n (DQ n h S) (wn n (DQ n h S) i (3^i)):=by
 unfold Ga;rw[if_pos rfl];unfold nrm;rw[A2,<- DR]
theorem QG {h S:FF} {i:Nat}:trF (Ga n h S i)=dq (trF S) i (mV n (trF S) (wn n (DQ n h S) i (3^i))):=by
 funext r c;unfold trF Ga dq;split<;>rfl
theorem uG.rep {h S:FF} {W:Int} {i:Nat} (hS:uG n h W S) (hi:i<n) (hv:Rn n (DQ n h S) i):uG n h W (Ga n h S i):=by
 refine⟨fun a ha=>?_,?_⟩
 ·by_cases e:a=i
  ·subst e;rw[J4];have h1:=Qh hi hv;have h2:=hS.nr a hi;have h3:DQ n h S a a=nrm n h (S a):=rfl;omega
  unfold Ga;rw[if_neg e];exact hS.nr a ha
 rw[QG,DE hi,(Qg n (DQ n h S) i (3^i)).1,Int.one_mul];exact hS.dt
/-! Signs. -/
def xV (g:FF):Nat->Int
 |0=>1
 |i+1=>if xV g i*g i (i+1)<0 then -1 else 1
theorem Em (g:FF): ∀i,xV g i=1\/xV g i= -1
 |0=> .inl rfl
 |i+1=>by rw[xV];split<;>simp
def RP (g B:FF):Nat->Nat->Int:=fun k j=>xV g k*B k j
theorem PB (h g B:FF):DQ n h (RP g B)=SF (xV g) (DQ n h B):=by
 funext a b;unfold DQ RP SF BF;rw[<- dm];refine aT n fun i _=>?_
 rw[aT n (G:=fun j=>xV g b*(h i j*B b j)) (fun j _=>by grind),dm];grind
theorem Ki {g B:FF}: ∀m,m<=n->(dk (trF fun k j=>if k<m then xV g k*B k j else B k j) n).natAbs=(dk (trF B) n).natAbs
 |0,_=>by simp
 |m+1,hm=>by
  rw[<- Ki (g:=g) (B:=B) m (by omega)];have h1:=pN (R:=trF fun k j=>if k<m then xV g k*B k j else B k j) (n:=n) (a:=m) (by omega) (xV g m) 0 (fun i=>B m i) (fun i=>B m i);have e1:dq (trF fun k j=>if k<m then xV g k*B k j else B k j) m (fun i=>xV g m*B m i+0*B m i)=trF fun k j=>if k<m+1 then xV g k*B k j else B k j:=by
   funext r c;unfold dq trF;by_cases e:c=m
   ·subst e;rw[if_pos rfl];show xV g c*B c r+0*B c r=if c<c+1 then xV g c*B c r else B c r
    rw[if_pos (by omega)];omega
   have:c<m+1↔c<m:=by omega
   rw[if_neg e];simp only[this]
  have e2:dq (trF fun k j=>if k<m then xV g k*B k j else B k j) m (fun i=>B m i)=trF fun k j=>if k<m then xV g k*B k j else B k j:=by
   funext r c;unfold dq trF;by_cases e:c=m
   ·subst e;rw[if_pos rfl];show B c r=if c<c then xV g c*B c r else B c r
    rw[if_neg (by omega)]
   rw[if_neg e]
  rw[e1,e2]at h1;rw[h1];rcases Em g m with e|e<;>rw[e]<;>simp
end
section
variable {n:Nat}
theorem RT {x:Int} {A:Nat} (h:x*x<=(A:Int)*(A:Int)): -(A:Int)<=x/\x<=(A:Int):=by
 have h1:x.natAbs*x.natAbs<=A*A:=by
  have e:((x.natAbs*x.natAbs:Nat):Int)=x*x:=Int.natAbs_mul_self;have:((x.natAbs*x.natAbs:Nat):Int)<=((A*A:Nat):Int):=by rw[e,Int.natCast_mul];exact h
  exact Int.ofNat_le.1 this
 have h2:x.natAbs<=A:=by
  rcases Nat.lt_or_ge A x.natAbs with hl|hl
  ·have:=Nat.mul_lt_mul'' hl hl;omega
  exact hl
 omega
theorem uG.one {h:FF} (hn1:1<=n) (hn:n<=8) (hr:RedR h n):uG n h 262144 (fun a b=>if a=b then 1 else 0):=by
 refine⟨fun a ha=>?_,?_⟩
 ·have e:(fun b=>if a=b then(1:Int)else 0)=eC a:=by funext b;unfold eC;by_cases h:a=b<;>simp[h,eq_comm]<;>omega
  show nrm n h (fun b=>if a=b then 1 else 0)<=_;rw[e,Ci ha];have:=vA hn1 hn hr a ha a ha;omega
 have e:trF (fun a b=>if a=b then(1:Int)else 0)=fun i j=>if i=j then 1 else 0:=by
  funext i j;unfold trF;by_cases h:i=j<;>simp[h,eq_comm]<;>omega
 rw[e,Po];rfl
theorem uG.sg {h B:FF} {W:Int} (g:FF) (hB:uG n h W B):uG n h W (RP g B):=by
 refine⟨fun a ha=>?_,?_⟩
 ·have:=hB.nr a ha;have e:nrm n h (RP g B a)=nrm n h (B a):=by
   have h1:DQ n h (RP g B) a a=DQ n h B a a:=by
    rw[PB];unfold SF;rcases Em g a with e|e<;>rw[e]<;>omega
   exact h1
  rw[e];exact this
 have h1:=Ki (g:=g) (B:=B) n (ae n);rw[<- hB.dt,<- h1]
 congr 1
 exact ot fun i j _ hj=>by show xV g j*B j i=if j<n then _ else _;rw[if_pos hj]
theorem uG.pd {h B:FF} {W:Int} (hp:PD h n) (hB:uG n h W B):PD (DQ n h B) n:=by
 rw[DR];exact hp.cng (by have:=hB.dt;omega)
end
section
variable {n:Nat}
def R7 (n:Nat) (a:FF) (i:Nat):Nat->Nat->Option Nat
 |0,_=>none
 |m+1,c=>if nrm n a (xa i c)<a i i then some c else R7 n a i m (c+1)
def Py (n:Nat) (a:FF) (i:Nat):Option Nat:=R7 n a i (3^i) 0
theorem zc {a:FF} {i:Nat}: ∀m c r,R7 n a i m c=some r->c<=r/\r<c+m/\nrm n a (xa i r)<a i i
 |0,_,_,h=>by cases h
 |m+1,c,r,h=>by
  rw[R7]at h;split at h
  ·rename_i hl;injection h with h
   subst h;exact⟨ae _,by omega,hl⟩
  obtain⟨h1,h2,h3⟩:=zc m (c+1) r h;exact⟨by omega,by omega,h3⟩
inductive N8 where
 |swp (i:Nat)
 |rep (i c:Nat)
 |neg (i:Nat)
def El (n:Nat) (a:FF):Nat->Nat->Option N8
 |0,_=>none
 |m+1,i=>if 0<i/\a i i<a (i-1) (i-1)then some (.swp i)else match Py n a i with
  |some c=>some (.rep i c)
  |none=>if 0<i/\a (i-1) i<0 then some (.neg i)else El n a m (i+1)
def Oo (n:Nat) (t:FF):N8->Nat->Nat->Int
 | .swp i=>fun r c=>if c=i then t r (i-1)else if c=i-1 then t r i else t r c
 | .rep i c=>dq t i (mV n t (xa i c))
 | .neg i=>dq t i (fun r=> - t r i)
def N8.i:N8->Nat
 | .swp i=>i
 | .rep i _=>i
 | .neg i=>i
/-! What the operations do to the Gram matrix. -/
theorem x3 {F G:Nat->Int} {i:Nat}: ∀{m},i<m->(∀a,a<m->a≠i->F a=G a)->cg G m=cg F m+(G i-F i)
 |m+1,hi,h=>by
  rw[cg,cg];by_cases e:i=m
  ·subst e;rw[aT i (F:=G) (G:=F) fun p hp=>(h p (by omega) (by omega)).symm];omega
  rw[x3 (m:=m) (by omega) (fun a ha hne=>h a (by omega) hne),h m (by omega) (Ne.symm e)];omega
theorem Db (h:FF) (x y:Nat->Int):BF n h x (fun r=> - y r)= - BF n h x y:=by
 have h1:=gO (n:=n) h x y y (-2);have e:(fun i=>y i+ -2*y i)=fun r=> - y r:=by funext i;omega
 rw[e]at h1;rw[h1];omega
theorem Da (h:FF) (x y:Nat->Int):BF n h (fun r=> - x r) y= - BF n h x y:=by
 have h1:=jf (n:=n) h x x y (-2);have e:(fun i=>x i+ -2*x i)=fun r=> - x r:=by funext i;omega
 rw[e]at h1;rw[h1];omega
end
section
variable {n:Nat}
theorem LY (h t:FF) (i a b:Nat):cngF n h (Oo n t (.neg i)) a b=(if a=i then -1 else 1)*(if b=i then -1 else 1)*cngF n h t a b:=by
 have e: ∀c,(fun r=>Oo n t (.neg i) r c)=if c=i then fun r=> - t r i else fun r=>t r c:=fun c=>by
  by_cases e1:c=i
  ·subst e1;funext r;simp[Oo,dq]
  funext r;simp[Oo,dq,e1]
 rw[gE,e,e,gE];by_cases ha:a=i
 ·subst ha;by_cases hb:b=a
  ·subst hb;simp only[if_true];rw[Da,Db];omega
  simp only[if_true,if_neg hb];rw[Da];omega
 by_cases hb:b=i
 ·subst hb;simp only[if_true,if_neg ha];rw[Db];omega
 simp only[if_neg ha,if_neg hb];omega
theorem tY {a:FF}: ∀m i op,El n a m i=some op->i<=op.i/\op.i<i+m/\(match op with
  | .swp j=>0<j/\a j j<a (j-1) (j-1)
  | .rep j c=>c<3^j/\nrm n a (xa j c)<a j j
  | .neg j=>0<j/\a (j-1) j<0)
 |0,_,_,h=>by cases h
 |m+1,i,op,h=>by
  rw[El]at h;split at h
  ·rename_i hc;injection h with h
   subst h;exact⟨ae _,by show i<i+(m+1);omega,hc⟩
  split at h
  ·rename_i c hc;injection h with h
   subst h;obtain⟨_,h1,h2⟩:=zc _ _ _ hc;exact⟨ae _,by show i<i+(m+1);omega,by omega,h2⟩
  split at h
  ·rename_i hc;injection h with h
   subst h;exact⟨ae _,by show i<i+(m+1);omega,hc⟩
  obtain⟨h1,h2,h3⟩:=tY m (i+1) op h;exact⟨by omega,by omega,h3⟩
structure OJ (n:Nat) (h:FF) (W:Int) (t:FF):Prop where
 nr: ∀a,a<n->cngF n h t a a<=W
 dt:(dk t n).natAbs=1
theorem OJ.op {h t:FF} {W:Int} (ht:OJ n h W t) {op:N8} (ho:El n (cngF n h t) n 0=some op):OJ n h W (Oo n t op):=by
 obtain⟨_,h1,h2⟩:=tY n 0 op ho;cases op with
 |swp i=>
  have hi:i<n:=by simpa[N8.i] using h1
  obtain⟨h0,_⟩:=h2;refine⟨fun a ha=>?_,?_⟩
  ·have e2:(fun r=>Oo n t (.swp i) r a)=if a=i then fun r=>t r (i-1)else if a=i-1 then fun r=>t r i else fun r=>t r a:=by
    by_cases e1:a=i
    ·subst e1;simp[Oo]
    by_cases e3:a=i-1
    ·rw[if_neg e1,if_pos e3];funext r;exact(if_neg e1).trans (if_pos e3)
    simp[Oo,e1,e3]
   rw[gE,e2];split
   ·rw[<- gE];exact ht.nr _ (by omega)
   split
   ·rw[<- gE];exact ht.nr _ hi
   rw[<- gE];exact ht.nr _ ha
  have:=BE (R:=t) (n:=n) (a:=i) (b:=i-1) hi (by omega) (by omega);show(dk (fun r c=>if c=i then t r (i-1)else if c=i-1 then t r i else t r c) n).natAbs=1;rw[this,Int.natAbs_neg];exact ht.dt
 |rep i c=>
  have hi:i<n:=by simpa[N8.i] using h1
  obtain⟨_,h3⟩:=h2;refine⟨fun a ha=>?_,?_⟩
  ·by_cases e:a=i
   ·subst e;show cngF n h (dq t a (mV n t (xa a c))) a a<=W;rw[In];have:=ht.nr a ha;omega
   show cngF n h (dq t i (mV n t (xa i c))) a a<=W;rw[yP _ e e];exact ht.nr a ha
  show(dk (dq t i (mV n t (xa i c))) n).natAbs=1;rw[DE hi,show xa i c i=1 by simp[xa],Int.one_mul];exact ht.dt
 |neg i=>
  have hi:i<n:=by simpa[N8.i] using h1
  refine⟨fun a ha=>?_,?_⟩
  ·rw[LY];have:=ht.nr a ha;split<;>omega
  show(dk (dq t i (fun r=> - t r i)) n).natAbs=1;rw[vz hi,Int.natAbs_neg];exact ht.dt
end
section
variable {n:Nat}
theorem kj {f:FF} (hs:SymF f n) (hp: ∀k,k<n->0<dk f (k+1)) (x:Nat->Int) {k:Nat} (hk:k<n):
  dk f k*BF n (bk f (k+1)) x x=dk f (k+1)*BF n (bk f k) x x-cg (fun j=>bk f k k j*x j) n*cg (fun j=>bk f k k j*x j) n:=by
 have hne: ∀t,t<n->dk f (t+1)≠0:=fun t ht=>by have:=hp t ht;omega
 have e0:dk f k*BF n (bk f (k+1)) x x=BF n (fun i j=>dk f k*bk f (k+1) i j+0*bk f k i j) x x:=by rw[rk];omega
 rw[e0,eE (f':=fun i j=>dk f (k+1)*bk f k i j+(-1)*(bk f k k i*bk f k k j)) (fun i j hi hj=>by
  have:=sylv f k (fun t ht=>hne t (by omega)) i j;have e:=ip hs k (by omega) (fun t ht=>hne t (by omega)) i k hi (by omega);rw[e]at this;omega) (fun _ _=>rfl) (fun _ _=>rfl),rk,Dc,aT n (F:=fun i=>x i*bk f k k i) (G:=fun j=>bk f k k j*x j) (fun i _=>Int.mul_comm _ _)]
 omega
theorem Ax {f:FF} (hr:PD f n) (x:Nat->Int) {N:Int} (hN:BF n f x x<=N): ∀k,k<=n->BF n (bk f k) x x<=N*dk f k
 |0,_=>by
  rw[cj,Int.mul_one,eE (fun i j _ _=>cp f i j) (fun _ _=>rfl) (fun _ _=>rfl)];exact hN
 |k+1,hk=>by
  have ih:=Ax hr x hN k (by omega);have hkey:=kj hr.1 hr.2 x (show k<n by omega);have hd:0<dk f k:=gG fun t ht=>hr.2 t (by omega)
  have hd1:=hr.2 k (by omega);have hsq:0<=cg (fun j=>bk f k k j*x j) n*cg (fun j=>bk f k k j*x j) n:=by
   rcases Int.le_total 0 (cg (fun j=>bk f k k j*x j) n)with h|h
   ·exact Int.mul_nonneg h h
   exact Int.mul_nonneg_of_nonpos_of_nonpos h h
  have h1:dk f (k+1)*BF n (bk f k) x x<=dk f (k+1)*(N*dk f k):=Int.mul_le_mul_of_nonneg_left ih (by omega);have h2:dk f k*BF n (bk f (k+1)) x x<=dk f k*(N*dk f (k+1)):=by
   have e:dk f (k+1)*(N*dk f k)=dk f k*(N*dk f (k+1)):=by grind
   rw[<- e];omega
  exact Int.le_of_mul_le_mul_left h2 hd
theorem Ja {f:FF} (hr:RedR f n): ∀k,k<n->dk f k<=((2^k:Nat):Int)*dk f (k+1)
 |0,h=>by
  have h1:=hr.2.1 0 h;have h2:((2^0:Nat):Int)=1:=rfl;rw[cj,h2,Int.one_mul];omega
 |k+1,h=>by
  have ih:=Ja hr k (by omega);obtain⟨hs,hl⟩:=hr.2.2.2 k h;have hd1:=hr.2.1 k (by omega);have hd2:=hr.2.1 (k+1) h;unfold Lq at hl;have hsz:=hs (k+1) h (by omega);generalize bk f k (k+1) k=l at*
  generalize dk f (k+1+1)=d2 at*
  generalize dk f (k+1)=d1 at*
  generalize dk f k=d0 at*
  have h4:4*(l*l)<=d1*d1:=by
   have e:(2*l.natAbs)*(2*l.natAbs)<=d1.toNat*d1.toNat:=Nat.mul_le_mul (by omega) (by omega);have e1:(((2*l.natAbs)*(2*l.natAbs):Nat):Int)=4*(l*l):=by
    have:((l.natAbs*l.natAbs:Nat):Int)=l*l:=Int.natAbs_mul_self;rw[<- this];simp only[Int.natCast_mul];grind
   have e2:((d1.toNat*d1.toNat:Nat):Int)=d1*d1:=by
    have:((d1.toNat:Nat):Int)=d1:=by omega
    rw[Int.natCast_mul,this]
   have:=Int.ofNat_le.2 e;rw[e1,e2]at this;exact this
  have h5:d1*d1<=2*(d0*d2):=by
   have e:3*d1*d1=3*(d1*d1):=by grind
   omega
  have h6:d0*d2<=((2^k:Nat):Int)*d1*d2:=Int.mul_le_mul_of_nonneg_right ih (by omega);have h7:d1*d1<=d1*(((2^(k+1):Nat):Int)*d2):=by
   have e:d1*(((2^(k+1):Nat):Int)*d2)=2*(((2^k:Nat):Int)*d1*d2):=by
    rw[Nat.pow_succ,Int.natCast_mul];grind
   omega
  exact Int.le_of_mul_le_mul_left h7 hd1
theorem vy {f:FF} (hr:RedR f n) (x:Nat->Int) {N:Int} (h0:0<=N) (hN:BF n f x x<=N) {M:Nat} (hM:N*((2^n:Nat):Int)<=(M:Int)*(M:Int)): ∀m k,m+k+1=n->(x k).natAbs<=M*2^m:=fun m=>by
 induction m using Nat.strongRecOn with
 |_ m ih=>
  intro k hk;have hp:=hr.pd;have hkn:k<n:=by omega
  have hne: ∀t,t<n->dk f (t+1)≠0:=fun t ht=>by have:=hr.2.1 t ht;omega
  have hd1:=hr.2.1 k hkn;have hd:0<dk f k:=gG fun t ht=>hr.2.1 t (by omega)
  have hkey:=kj hp.1 hp.2 x hkn;have hle:=Ax hp x hN k (by omega);have hq1:=(gM hp.1 hp.2 x (n-(k+1)) (k+1) (by omega)).1;have hll:=Ja hr k hkn
  -- the sum
  obtain⟨L,hL⟩: ∃L,L=cg (fun j=>bk f k k j*x j) n:=⟨_,rfl⟩;rw[<- hL]at hkey;have hLL:L*L<=(M*dk f (k+1))*(M*dk f (k+1)):=by
   have a1:0<=dk f k*BF n (bk f (k+1)) x x:=Int.mul_nonneg (by omega) hq1;have a2:dk f (k+1)*BF n (bk f k) x x<=dk f (k+1)*(N*dk f k):=Int.mul_le_mul_of_nonneg_left hle (by omega);have a3:dk f (k+1)*(N*dk f k)<=dk f (k+1)*(N*(((2^k:Nat):Int)*dk f (k+1))):=Int.mul_le_mul_of_nonneg_left (Int.mul_le_mul_of_nonneg_left hll h0) (by omega);have a4:N*((2^k:Nat):Int)<=(M:Int)*(M:Int):=by
    have:((2^k:Nat):Int)<=((2^n:Nat):Int):=Int.ofNat_le.2 (Nat.pow_le_pow_right (by omega) (by omega));exact Int.le_trans (Int.mul_le_mul_of_nonneg_left this h0) hM
   have a5:N*((2^k:Nat):Int)*(dk f (k+1)*dk f (k+1))<=(M:Int)*(M:Int)*(dk f (k+1)*dk f (k+1)):=Int.mul_le_mul_of_nonneg_right a4 (Int.mul_nonneg (by omega) (by omega));have e1:dk f (k+1)*(N*(((2^k:Nat):Int)*dk f (k+1)))=N*((2^k:Nat):Int)*(dk f (k+1)*dk f (k+1)):=by grind
   have e2:(M*dk f (k+1))*(M*dk f (k+1))=(M:Int)*(M:Int)*(dk f (k+1)*dk f (k+1)):=by grind
   omega
  have hLa:L.natAbs<=M*(dk f (k+1)).toNat:=by
   have e:(M:Int)*dk f (k+1)=((M*(dk f (k+1)).toNat:Nat):Int):=by
    have:(((dk f (k+1)).toNat:Nat):Int)=dk f (k+1):=by omega
    rw[Int.natCast_mul,this]
   rw[e]at hLL;have:=RT hLL;omega
  -- the other coordinates
  have hrest: ∀q,k+1+q<=n->2*(cg (fun j=>bk f k k j*x j) (k+1+q)-dk f (k+1)*x k).natAbs<=(dk f (k+1)).toNat*(M*(2^(m+1)-2^(m+1-q))):=fun q=>by
   induction q with
   |zero=>
    intro _;have e:cg (fun j=>bk f k k j*x j) (k+1)=dk f (k+1)*x k:=by
     rw[cg,aT k (G:=fun _=>0) (fun j hj=>by rw[wU hp.1 hne (by omega) hj (by omega),Int.zero_mul]),dx,bT];omega
    rw[Nat.add_zero,e];simp
   |succ q ihq=>
    intro hq;have ih1:=ihq (by omega);rw[<- Nat.add_assoc,cg];have hx:=ih (n-(k+1+q)-1) (by omega) (k+1+q) (by omega);have hsz:=(hr.2.2.2 k (by omega)).1 (k+1+q) (by omega) (by omega);have hsym:=ip hp.1 k (by omega) (fun t ht=>hne t (by omega)) k (k+1+q) hkn (by omega);rw[hsym];rw[show n-(k+1+q)-1=m-1-q by omega]at hx;have hpw:2^(m+1-q)=2*2^(m+1-(q+1))/\2^(m+1-(q+1))=2*2^(m-1-q):=by
     refine⟨?_,?_⟩
     ·rw[show m+1-q=(m+1-(q+1))+1 by omega,Nat.pow_succ];omega
     rw[show m+1-(q+1)=(m-1-q)+1 by omega,Nat.pow_succ];omega
    have hpl:2^(m+1-q)<=2^(m+1):=Nat.pow_le_pow_right (by omega) (by omega);have hD:(((dk f (k+1)).toNat:Nat):Int)=dk f (k+1):=by omega
    have e5:cg (fun j=>bk f k k j*x j) (k+1+q)+bk f k (k+1+q) k*x (k+1+q)-dk f (k+1)*x k=(cg (fun j=>bk f k k j*x j) (k+1+q)-dk f (k+1)*x k)+bk f k (k+1+q) k*x (k+1+q):=by omega
    rw[e5];generalize cg (fun j=>bk f k k j*x j) (k+1+q)-dk f (k+1)*x k=S at*
    generalize bk f k (k+1+q) k=l at*
    generalize x (k+1+q)=y at*
    generalize(dk f (k+1)).toNat=D at*
    have hl:2*l.natAbs<=D:=by omega
    have hly:2*(l*y).natAbs<=D*(M*2^(m-1-q)):=by
     rw[Int.natAbs_mul,<- Nat.mul_assoc];exact Nat.mul_le_mul hl hx
    have hab:=Int.natAbs_add_le S (l*y);generalize 2^(m-1-q)=P at*
    generalize 2^(m+1)=A at*
    obtain⟨p1,p2⟩:=hpw;rw[p1,p2]at ih1 hpl;rw[p2];have h6:D*(M*(A-2*(2*P)))+D*(M*P)<=D*(M*(A-2*P)):=by
     rw[<- Nat.mul_add,<- Nat.mul_add];exact Nat.mul_le_mul_left _ (Nat.mul_le_mul_left _ (by omega))
    omega
  have hfin:=hrest m (by omega);rw[show k+1+m=n by omega,<- hL,show m+1-m=1 by omega]at hfin;have hD:(((dk f (k+1)).toNat:Nat):Int)=dk f (k+1):=by omega
  have hDp:0<(dk f (k+1)).toNat:=by omega
  have hdx:(dk f (k+1)*x k).natAbs=(dk f (k+1)).toNat*(x k).natAbs:=by
   rw[Int.natAbs_mul];congr 1;omega
  have hab:(dk f (k+1)*x k).natAbs<=L.natAbs+(L-dk f (k+1)*x k).natAbs:=by omega
  rw[hdx]at hab;have hpw:2^(m+1)=2*2^m:=by rw[Nat.pow_succ];omega
  have hpos:0<2^m:=Nat.pow_pos (by omega);generalize(L-dk f (k+1)*x k).natAbs=r at*
  generalize(dk f (k+1)).toNat=D at*
  generalize(x k).natAbs=z at*
  generalize L.natAbs=w at*
  rw[hpw]at hfin;generalize 2^m=P at*
  have h7:2*(M*D)+D*(M*(2*P-2^1))=D*(2*(M*P)):=by
   have e:2*P-2^1=2*(P-1):=by omega
   rw[e];obtain⟨p,rfl⟩: ∃p,P=p+1:=⟨P-1,by omega⟩;rw[Nat.add_sub_cancel];grind
  have h8:D*(2*z)<=D*(2*(M*P)):=by
   have e:D*(2*z)=2*(D*z):=by grind
   omega
  have:=Nat.le_of_mul_le_mul_left h8 hDp;omega
end
section
variable {n:Nat}
def EG (a r:Int):Prop:=0<=r/\r*r<=a/\a<(r+1)*(r+1)
theorem oG {a r u:Int} (h:EG a r):u*u<=a↔ -r<=u/\u<=r:=by
 obtain⟨h0,h1,h2⟩:=h;constructor
 ·intro hu;constructor
  ·refine Int.le_of_not_gt fun hl=>?_
   have:=Int.mul_le_mul (show r+1<= -u by omega) (show r+1<= -u by omega) (by omega) (by omega);rw[Int.neg_mul_neg]at this;omega
  refine Int.le_of_not_gt fun hl=>?_
  have:=Int.mul_le_mul (show r+1<=u by omega) (show r+1<=u by omega) (by omega) (by omega);omega
 rintro⟨h3,h4⟩;rcases Int.le_total 0 u with h|h
 ·have:=Int.mul_le_mul h4 h4 h h0;omega
 have:=Int.mul_le_mul (show -u<=r by omega) (show -u<=r by omega) (by omega) h0;rw[Int.neg_mul_neg]at this;omega
theorem EG.uniq {a r s:Int} (h:EG a r) (k:EG a s):r=s:=by
 have h1:=(oG h).1 k.2.1;have h2:=(oG k).1 h.2.1;omega
theorem sQ {a:Int} (h:0<=a): ∃r,EG a r:=by
 obtain⟨m,rfl⟩:=Int.eq_ofNat_of_zero_le h;clear h
 induction m with
 |zero=>exact⟨0,by unfold EG;omega⟩
 |succ m ih=>
  obtain⟨r,h0,h1,h2⟩:=ih;by_cases h:((m+1:Nat):Int)<(r+1)*(r+1)
  ·exact⟨r,h0,by omega,h⟩
  refine⟨r+1,by omega,by omega,?_⟩;have:(r+1+1)*(r+1+1)=(r+1)*(r+1)+2*r+3:=by grind
  omega
open Classical in
noncomputable def isqF (a:Int):Int:=if h: ∃r,EG a r then Classical.choose h else 0
theorem cz {a:Int} (h:0<=a):EG a (isqF a):=by
 unfold isqF;rw[dif_pos (sQ h)];exact Classical.choose_spec (sQ h)
def qU (h:FF) (n k:Nat) (x:Nat->Int):Int:=cg (fun j=>if j<=k then 0 else bk h k k j*x j) n
def kS (h:FF) (n:Nat) (B:Int) (k:Nat) (x:Nat->Int):Int:=dk h k*(B*dk h (k+1)-BF n (bk h (k+1)) x x)
noncomputable def dB (h:FF) (n:Nat) (B:Int) (k:Nat) (x:Nat->Int):Int:= -((isqF (kS h n B k x)+qU h n k x)/dk h (k+1))
noncomputable def d6 (h:FF) (n:Nat) (B:Int) (k:Nat) (x:Nat->Int):Int:=(isqF (kS h n B k x)-qU h n k x)/dk h (k+1)
def fD (h:FF) (n:Nat) (B:Int) (k:Nat) (x:Nat->Int):Prop:=BF n (bk h k) x x<=B*dk h k
theorem xY {h:FF} {k:Nat} {x x':Nat->Int} (e: ∀i,k<i->i<n->x i=x' i):qU h n k x=qU h n k x':=aT n fun j hj=>by
 show(if j<=k then 0 else _)=if j<=k then 0 else _
 by_cases hk:j<=k
 ·rw[if_pos hk,if_pos hk]
 rw[if_neg hk,if_neg hk,e j (by omega) hj]
section
variable {h:FF} (hr:PD h n)
include hr
theorem wV {k i j:Nat} (hk:k<=n) (hi:i<n) (hj:j<k):bk h k i j=0:=by
 rw[ip hr.1 k hk (fun t ht=>by have:=hr.2 t (by omega);omega) i j hi (by omega)];exact iA h hj i
theorem rl {k:Nat} (hk:k<=n) {x y x' y':Nat->Int} (e: ∀i,k<=i->i<n->x i=x' i) (e': ∀i,k<=i->i<n->y i=y' i):BF n (bk h k) x y=BF n (bk h k) x' y':=by
 have z: ∀u:Nat->Int,∀i,i<k->cg (fun j=>bk h k i j*u j) n=0:=fun u i hi=>by
  rw[aT n (G:=fun _=>0*0) fun j _=>by rw[iA h hi,Int.zero_mul];rfl,dm,Int.zero_mul]
 refine aT n fun i hi=>?_
 by_cases hik:i<k
 ·rw[z y i hik,z y' i hik,Int.mul_zero,Int.mul_zero]
 rw[e i (by omega) hi]
 congr 1
 exact aT n fun j hj=>by
  by_cases hjk:j<k
  ·rw[wV hr hk hi hjk,Int.zero_mul,Int.zero_mul]
  rw[e' j (by omega) hj]
theorem fD.tail {B:Int} {k:Nat} (hk:k<=n) {x x':Nat->Int} (e: ∀i,k<=i->i<n->x i=x' i):fD h n B k x↔fD h n B k x':=by
 unfold fD;rw[rl hr hk e e]
theorem we {k:Nat} (hk:k<n) (x:Nat->Int):cg (fun j=>bk h k k j*x j) n=dk h (k+1)*x k+qU h n k x:=by
 have h1:=x3 (F:=fun j=>if j<=k then 0 else bk h k k j*x j) (G:=fun j=>bk h k k j*x j) hk (fun j hj hne=>by
  show(if j<=k then 0 else _)=_;by_cases e:j<k
  ·rw[if_pos (by omega),wV hr (by omega) hk e,Int.zero_mul]
  rw[if_neg (by omega)])
 rw[h1,show(if k<=k then 0 else bk h k k k*x k)=(0:Int)from if_pos (ae k)];show qU h n k x+(dk h (k+1)*x k-0)=_;omega
theorem x7 {B:Int} {k:Nat} (hk:k<n) {x x':Nat->Int} (e: ∀i,k<i->i<n->x i=x' i):kS h n B k x=kS h n B k x':=by
 unfold kS;rw[rl hr (k:=k+1) hk (fun i h1 h2=>e i h1 h2) (fun i h1 h2=>e i h1 h2)]
theorem D1 {B:Int} {k:Nat} (hk:k<n) {x x':Nat->Int} (e: ∀i,k<i->i<n->x i=x' i):dB h n B k x=dB h n B k x':=by
 unfold dB;rw[x7 hr hk e,xY e]
theorem DS {B:Int} {k:Nat} (hk:k<n) {x x':Nat->Int} (e: ∀i,k<i->i<n->x i=x' i):d6 h n B k x=d6 h n B k x':=by
 unfold d6;rw[x7 hr hk e,xY e]
theorem ws {B:Int} {k:Nat} (hk:k<n) {x:Nat->Int} (hP:fD h n B (k+1) x):0<=kS h n B k x:=by
 have:0<dk h k:=gG fun t ht=>hr.2 t (by omega)
 exact Int.mul_nonneg (by omega) (by unfold fD at hP;omega)
theorem vB {B:Int} {k:Nat} (hk:k<n) {x:Nat->Int} (hP:fD h n B (k+1) x):fD h n B k x↔dB h n B k x<=x k/\x k<=d6 h n B k x:=by
 have hd:0<dk h (k+1):=hr.2 k hk;have key:=kj hr.1 hr.2 x hk;rw[we hr hk]at key;have sp:=cz (ws hr hk hP);have e1:fD h n B k x↔(dk h (k+1)*x k+qU h n k x)*(dk h (k+1)*x k+qU h n k x)<=kS h n B k x:=by
  unfold fD kS;have h2:dk h (k+1)*BF n (bk h k) x x<=dk h (k+1)*(B*dk h k)↔BF n (bk h k) x x<=B*dk h k:=⟨fun h=>Int.le_of_mul_le_mul_left h hd,fun h=>Int.mul_le_mul_of_nonneg_left h (by omega)⟩;rw[<- h2,Int.mul_sub];have e:dk h k*(B*dk h (k+1))=dk h (k+1)*(B*dk h k):=by grind
  rw[e];omega
 rw[e1,oG sp];unfold dB d6;generalize isqF (kS h n B k x)=r at*
 generalize qU h n k x=s at*
 generalize dk h (k+1)=d at*
 have h3:x k<=(r-s)/d↔x k*d<=r-s:=Int.le_ediv_iff_mul_le hd;have h4: -(x k)<=(r+s)/d↔ -(x k)*d<=r+s:=Int.le_ediv_iff_mul_le hd;rw[Int.neg_mul,Int.mul_comm]at h4;rw[Int.mul_comm]at h3;omega
theorem fD.up {B:Int} {k:Nat} (hk:k<n) {x:Nat->Int} (hP:fD h n B k x):fD h n B (k+1) x:=by
 have hd:0<dk h (k+1):=hr.2 k hk;have hd0:0<dk h k:=gG fun t ht=>hr.2 t (by omega)
 have key:=kj hr.1 hr.2 x hk;generalize cg (fun j=>bk h k k j*x j) n=L at*
 have hsq:0<=L*L:=by
  rcases Int.le_total 0 L with h|h
  ·exact Int.mul_nonneg h h
  exact Int.mul_nonneg_of_nonpos_of_nonpos h h
 unfold fD at*
 have h1:=Int.mul_le_mul_of_nonneg_left hP (show 0<=dk h (k+1) by omega);refine Int.le_of_mul_le_mul_left (a:=dk h k) ?_ hd0;have e:dk h (k+1)*(B*dk h k)=dk h k*(B*dk h (k+1)):=by grind
 rw[<- e];omega
theorem fD.ups {B:Int} {k:Nat} {x:Nat->Int} (hP:fD h n B k x): ∀m,k+m<=n->fD h n B (k+m) x
 |0,_=>hP
 |m+1,hm=>(fD.ups hP m (by omega)).up hr (by omega)
end
theorem nP {h:FF} {B:Int} {x:Nat->Int}:fD h n B 0 x↔BF n h x x<=B:=by
 unfold fD;rw[cj,Int.mul_one,eE (fun i j _ _=>cp h i j) (fun _ _=>rfl) (fun _ _=>rfl)]
theorem ji {h:FF} (hr:PD h n) {B:Int} (hB:0<=B) {x:Nat->Int}:fD h n B n x:=by
 have z:BF n (bk h n) x x=0:=by
  rw[rl hr (ae n) (x':=fun _=>0) (y':=fun _=>0) (fun i h1 h2=>by omega) (fun i h1 h2=>by omega)];exact kn fun _ _=>rfl
 have hd:0<dk h n:=gG fun t ht=>hr.2 t (by omega)
 unfold fD;rw[z];exact Int.mul_nonneg hB (by omega)
/-! Lists. -/
def bj (n:Nat) (y:List Int):Nat->Int:=fun i=>if i+y.length<n then 0 else y.getD (i+y.length-n) 0
theorem AC {c:Int} {y:List Int} {k i:Nat} (hk:y.length+(k+1)=n) (hi:k<i):bj n (c::y) i=bj n y i:=by
 unfold bj;rw[List.length_cons,if_neg (by omega),if_neg (by omega),show i+(y.length+1)-n=(i+y.length-n)+1 by omega,List.getD_cons_succ]
theorem AD {c:Int} {y:List Int} {k:Nat} (hk:y.length+(k+1)=n):bj n (c::y) k=c:=by
 unfold bj;rw[List.length_cons,if_neg (by omega),show k+(y.length+1)-n=0 by omega,List.getD_cons_zero]
theorem Nz {y:List Int} {k:Nat}: ∀{p:List Int},p.length=k->y.length+k=n-> ∀i,k<=i->bj n (p++y) i=bj n y i
 |p,hp,hk,i,hi=>by
  unfold bj;rw[List.length_append,if_neg (by omega),if_neg (by omega),List.getD_eq_getElem?_getD,List.getD_eq_getElem?_getD,List.getElem?_append_right (by omega)]
  congr 2;omega
theorem pA {z:List Int} (hz:z.length=n) (i:Nat):bj n z i=z.getD i 0:=by
 unfold bj;rw[if_neg (by omega),show i+z.length-n=i by omega]
def rng (a b:Int):List Int:=(List.range (b-a+1).toNat).map fun i:Nat=>a+(i:Int)
theorem ju {a b c:Int}:c∈rng a b↔a<=c/\c<=b:=by
 simp only[rng,List.mem_map,List.mem_range];constructor
 ·rintro⟨i,hi,rfl⟩;omega
 rintro⟨h1,h2⟩;exact⟨(c-a).toNat,by omega,by omega⟩
noncomputable def fp (h:FF) (n:Nat) (B:Int):Nat->List Int->List (List Int)
 |0,y=>[y]
 |k+1,y=>(rng (dB h n B k (bj n y)) (d6 h n B k (bj n y))).flatMap fun c=>fp h n B k (c::y)
theorem xv {h:FF} (hr:PD h n) {B:Int}: ∀k (y:List Int),y.length+k=n->fD h n B k (bj n y)-> ∀z,z∈fp h n B k y↔(∃p,p.length=k/\z=p++y)/\BF n h (bj n z) (bj n z)<=B
 |0,y,hy,hP,z=>by
  rw[fp,List.mem_singleton];constructor
  ·rintro rfl;exact⟨⟨[],rfl,rfl⟩,nP.1 hP⟩
  rintro⟨⟨p,hp,rfl⟩,_⟩;cases p with
  |nil=>rfl
  |cons _ _=>cases hp
 |k+1,y,hy,hP,z=>by
  have step: ∀c,fD h n B k (bj n (c::y))↔dB h n B k (bj n y)<=c/\c<=d6 h n B k (bj n y):=fun c=>by
   have ht: ∀i,k<i->i<n->bj n (c::y) i=bj n y i:=fun i h1 _=>AC hy h1
   rw[vB hr (by omega) ((fD.tail hr (by omega) fun i h1 h2=>ht i h1 h2).2 hP),AD hy,D1 hr (by omega) ht,DS hr (by omega) ht]
  rw[fp,List.mem_flatMap];constructor
  ·rintro⟨c,hc,hz⟩;obtain⟨⟨p,hp,rfl⟩,h2⟩:=(xv hr k (c::y) (by rw[List.length_cons];omega) ((step c).2 (ju.1 hc)) z).1 hz;exact⟨⟨p++[c],by simp[hp],by simp⟩,h2⟩
  rintro⟨⟨p,hp,rfl⟩,h2⟩;obtain⟨q,c,rfl⟩: ∃q c,p=q++[c]:=by
   have hne:p≠[]:=fun h=>by rw[h]at hp;cases hp
   exact⟨p.dropLast,p.getLast hne,(List.dropLast_concat_getLast hne).symm⟩
  have hq:q.length=k:=by simpa using hp
  have e:q++[c]++y=q++c::y:=by simp
  rw[e]at h2⊢;have hk:(c::y).length+k=n:=by rw[List.length_cons];omega
  have h3:fD h n B k (bj n (c::y)):=by
   have:=fD.ups hr (nP.2 h2) k (by omega);rw[Nat.zero_add]at this;exact(fD.tail hr (by omega) fun i h1 _=>Nz hq hk i h1).1 this
  exact⟨c,ju.2 ((step c).1 h3),(xv hr k (c::y) hk h3 _).2 ⟨⟨q,hq,rfl⟩,h2⟩⟩
theorem MA {h:FF} (hr:PD h n) {B:Int} (hB:0<=B) (z:List Int):z∈fp h n B n []↔z.length=n/\BF n h (fun i=>z.getD i 0) (fun i=>z.getD i 0)<=B:=by
 rw[xv hr n [] (by simp) (ji hr hB)];constructor
 ·rintro⟨⟨p,hp,rfl⟩,h2⟩;rw[List.append_nil]at h2⊢;exact⟨hp,by rwa[show bj n p=fun i=>p.getD i 0 from funext (pA hp)]at h2⟩
 rintro⟨h1,h2⟩;exact⟨⟨z,h1,by simp⟩,by rwa[show bj n z=fun i=>z.getD i 0 from funext (pA h1)]⟩
end
theorem dO (l:List Nat) (hb:l.length<=1073741824):CallC Tryz.prog 167 [bS l] ⟨[],bS (eB l)⟩:=by
 refine aK Tryz.func167 rfl (by kernel_rfl) ?_;rw[Tryz.ntmps167];refine aE fun _ K=>?_;simp only[kd,bS,af];apply K
 refine aG (bH (G:={n:Nat//n<=l.length/\eB l=eB (l.take n)}) (fun n=>⟨(bS (l.take n.1)::j16 (j4 ([]))),Hm []⟩) (fun n=>n.1) ⟨l.length,ae _,by simp⟩ ?_ ?_)
 ·refine aF trivial ?_;simp[wk]
 rintro⟨n,hn,hT⟩;simp only;have hlen:(l.take n).length=n:=by simp;omega
 by_cases h0:0<n
 ·obtain⟨a,ha⟩:=getElem?_of_lt (l:=l) (k:=n-1) (by omega);have e1:((n:Int)-1).toNat=n-1:=by omega
  have ha2:(l.take n)[n-1]?=some a:=by rw[List.getElem?_take,if_pos (by omega),ha]
  have htk:l.take n=l.take (n-1)++[a]:=by
   have:=List.take_succ_eq_append_getElem (i:=n-1) (l:=l) (by omega);rw[show n-1+1=n by omega]at this;rw[this,(List.getElem?_eq_some_iff.1 ha).2]
  refine aG (aE fun _ K=>?_);simp(disch:=omega) only[kd,aa,bS,hlen,aM,e1,ha2];apply K;refine gT rfl (fun hz=>aR ?_) (fun hz=>cK ?_)
  ·have hz':a=0:=by simpa using hz
   refine aP ?_;refine aO fun _ K=>?_;simp(disch:=omega) only[kd,aa,hlen,aM,e1,sW Pw];apply K
   refine⟨⟨n-1,by omega,?_⟩,by simp only;omega,aF trivial ?_⟩
   ·rw[hT,htk,hz',uz]
   simp[wk,List.take_take,Nat.min_eq_left (show n-1<=n by omega)]
  have hz':a≠0:=by intro e;simp[e]at hz
  have hfin:eB l=l.take n:=by rw[hT,htk,Gx hz']
  show bu _ _ _ _;refine aE fun _ K=>?_;simp(disch:=omega) only[kd];apply K
  (refine aL ⟨.inr rfl,aQ rfl ?_ rfl⟩;simp(disch:=omega) only[kd,Tryz.results167,bS,hfin])
 have hn0:n=0:=by omega
 subst hn0;have hfin:eB l=l.take 0:=by rw[hT];simp[eB]
 refine aG (aE fun _ K=>?_);simp(disch:=omega) only[kd,aa,bS];apply K;refine gT rfl (fun hz=>by cases hz) (fun hz=>cK ?_);show bu _ _ _ _;refine aE fun _ K=>?_;simp only[kd];apply K
 (refine aL ⟨.inr rfl,aQ rfl ?_ rfl⟩;simp(disch:=omega) only[kd,Tryz.results167,bS,hfin])
theorem dS (neg:Bool) (n:Nat):CallC Tryz.prog 164 [.raw (.bool neg),bS (aY n)] ⟨[],tZ (iq neg n)⟩:=by
 by_cases h0:n=0
 ·subst h0;rw[da,show tZ (iq neg 0)= .agg [.p (.raw (.bool false)),.p (.sl (ls fU []))] by
   have:iq neg 0=0:=by cases neg<;>rfl
   simp[this,tZ,da]]
  refine aK Tryz.func164 rfl (by kernel_rfl) ?_;rw[Tryz.ntmps164];refine aE fun _ K=>?_;simp(disch:=omega) only[kd,bS,aa,af];apply K
  refine aG (aE fun _ K=>?_);simp(disch:=omega) only[kd,aa];apply K;refine bo rfl ?_;refine aE fun _ K=>?_;simp(disch:=omega) only[kd,aa];apply K
  refine aL ⟨.inr rfl,?_⟩;refine⟨_,ku 4,j9 (d:=1000) rfl ?_ rfl⟩;simp(disch:=omega) only[kd,Tryz.results164,zH,zO,Ld,Ll,aa]
 have hl:=i5 (n:=n);have hl':(aY n).length≠0:=by omega
 rw[show tZ (iq neg n)= .agg [.p (.raw (.bool neg)),.p (.sl (ls fU (aY n)))] by
  have:decide (0<n)=true:=by simp;omega
  simp[tZ,Ap,Nh,this]]
 refine aK Tryz.func164 rfl (by kernel_rfl) ?_;rw[Tryz.ntmps164];refine aE fun _ K=>?_;simp(disch:=omega) only[kd,bS,aa,af];apply K
 refine aG (aE fun _ K=>?_);simp(disch:=omega) only[kd,aa];apply K;refine aU rfl (aR ?_);show bu _ _ _ _;refine aE fun _ K=>?_;simp(disch:=omega) only[kd,aa,Nat.reduceLeDiff];apply K
 (refine aL ⟨.inr rfl,aQ rfl ?_ rfl⟩;simp(disch:=omega) only[kd,Tryz.results164,aa])
theorem ig (u:Nat) (hu:u<18446744073709551616):CallC Tryz.prog 165 [.raw (.int .u64 u)] ⟨[],bS (aY u)⟩:=by
 have hlm:Lmb [u%4294967296,u/4294967296]:=by intro a ha;simp at ha;omega
 have ht:=dO [u%4294967296,u/4294967296] (by simp);rw[ja hlm,Gy]at ht;have e1:IntKind.u32.wrap (u:Int)=((u%4294967296:Nat):Int):=by rw[IntKind.wrap_u32];omega
 have e2:IntKind.u32.wrap ((u:Int).fdiv (2^(min (32:Int).toNat IntKind.u64.bits)))=((u/4294967296:Nat):Int):=by
  rw[IntKind.wrap_u32];show(Int.fdiv (u:Int) 4294967296)%4294967296=_;rw[Int.fdiv_eq_ediv_of_nonneg _ (by omega)];omega
 simp only[Int.reduceToNat]at e2;refine aK Tryz.func165 rfl (by kernel_rfl) ?_;rw[Tryz.ntmps165];refine aE fun _ K=>?_;simp only[kd,af];apply K
 refine aI [⟨6,_,_,_,ht⟩] [] fun _ K=>?_;simp(disch:=omega) only[kd,bS,Mu,aa,e1,Int.reduceLE,Int.reduceToNat,e2,Nat.reduceMul,Nat.reduceLeDiff];apply K
 (refine aL ⟨.inr rfl,aQ rfl ?_ rfl⟩;simp(disch:=omega) only[kd,Tryz.results165,bS])
theorem oF (l:List Nat) (lm:Lmb l) (bl:l.length<=2):CallC Tryz.prog 208 [bS l] ⟨[],.raw (.int .u64 (natV l:Nat))⟩:=by
 refine aK Tryz.func208 rfl (by kernel_rfl) ?_;rw[Tryz.ntmps208];refine aE fun _ K=>?_;simp only[kd,bS,af];apply K
 refine aE fun _ K=>?_;simp only[kd];apply K
 refine aG (aE fun _ K=>?_);simp only[kd,aa];apply K;refine bH (G:=Sl l) (fun g=>⟨(jk::jk::jk::.raw (.int .u64 (g.u:Int))::jk::jk::bS l::rN l.length::rN g.i::j4 (j4 (j4 (jk::[])))),Hm []⟩) (fun g=>l.length-g.i) ⟨0,0,⟨by omega,by omega⟩,rfl⟩ ?_ ?_
 ·refine aF trivial ?_;simp[wk]
 rintro⟨i,u,hi,hu⟩;simp only;have hlt:=fc lm i;rw[<- hu]at hlt;by_cases hm:i<l.length
 ·obtain⟨a,ha⟩:=getElem?_of_lt hm;have ha':=cH lm ha;have hu2:=bv ha;rw[<- hu]at hu2;refine aE fun _ K=>?_;simp(disch:=omega) only[kd,bS];apply K
  refine cX rfl ?_;refine aG (aP ?_);refine aE fun _ K=>?_;simp(disch:=omega) only[kd,aa,ha];apply K
  have hi2:i=0\/i=1:=by omega
  rcases hi2 with rfl|rfl
  ·have e1:IntKind.u64.wrap ((a:Int)*2^min (32*((0:Nat):Int)).toNat IntKind.u64.bits)=(a:Int):=by
    rw[IntKind.wrap_u64];show((a:Int)*1)%_=_;omega
   have hu0:u=0:=by simpa[natV] using hu
   have e2:=Cn u a (by omega) (by omega);rw[hu0,Nat.zero_or,<- hu0]at e2;refine aO fun _ K=>?_;simp(disch:=omega) only[kd,aa,dM,aM,e1,e2];apply K
   show bu _ _ _ _;refine aO fun _ K=>?_;simp(disch:=omega) only[kd,aM];apply K
   refine⟨⟨1,a,⟨by omega,by omega⟩,by rw[hu2,hu0];simp⟩,by simp only;omega,aF trivial ?_⟩;simp[wk]
  have e1:IntKind.u64.wrap ((a:Int)*2^min (32*((1:Nat):Int)).toNat IntKind.u64.bits)=((a*4294967296:Nat):Int):=by
   rw[IntKind.wrap_u64];show((a:Int)*4294967296)%_=_;omega
  simp only[Nat.pow_one]at hlt;have e2:=Cn u (a*4294967296) (by omega) (by omega);rw[show a*4294967296=a*2^32 from rfl,xC _ _ _ hlt,show a*2^32=a*4294967296 from rfl]at e2;refine aO fun _ K=>?_;simp(disch:=omega) only[kd,aa,dM,aM,e1,e2];apply K
  show bu _ _ _ _;refine aO fun _ K=>?_;simp(disch:=omega) only[kd,aM];apply K
  refine⟨⟨2,a*4294967296+u,⟨by omega,by omega⟩,by rw[hu2];omega⟩,by simp only;omega,aF trivial ?_⟩;simp[wk]
 have hfin:u=natV l:=by rw[hu,List.take_of_length_le (by omega)]
 rw[<- hfin];refine aE fun _ K=>?_;simp(disch:=omega) only[kd,bS];apply K
 refine di rfl ?_;show bu _ _ _ _;refine aE fun _ K=>?_;simp only[kd];apply K
 (refine aL ⟨.inr rfl,aQ rfl ?_ rfl⟩;simp(disch:=omega) only[kd,Tryz.results208])
theorem sN (n:Int) (h1: -9223372036854775808<=n) (h2:n<=9223372036854775807):CallC Tryz.prog 117 [.raw (.int .i64 n)] ⟨[],tZ n⟩:=by
 have hf:=ig n.natAbs (by omega);by_cases hn:n<0
 ·have ht:=dS true n.natAbs;have e1:IntKind.u64.wrap (0-IntKind.u64.wrap n)=((n.natAbs:Nat):Int):=by rw[IntKind.wrap_u64,IntKind.wrap_u64];omega
  rw[show iq true n.natAbs=n by unfold iq;simp;omega]at ht;refine aK Tryz.func117 rfl (by kernel_rfl) ?_;rw[Tryz.ntmps117];refine aE fun _ K=>?_;simp(disch:=omega) only[kd,af,aa];apply K
  refine aG (aE fun _ K=>?_);simp(disch:=omega) only[kd];apply K;refine bo rfl ?_;refine aI [⟨3,_,_,_,hf⟩,⟨4,_,_,_,ht⟩] [] fun _ K=>?_;simp(disch:=omega) only[kd,bS,tZ,aa,e1,Nat.reduceBEq];apply K
  (refine aL ⟨.inr rfl,aQ rfl ?_ rfl⟩;simp(disch:=omega) only[kd,Tryz.results117,aa,tZ])
 have ht:=dS false n.natAbs;have e1:IntKind.u64.wrap n=((n.natAbs:Nat):Int):=by rw[IntKind.wrap_u64];omega
 rw[show iq false n.natAbs=n by unfold iq;simp;omega]at ht;refine aK Tryz.func117 rfl (by kernel_rfl) ?_;rw[Tryz.ntmps117];refine aE fun _ K=>?_;simp(disch:=omega) only[kd,af,aa];apply K
 refine aG (aE fun _ K=>?_);simp(disch:=omega) only[kd];apply K;refine aU rfl (aR ?_);show bu _ _ _ _;refine aI [⟨2,_,_,_,hf⟩,⟨3,_,_,_,ht⟩] [] fun _ K=>?_;simp(disch:=omega) only[kd,bS,tZ,aa,e1,Nat.reduceBEq];apply K
 (refine aL ⟨.inr rfl,aQ rfl ?_ rfl⟩;simp(disch:=omega) only[kd,Tryz.results117,aa,tZ])
theorem Mh (z:Int) (h:Bg z):CallC Tryz.prog 121 [tZ z] ⟨[],.raw (.int .i64 (sg z))⟩:=by
 have ht:=dO (aY z.natAbs) h.len;rw[mK]at ht;have hl:=i5 (n:=z.natAbs);rcases Int.lt_trichotomy z 0 with hz|hz|hz
 ·have e:sg z= -1:=by simp[sg,hz]
  have hl':(aY z.natAbs).length≠0:=by omega
  rw[e];refine aK Tryz.func121 rfl (by kernel_rfl) ?_;rw[Tryz.ntmps121];refine aE fun _ K=>?_;simp(disch:=omega) only[kd,tZ,af,aa];apply K
  refine aG (aP ?_);refine aI [⟨2,_,_,_,ht⟩] [] fun _ K=>?_;simp(disch:=omega) only[kd,bS,aa];apply K
  refine aU rfl ?_;refine aE fun _ K=>?_;simp only[kd,aa];apply K
  refine bo rfl ?_;refine aE fun _ K=>?_;simp only[kd];apply K
  (refine aL ⟨.inr rfl,aQ rfl ?_ rfl⟩;simp(disch:=omega) only[kd,Tryz.results121])
 ·subst hz;rw[show sg 0=0 from rfl];rw[Int.natAbs_zero,da]at ht;rw[show tZ 0= .agg [.p (.raw (.bool false)),.p (.sl (ls fU []))]from by simp[tZ,da]];refine aK Tryz.func121 rfl (by kernel_rfl) ?_;rw[Tryz.ntmps121];refine aE fun _ K=>?_;simp(disch:=omega) only[kd,af,aa];apply K
  refine aG (aP ?_);refine aI [⟨2,_,_,_,ht⟩] [] fun _ K=>?_;simp(disch:=omega) only[kd,bS,aa];apply K
  refine bo rfl ?_;refine aE fun _ K=>?_;simp only[kd];apply K
  (refine aL ⟨.inr rfl,aQ rfl ?_ rfl⟩;simp(disch:=omega) only[kd,Tryz.results121])
 have e:sg z=1:=by unfold sg;rw[if_neg (by omega),if_neg (by omega)]
 have hl':(aY z.natAbs).length≠0:=by omega
 rw[e];refine aK Tryz.func121 rfl (by kernel_rfl) ?_;rw[Tryz.ntmps121];refine aE fun _ K=>?_;simp(disch:=omega) only[kd,tZ,af,aa];apply K
 refine aG (aP ?_);refine aI [⟨2,_,_,_,ht⟩] [] fun _ K=>?_;simp(disch:=omega) only[kd,bS,aa];apply K
 refine aU rfl ?_;refine aE fun _ K=>?_;simp only[kd,aa];apply K
 refine aU rfl (aR ?_);show bu _ _ _ _;refine aE fun _ K=>?_;simp only[kd];apply K
 (refine aL ⟨.inr rfl,aQ rfl ?_ rfl⟩;simp(disch:=omega) only[kd,Tryz.results121])
theorem zm (z:Int) (h:Bg z):CallC Tryz.prog 222 [tZ z] ⟨[],rg z⟩:=by
 have ht:=dO (aY z.natAbs) h.len;rw[mK]at ht;have hl:=h.len;by_cases h2:2<(aY z.natAbs).length
 ·have hb:=Ca h2;rw[show rg z= .tup [(false,[.p (.raw (.int .i64 0))]),(false,[.p (.raw (.bool false))])] by unfold rg;rw[if_neg (by omega)]];refine aK Tryz.func222 rfl (by kernel_rfl) ?_;rw[Tryz.ntmps222];refine aE fun _ K=>?_;simp(disch:=omega) only[kd,aa,tZ,af];apply K
  refine aI [⟨2,_,_,_,ht⟩] [] fun _ K=>?_;simp only[kd,bS,aa];apply K
  refine aG (aE fun _ K=>?_);simp(disch:=omega) only[kd,aa];apply K;refine bo rfl ?_;refine aE fun _ K=>?_;simp only[kd];apply K
  (refine aL ⟨.inr rfl,aQ rfl ?_ rfl⟩;simp(disch:=omega) only[kd,Tryz.results222])
 have hb:=lP (n:=z.natAbs) (by omega);have hw:=oF (aY z.natAbs) (bK _) (by omega);rw[a8]at hw;by_cases hz:z<0
 ·by_cases hz2:z.natAbs<=9223372036854775808
  ·have e1:IntKind.i64.wrap (IntKind.u64.wrap (0-(z.natAbs:Int)))=z:=by
    rw[IntKind.wrap_u64];have:(0-(z.natAbs:Int))%18446744073709551616=18446744073709551616+z:=by omega
    rw[this,IntKind.wrap_i64];omega
   rw[show rg z= .tup [(false,[.p (.raw (.int .i64 z))]),(false,[.p (.raw (.bool true))])] by unfold rg;rw[if_pos (by omega)]];refine aK Tryz.func222 rfl (by kernel_rfl) ?_;rw[Tryz.ntmps222];refine aE fun _ K=>?_;simp(disch:=omega) only[kd,aa,tZ,af];apply K
   refine aI [⟨2,_,_,_,ht⟩] [] fun _ K=>?_;simp only[kd,bS,aa];apply K
   refine aG (aE fun _ K=>?_);simp(disch:=omega) only[kd,aa];apply K;refine aU rfl (aR ?_);show bu _ _ _ _;refine aI [⟨1,_,_,_,hw⟩] [] fun _ K=>?_;simp only[kd,bS,aa];apply K
   refine aG (aP ?_);refine aE fun _ K=>?_;simp(disch:=omega) only[kd,aa];apply K
   refine bo rfl ?_;refine aE fun _ K=>?_;simp only[kd,aa,e1];apply K
   (refine aL ⟨.inr rfl,aQ rfl ?_ rfl⟩;simp(disch:=omega) only[kd,Tryz.results222])
  rw[show rg z= .tup [(false,[.p (.raw (.int .i64 0))]),(false,[.p (.raw (.bool false))])] by unfold rg;rw[if_neg (by omega)]];refine aK Tryz.func222 rfl (by kernel_rfl) ?_;rw[Tryz.ntmps222];refine aE fun _ K=>?_;simp(disch:=omega) only[kd,aa,tZ,af];apply K
  refine aI [⟨2,_,_,_,ht⟩] [] fun _ K=>?_;simp only[kd,bS,aa];apply K
  refine aG (aE fun _ K=>?_);simp(disch:=omega) only[kd,aa];apply K;refine aU rfl (aR ?_);show bu _ _ _ _;refine aI [⟨1,_,_,_,hw⟩] [] fun _ K=>?_;simp only[kd,bS,aa];apply K
  refine aG (aP ?_);refine aE fun _ K=>?_;simp(disch:=omega) only[kd,aa];apply K
  refine aU rfl ?_;refine aE fun _ K=>?_;simp(disch:=omega) only[kd,aa];apply K
  refine aU rfl (aR ?_);show bu _ _ _ _;refine aE fun _ K=>?_;simp only[kd];apply K
  (refine aL ⟨.inr rfl,aQ rfl ?_ rfl⟩;simp(disch:=omega) only[kd,Tryz.results222])
 by_cases hz2:z.natAbs<9223372036854775808
 ·have e1:IntKind.i64.wrap (z.natAbs:Int)=z:=by rw[IntKind.wrap_i64];omega
  rw[show rg z= .tup [(false,[.p (.raw (.int .i64 z))]),(false,[.p (.raw (.bool true))])] by unfold rg;rw[if_pos (by omega)]];refine aK Tryz.func222 rfl (by kernel_rfl) ?_;rw[Tryz.ntmps222];refine aE fun _ K=>?_;simp(disch:=omega) only[kd,aa,tZ,af];apply K
  refine aI [⟨2,_,_,_,ht⟩] [] fun _ K=>?_;simp only[kd,bS,aa];apply K
  refine aG (aE fun _ K=>?_);simp(disch:=omega) only[kd,aa];apply K;refine aU rfl (aR ?_);show bu _ _ _ _;refine aI [⟨1,_,_,_,hw⟩] [] fun _ K=>?_;simp only[kd,bS,aa];apply K
  refine aG (aP ?_);refine aE fun _ K=>?_;simp(disch:=omega) only[kd,aa];apply K
  refine aU rfl ?_;refine aE fun _ K=>?_;simp(disch:=omega) only[kd,aa];apply K
  refine bo rfl ?_;refine aE fun _ K=>?_;simp only[kd,aa,e1];apply K
  (refine aL ⟨.inr rfl,aQ rfl ?_ rfl⟩;simp(disch:=omega) only[kd,Tryz.results222])
 rw[show rg z= .tup [(false,[.p (.raw (.int .i64 0))]),(false,[.p (.raw (.bool false))])] by unfold rg;rw[if_neg (by omega)]];refine aK Tryz.func222 rfl (by kernel_rfl) ?_;rw[Tryz.ntmps222];refine aE fun _ K=>?_;simp(disch:=omega) only[kd,aa,tZ,af];apply K
 refine aI [⟨2,_,_,_,ht⟩] [] fun _ K=>?_;simp only[kd,bS,aa];apply K
 refine aG (aE fun _ K=>?_);simp(disch:=omega) only[kd,aa];apply K;refine aU rfl (aR ?_);show bu _ _ _ _;refine aI [⟨1,_,_,_,hw⟩] [] fun _ K=>?_;simp only[kd,bS,aa];apply K
 refine aG (aP ?_);refine aE fun _ K=>?_;simp(disch:=omega) only[kd,aa];apply K
 refine aU rfl ?_;refine aE fun _ K=>?_;simp(disch:=omega) only[kd,aa];apply K
 refine aU rfl (aR ?_);show bu _ _ _ _;refine aE fun _ K=>?_;simp only[kd];apply K
 (refine aL ⟨.inr rfl,aQ rfl ?_ rfl⟩;simp(disch:=omega) only[kd,Tryz.results222])
/-! Clone: a walk of the older kind, for it holds the slice against nil. -/
theorem se (A:Option Addr) (c:Nat) (x:List Int) (w:World) (hx:RdI .u32 w A x) (hl:x.length*4<=140737488355328):
  Calls Tryz.prog 209 #[.slice A x.length c] w fun e w'=> ∃v,e= .returned v/\w'.ownsRow w.heap.size 165 1 v x.length (x.map (Value.int .u32))/\Ext w w':=by
 have hnil:=fun(w:World) (n c:Nat)=>Lib.run_eql_slice_nil (P:=Tryz.prog) w 63 165 A n c 0 0 Tryz.underlying63
 cases A with
 |none=>
  have hx0:x=[]:=by
   cases x with
   |nil=>rfl
   |cons a l=>obtain⟨_,_,h,_⟩:=hx (by simp);cases h
  subst hx0
  go_enter Tryz.func209,Tryz.ntmps209
  go_wp2_with fail
  go_ret
  exact⟨_,rfl,World.ownsRow_nil _ _ _ _,Ext.refl _⟩
 |some a=>
  go_enter Tryz.func209,Tryz.ntmps209
  go_wp2_with (at_builtin;refine gN _ rfl (.tmp 5) (.tmp 6) _ rfl w.heap.size 165 (.int .u32 0) 1 4 Tryz.underlying63 Tryz.inU32 rfl (by omega) _ 0 [] rfl (World.ownsRow_made w #[] 0 (ae _) (Nat.zero_le _) rfl) (some a) x.length c _ rfl (Rd.ext hx ((Ext.refl _).alloc _)) (by simp) oQ (by simp only[maxLen];omega) (by omega) (by simp) ?_;intro v1 w1 hown1 hg1 _)
  go_ret
  exact⟨_,rfl,by simpa using hown1,vG hg1 (World.ownsRow_made w #[] 0 (ae _) (Nat.zero_le _) rfl:World.ownsRow _ w.heap.size 165 1 _ 0 []) ((Ext.refl w).alloc _) (ae _)⟩
theorem Eg {X:Nat->Prop} {w:World} {l:List Nat} {v:Value} (h:bX X w (.sl (ls fU l)) v): ∃A c,v= .slice A l.length c/\l.length<=c/\RdI .u32 w A (l.map fun n:Nat=>(n:Int)):=by
 generalize hx:PV.sl (ls fU l)=x at h;cases h with
 |raw v h=>cases hx
 |ptr b off cs f hX hb hc hr=>cases hx
 |nil a c=>
  injection hx with hx
  have hl:l=[]:=by simpa[ls] using hx
  subst hl;exact⟨a,c,rfl,Nat.zero_le _,RdI.nil _ _ _⟩
 |sl b off es cap xs f hX hb hes hcap hm hc hr=>
  injection hx with hx
  subst hx;rw[eH]at hcap hm;refine⟨some ⟨b,off,none⟩,cap,by rw[eH],hcap,fun hne=>⟨b,off,rfl,fun i x hx=>?_⟩⟩;rw[az,az]at hx;obtain⟨z',hz',rfl⟩:=Option.map_eq_some_iff.1 hx;obtain⟨z,hz,rfl⟩:=Option.map_eq_some_iff.1 hz';have h1:(ls fU l)[i]?=some (fU z):=by rw[fY,hz];rfl
  have he:es=1:=by rw[<- hes _ (List.mem_of_getElem? h1)];rfl
  subst he;have h2:=hc i _ 0 _ h1 rfl;have h3:=xJ (hr i _ 0 _ h1 rfl);rw[h3,Nat.mul_one,Nat.add_zero]at h2;exact h2
theorem JQ {w':World} {k:Nat} {v:Value} {l:List Nat} {Y:Nat->Prop} (hY: ∀b,Y b->b<k) (hm:l.length<=9223372036854775807) (h:w'.ownsRow k 165 1 v l.length ((l.map fun n:Nat=>(n:Int)).map (Value.int .u32))):bX Y w' (.sl (ls fU l)) v:=by
 obtain⟨hl,h2⟩:=h;rcases h2 with⟨hv,hn⟩|⟨g,cap,cur,hv,hg,hh,hnc,hm2,hs,ht⟩
 ·have:l=[]:=List.eq_nil_of_length_eq_zero (by omega);subst this;rw[hv];exact bX.nil _ _
 rw[hv];have hcell: ∀(i:Nat) z,l[i]?=some z->cur[i]?=some (.int .u32 (z:Int)):=fun i z hz=>by
  have h3:((l.map fun n:Nat=>(n:Int)).map (Value.int .u32))[i]?=some (.int .u32 (z:Int)):=by rw[az,az,hz];rfl
  rw[<- ht,List.getElem?_take]at h3;split at h3
  ·simpa using h3
  cases h3
 have:=bX.sl (X:=Y) (w:=w') g 0 1 cap (ls fU l) (fun i _=>(cur[i]?).getD undef) (fun h=>absurd (hY _ h) (by omega)) (Array.getElem?_eq_some_iff.1 hh).1 (fun e he=>by
  obtain⟨z,_,rfl⟩:=List.mem_map.1 he;rfl) (by rw[eH];exact hnc) (by rw[eH];exact hm) (fun i e j x he hx=>by
  rw[fY]at he;obtain⟨z,hz,rfl⟩:=Option.map_eq_some_iff.1 he;cases j with
  |succ j=>simp[fU]at hx
  |zero=>
   rw[cell_of_row _ g _ cur _ _ hh,Nat.zero_add,Nat.mul_one,Nat.add_zero,hcell i z hz];rfl) (fun i e j x he hx=>by
  rw[fY]at he;obtain⟨z,hz,rfl⟩:=Option.map_eq_some_iff.1 he;cases j with
  |succ j=>simp[fU]at hx
  |zero=>
   simp[fU]at hx;subst hx;simp only[hcell i z hz,Option.getD_some];exact bX.raw _ rfl)
 rw[eH]at this;exact this
theorem zl (l:List Nat) (hl:l.length<=1073741824):CallC Tryz.prog 209 [bS l] ⟨[],bS l⟩:=by
 refine r8 (by kernel_rfl) fun X w vs hX hvs ha=>?_
 obtain⟨v0,e0,r0⟩:=rX ha (j:=0) rfl;obtain⟨A,c,rfl,hc,hR⟩:=Eg r0;obtain rfl:vs= #[.slice A l.length c]:=by
  apply Array.ext_getElem?;intro j
  match j with
  |0=>exact e0
  |j+1=>rw[Array.getElem?_eq_none (by simp at hvs;omega)];rfl
 have hlen:(l.map fun n:Nat=>(n:Int)).length=l.length:=List.length_map _;have:=se A c (l.map fun n:Nat=>(n:Int)) w hR (by rw[hlen];omega);rw[hlen]at this;refine this.mono fun e w' ⟨v,h1,h2,h3⟩=>⟨v,h1,fun ρ H Y hY=>JQ hY (by omega) h2,h3⟩
theorem xk (z:Int) (h:Bg z):CallC Tryz.prog 236 [tZ z] ⟨[],tZ z⟩:=by
 have ht:=dO (aY z.natAbs) h.len;rw[mK]at ht;have hc:=zl (aY z.natAbs) h.len;have hb:=dS (decide (z<0)) z.natAbs;rw[D8]at hb;refine aK Tryz.func236 rfl (by kernel_rfl) ?_;rw[Tryz.ntmps236];refine aE fun _ K=>?_;simp(disch:=omega) only[kd,tZ,af,aa,Nat.reduceEqDiff];apply K
 refine gp bU [⟨4,_,_,_,ht⟩,⟨5,_,_,_,hc⟩,⟨6,_,_,_,hb⟩] [] (by kernel_rfl) fun _ K=>?_;simp(disch:=omega) only[kd,bS,tZ,aa,Nat.reduceEqDiff,Nat.reduceBEq];apply K
 (refine aL ⟨.inr rfl,aQ rfl ?_ rfl⟩;simp(disch:=omega) only[kd,Tryz.results236,Nat.reduceEqDiff,aa,tZ])
end Go.Proofs.YtalmoejhjceflaaGreat
