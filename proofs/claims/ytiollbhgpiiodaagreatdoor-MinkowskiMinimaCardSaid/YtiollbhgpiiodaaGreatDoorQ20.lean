/-
  Part 21 of a proof (walks and plain facts).
-/
import Derived.Test.YtiollbhgpiiodaaGreatDoorQ19
set_option linter.all false
set_option maxRecDepth 100000
set_option maxHeartbeats 64000000
open Nat renaming reduceAdd → aa
open Nat renaming le_refl → ac
open List renaming replicate → ae
namespace Go.Proofs.YtiollbhgpiiodaaGreatDoor
open Go.RowKit
section
variable {n:Nat}
def OD (a r:Int):Prop:=0<=r/\r*r<=a/\a<(r+1)*(r+1)
theorem zI {a r u:Int} (h:OD a r):u*u<=a↔ -r<=u/\u<=r:=by
 obtain⟨h0,h1,h2⟩:=h;constructor
 ·intro hu;constructor
  ·refine Int.le_of_not_gt fun hl=>?_
   have:=Int.mul_le_mul (show r+1<= -u by omega) (show r+1<= -u by omega) (by omega) (by omega);rw[Int.neg_mul_neg]at this;omega
  refine Int.le_of_not_gt fun hl=>?_
  have:=Int.mul_le_mul (show r+1<=u by omega) (show r+1<=u by omega) (by omega) (by omega);omega
 rintro⟨h3,h4⟩;rcases Int.le_total 0 u with h|h
 ·have:=Int.mul_le_mul h4 h4 h h0;omega
 have:=Int.mul_le_mul (show -u<=r by omega) (show -u<=r by omega) (by omega) h0;rw[Int.neg_mul_neg]at this;omega
theorem OD.uniq {a r s:Int} (h:OD a r) (k:OD a s):r=s:=by
 have h1:=(zI h).1 k.2.1;have h2:=(zI k).1 h.2.1;omega
theorem vM {a:Int} (h:0<=a): ∃r,OD a r:=by
 obtain⟨m,rfl⟩:=Int.eq_ofNat_of_zero_le h;clear h
 induction m with
 |zero=>exact⟨0,by unfold OD;omega⟩
 |succ m ih=>
  obtain⟨r,h0,h1,h2⟩:=ih;by_cases h:((m+1:Nat):Int)<(r+1)*(r+1)
  ·exact⟨r,h0,by omega,h⟩
  refine⟨r+1,by omega,by omega,?_⟩;have:(r+1+1)*(r+1+1)=(r+1)*(r+1)+2*r+3:=by grind
  omega
open Classical in
noncomputable def jI (a:Int):Int:=if h: ∃r,OD a r then Classical.choose h else 0
theorem oI {a:Int} (h:0<=a):OD a (jI a):=by
 unfold jI;rw[dif_pos (vM h)];exact Classical.choose_spec (vM h)
def pp (h:FF) (n k:Nat) (x:Nat->Int):Int:=smF (fun j=>if j<=k then 0 else bk h k k j*x j) n
def pb (h:FF) (n:Nat) (B:Int) (k:Nat) (x:Nat->Int):Int:=dk h k*(B*dk h (k+1)-BF n (bk h (k+1)) x x)
noncomputable def kE (h:FF) (n:Nat) (B:Int) (k:Nat) (x:Nat->Int):Int:= -((jI (pb h n B k x)+pp h n k x)/dk h (k+1))
noncomputable def kP (h:FF) (n:Nat) (B:Int) (k:Nat) (x:Nat->Int):Int:=(jI (pb h n B k x)-pp h n k x)/dk h (k+1)
def lh (h:FF) (n:Nat) (B:Int) (k:Nat) (x:Nat->Int):Prop:=BF n (bk h k) x x<=B*dk h k
theorem Az {h:FF} {k:Nat} {x x':Nat->Int} (e: ∀i,k<i->i<n->x i=x' i):pp h n k x=pp h n k x':=aI n fun j hj=>by
 show(if j<=k then 0 else _)=if j<=k then 0 else _
 by_cases hk:j<=k
 ·rw[if_pos hk,if_pos hk]
 rw[if_neg hk,if_neg hk,e j (by omega) hj]
section
variable {h:FF} (hr:PD h n)
include hr
theorem FX {k i j:Nat} (hk:k<=n) (hi:i<n) (hj:j<k):bk h k i j=0:=by
 rw[ju hr.1 k hk (fun t ht=>by have:=hr.2 t (by omega);omega) i j hi (by omega)];exact jH h hj i
theorem yP {k:Nat} (hk:k<=n) {x y x' y':Nat->Int} (e: ∀i,k<=i->i<n->x i=x' i) (e': ∀i,k<=i->i<n->y i=y' i):BF n (bk h k) x y=BF n (bk h k) x' y':=by
 have z: ∀u:Nat->Int,∀i,i<k->smF (fun j=>bk h k i j*u j) n=0:=fun u i hi=>by
  rw[aI n (G:=fun _=>0*0) fun j _=>by rw[jH h hi,Int.zero_mul];rfl,bH,Int.zero_mul]
 refine aI n fun i hi=>?_
 by_cases hik:i<k
 ·rw[z y i hik,z y' i hik,Int.mul_zero,Int.mul_zero]
 rw[e i (by omega) hi]
 congr 1
 exact aI n fun j hj=>by
  by_cases hjk:j<k
  ·rw[FX hr hk hi hjk,Int.zero_mul,Int.zero_mul]
  rw[e' j (by omega) hj]
theorem lh.tail {B:Int} {k:Nat} (hk:k<=n) {x x':Nat->Int} (e: ∀i,k<=i->i<n->x i=x' i):lh h n B k x↔lh h n B k x':=by
 unfold lh;rw[yP hr hk e e]
theorem yz {k:Nat} (hk:k<n) (x:Nat->Int):smF (fun j=>bk h k k j*x j) n=dk h (k+1)*x k+pp h n k x:=by
 have h1:=mI (F:=fun j=>if j<=k then 0 else bk h k k j*x j) (G:=fun j=>bk h k k j*x j) hk (fun j hj hne=>by
  show(if j<=k then 0 else _)=_;by_cases e:j<k
  ·rw[if_pos (by omega),FX hr (by omega) hk e,Int.zero_mul]
  rw[if_neg (by omega)])
 rw[h1,show(if k<=k then 0 else bk h k k k*x k)=(0:Int)from if_pos (ac k)];show pp h n k x+(dk h (k+1)*x k-0)=_;omega
theorem AF {B:Int} {k:Nat} (hk:k<n) {x x':Nat->Int} (e: ∀i,k<i->i<n->x i=x' i):pb h n B k x=pb h n B k x':=by
 unfold pb;rw[yP hr (k:=k+1) hk (fun i h1 h2=>e i h1 h2) (fun i h1 h2=>e i h1 h2)]
theorem qS {B:Int} {k:Nat} (hk:k<n) {x x':Nat->Int} (e: ∀i,k<i->i<n->x i=x' i):kE h n B k x=kE h n B k x':=by
 unfold kE;rw[AF hr hk e,Az e]
theorem qN {B:Int} {k:Nat} (hk:k<n) {x x':Nat->Int} (e: ∀i,k<i->i<n->x i=x' i):kP h n B k x=kP h n B k x':=by
 unfold kP;rw[AF hr hk e,Az e]
theorem sX {B:Int} {k:Nat} (hk:k<n) {x:Nat->Int} (hP:lh h n B (k+1) x):0<=pb h n B k x:=by
 have:0<dk h k:=kf fun t ht=>hr.2 t (by omega)
 exact Int.mul_nonneg (by omega) (by unfold lh at hP;omega)
theorem lI {B:Int} {k:Nat} (hk:k<n) {x:Nat->Int} (hP:lh h n B (k+1) x):lh h n B k x↔kE h n B k x<=x k/\x k<=kP h n B k x:=by
 have hd:0<dk h (k+1):=hr.2 k hk;have key:=sY hr.1 hr.2 x hk;rw[yz hr hk]at key;have sp:=oI (sX hr hk hP);have e1:lh h n B k x↔(dk h (k+1)*x k+pp h n k x)*(dk h (k+1)*x k+pp h n k x)<=pb h n B k x:=by
  unfold lh pb;have h2:dk h (k+1)*BF n (bk h k) x x<=dk h (k+1)*(B*dk h k)↔BF n (bk h k) x x<=B*dk h k:=⟨fun h=>Int.le_of_mul_le_mul_left h hd,fun h=>Int.mul_le_mul_of_nonneg_left h (by omega)⟩;rw[<- h2,Int.mul_sub];have e:dk h k*(B*dk h (k+1))=dk h (k+1)*(B*dk h k):=by grind
  rw[e];omega
 rw[e1,zI sp];unfold kE kP;generalize jI (pb h n B k x)=r at*
 generalize pp h n k x=s at*
 generalize dk h (k+1)=d at*
 have h3:x k<=(r-s)/d↔x k*d<=r-s:=Int.le_ediv_iff_mul_le hd;have h4: -(x k)<=(r+s)/d↔ -(x k)*d<=r+s:=Int.le_ediv_iff_mul_le hd;rw[Int.neg_mul,Int.mul_comm]at h4;rw[Int.mul_comm]at h3;omega
theorem lh.up {B:Int} {k:Nat} (hk:k<n) {x:Nat->Int} (hP:lh h n B k x):lh h n B (k+1) x:=by
 have hd:0<dk h (k+1):=hr.2 k hk;have hd0:0<dk h k:=kf fun t ht=>hr.2 t (by omega)
 have key:=sY hr.1 hr.2 x hk;generalize smF (fun j=>bk h k k j*x j) n=L at*
 have hsq:0<=L*L:=by
  rcases Int.le_total 0 L with h|h
  ·exact Int.mul_nonneg h h
  exact Int.mul_nonneg_of_nonpos_of_nonpos h h
 unfold lh at*
 have h1:=Int.mul_le_mul_of_nonneg_left hP (show 0<=dk h (k+1) by omega);refine Int.le_of_mul_le_mul_left (a:=dk h k) ?_ hd0;have e:dk h (k+1)*(B*dk h k)=dk h k*(B*dk h (k+1)):=by grind
 rw[<- e];omega
theorem lh.ups {B:Int} {k:Nat} {x:Nat->Int} (hP:lh h n B k x): ∀m,k+m<=n->lh h n B (k+m) x
 |0,_=>hP
 |m+1,hm=>(lh.ups hP m (by omega)).up hr (by omega)
end
theorem uH {h:FF} {B:Int} {x:Nat->Int}:lh h n B 0 x↔BF n h x x<=B:=by
 unfold lh;rw[da,Int.mul_one,dY (fun i j _ _=>dz h i j) (fun _ _=>rfl) (fun _ _=>rfl)]
theorem tQ {h:FF} (hr:PD h n) {B:Int} (hB:0<=B) {x:Nat->Int}:lh h n B n x:=by
 have z:BF n (bk h n) x x=0:=by
  rw[yP hr (ac n) (x':=fun _=>0) (y':=fun _=>0) (fun i h1 h2=>by omega) (fun i h1 h2=>by omega)];exact jE fun _ _=>rfl
 have hd:0<dk h n:=kf fun t ht=>hr.2 t (by omega)
 unfold lh;rw[z];exact Int.mul_nonneg hB (by omega)
/-! Lists. -/
def cw (n:Nat) (y:List Int):Nat->Int:=fun i=>if i+y.length<n then 0 else y.getD (i+y.length-n) 0
theorem ky {c:Int} {y:List Int} {k i:Nat} (hk:y.length+(k+1)=n) (hi:k<i):cw n (c::y) i=cw n y i:=by
 unfold cw;rw[List.length_cons,if_neg (by omega),if_neg (by omega),show i+(y.length+1)-n=(i+y.length-n)+1 by omega,List.getD_cons_succ]
theorem kA {c:Int} {y:List Int} {k:Nat} (hk:y.length+(k+1)=n):cw n (c::y) k=c:=by
 unfold cw;rw[List.length_cons,if_neg (by omega),show k+(y.length+1)-n=0 by omega,List.getD_cons_zero]
theorem QQ {y:List Int} {k:Nat}: ∀{p:List Int},p.length=k->y.length+k=n-> ∀i,k<=i->cw n (p++y) i=cw n y i
 |p,hp,hk,i,hi=>by
  unfold cw;rw[List.length_append,if_neg (by omega),if_neg (by omega),List.getD_eq_getElem?_getD,List.getD_eq_getElem?_getD,List.getElem?_append_right (by omega)]
  congr 2;omega
theorem wY {z:List Int} (hz:z.length=n) (i:Nat):cw n z i=z.getD i 0:=by
 unfold cw;rw[if_neg (by omega),show i+z.length-n=i by omega]
def rng (a b:Int):List Int:=(List.range (b-a+1).toNat).map fun i:Nat=>a+(i:Int)
theorem zZ {a b c:Int}:c∈rng a b↔a<=c/\c<=b:=by
 simp only[rng,List.mem_map,List.mem_range];constructor
 ·rintro⟨i,hi,rfl⟩;omega
 rintro⟨h1,h2⟩;exact⟨(c-a).toNat,by omega,by omega⟩
noncomputable def qH (h:FF) (n:Nat) (B:Int):Nat->List Int->List (List Int)
 |0,y=>[y]
 |k+1,y=>(rng (kE h n B k (cw n y)) (kP h n B k (cw n y))).flatMap fun c=>qH h n B k (c::y)
theorem zY {h:FF} (hr:PD h n) {B:Int}: ∀k (y:List Int),y.length+k=n->lh h n B k (cw n y)-> ∀z,z∈qH h n B k y↔(∃p,p.length=k/\z=p++y)/\BF n h (cw n z) (cw n z)<=B
 |0,y,hy,hP,z=>by
  rw[qH,List.mem_singleton];constructor
  ·rintro rfl;exact⟨⟨[],rfl,rfl⟩,uH.1 hP⟩
  rintro⟨⟨p,hp,rfl⟩,_⟩;cases p with
  |nil=>rfl
  |cons _ _=>cases hp
 |k+1,y,hy,hP,z=>by
  have step: ∀c,lh h n B k (cw n (c::y))↔kE h n B k (cw n y)<=c/\c<=kP h n B k (cw n y):=fun c=>by
   have ht: ∀i,k<i->i<n->cw n (c::y) i=cw n y i:=fun i h1 _=>ky hy h1
   rw[lI hr (by omega) ((lh.tail hr (by omega) fun i h1 h2=>ht i h1 h2).2 hP),kA hy,qS hr (by omega) ht,qN hr (by omega) ht]
  rw[qH,List.mem_flatMap];constructor
  ·rintro⟨c,hc,hz⟩;obtain⟨⟨p,hp,rfl⟩,h2⟩:=(zY hr k (c::y) (by rw[List.length_cons];omega) ((step c).2 (zZ.1 hc)) z).1 hz;exact⟨⟨p++[c],by simp[hp],by simp⟩,h2⟩
  rintro⟨⟨p,hp,rfl⟩,h2⟩;obtain⟨q,c,rfl⟩: ∃q c,p=q++[c]:=by
   have hne:p≠[]:=fun h=>by rw[h]at hp;cases hp
   exact⟨p.dropLast,p.getLast hne,(List.dropLast_concat_getLast hne).symm⟩
  have hq:q.length=k:=by simpa using hp
  have e:q++[c]++y=q++c::y:=by simp
  rw[e]at h2⊢;have hk:(c::y).length+k=n:=by rw[List.length_cons];omega
  have h3:lh h n B k (cw n (c::y)):=by
   have:=lh.ups hr (uH.2 h2) k (by omega);rw[Nat.zero_add]at this;exact(lh.tail hr (by omega) fun i h1 _=>QQ hq hk i h1).1 this
  exact⟨c,zZ.2 ((step c).1 h3),(zY hr k (c::y) hk h3 _).2 ⟨⟨q,hq,rfl⟩,h2⟩⟩
theorem zX {h:FF} (hr:PD h n) {B:Int} (hB:0<=B) (z:List Int):z∈qH h n B n []↔z.length=n/\BF n h (fun i=>z.getD i 0) (fun i=>z.getD i 0)<=B:=by
 rw[zY hr n [] (by simp) (tQ hr hB)];constructor
 ·rintro⟨⟨p,hp,rfl⟩,h2⟩;rw[List.append_nil]at h2⊢;exact⟨hp,by rwa[show cw n p=fun i=>p.getD i 0 from funext (wY hp)]at h2⟩
 rintro⟨h1,h2⟩;exact⟨⟨z,h1,by simp⟩,by rwa[show cw n z=fun i=>z.getD i 0 from funext (wY h1)]⟩
end
section
variable {n:Nat}
theorem GU (f:FF) (x:Nat->Int):nrm n f (fun i=> - x i)=nrm n f x:=by
 unfold nrm;rw[tO,yO];omega
theorem qX {f:FF} (hs:SymF f n) (x y:Nat->Int) (c:Int):nrm n f (fun i=>x i+c*y i)=nrm n f x+2*c*BF n f x y+c*c*nrm n f y:=by
 unfold nrm;rw[iW,gP,gP,pr hs y x];grind
theorem Ul {f:FF} {a b:Nat} (ha:a<n) (hb:b<n):BF n f (eC a) (eC b)=f a b:=by
 have e1: ∀(F:Nat->Int) a,a<n->smF (fun j=>F j*eC a j) n=F a:=fun F a ha=>by
  rw[gU ha (fun p _ hne=>by unfold eC;rw[if_neg hne,Int.mul_zero])];unfold eC;rw[if_pos rfl,Int.mul_one]
 unfold BF;rw[aI n (G:=fun k=>f k b*eC a k) (fun k _=>by rw[e1 (f k) b hb];exact Int.mul_comm _ _),e1 (fun k=>f k b) a ha]
theorem yc {f:FF} (hm:MinkP f n) {i:Nat} (hi:i<n) {x:Nat->Int} (hb: ∀j,j<i-> -1<=x j/\x j<=1) (h1:x i=1) (h0: ∀j,i<j->j<n->x j=0):f i i<=nrm n f x:=by
 rcases Int.lt_or_le (nrm n f x) (f i i)with h|h
 ·exact absurd (Of hi hb h1 h0 h) (hm.2 i hi)
 exact h
theorem oR {f:FF} (hm:MinkP f n) {j:Nat} (hj:j<n): ∀i,i<=j->f i i<=f j j:=fun i hi=>by
 obtain⟨m,rfl⟩: ∃m,j=i+m:=⟨j-i,by omega⟩
 induction m with
 |zero=>exact Int.le_refl _
 |succ m ih=>
  have h1:=ih (by omega) (by omega);have h2:=(hm.1 (i+m) (by omega)).1;rw[<- Nat.add_assoc];omega
theorem Cj {f:FF} (hs:SymF f n) (hm:MinkP f n) {i j:Nat} (hij:i<j) (hj:j<n): -(f i i)<=2*f i j/\2*f i j<=f i i:=by
 have key: ∀c:Int,-1<=c->c<=1->f j j<=f j j+2*c*f j i+c*c*f i i:=fun c h1 h2=>by
  have h:=yc hm hj (x:=fun r=>eC j r+c*eC i r) (fun r hr=>by
   unfold eC;rw[if_neg (by omega)];split<;>omega) (by unfold eC;rw[if_pos rfl,if_neg (by omega)];omega) (fun r hr _=>by unfold eC;rw[if_neg (by omega),if_neg (by omega)];omega)
  rw[qX hs,km hj,km (by omega),Ul hj (by omega)]at h;exact h
 have h1:=key 1 (by omega) (by omega);have h2:=key (-1) (by omega) (by omega);have e:=hs i (by omega) j hj;omega
theorem I5 {f:FF} (hs:SymF f n) (hm:MinkP f n) {i j:Nat} (hi:i<n) (hj:j<n) (hij:i≠j): -(f j j)<=2*f i j/\2*f i j<=f j j:=by
 rcases Nat.lt_or_ge i j with h|h
 ·have h1:=Cj hs hm h hj;have h2:=oR hm hj i (by omega);omega
 have h1:=Cj hs hm (show j<i by omega) hi;have e:=hs i hi j hj;omega
def xp (y:Nat->Int) (k:Nat):Nat->Int:=fun j=>if j<k then(if 0<y j then 1 else if y j<0 then -1 else 0)else 0
theorem TE (y:Nat->Int) (k j:Nat): -1<=xp y k j/\xp y k j<=1:=by
 unfold xp;split
 ·split
  ·omega
  split<;>omega
 omega
def l1 (y:Nat->Int):Nat->Nat
 |0=>0
 |k+1=>l1 y k+(y k).natAbs
theorem GB {y:Nat->Int}: ∀{k},l1 y k=0-> ∀j,j<k->y j=0
 |k+1,h,j,hj=>by
  rw[l1]at h;by_cases e:j=k
  ·subst e;omega
  exact GB (k:=k) (by omega) j (by omega)
theorem LY {y:Nat->Int} {K:Nat}: ∀k,k<=K->l1 (fun j=>y j+ -1*xp y K j) k<=l1 y k/\(l1 y k≠0->l1 (fun j=>y j+ -1*xp y K j) k<l1 y k)
 |0,_=>by simp[l1]
 |k+1,hk=>by
  have ih:=LY (y:=y) (K:=K) k (by omega);have h1:(y k+ -1*xp y K k).natAbs<=(y k).natAbs/\((y k).natAbs≠0->(y k+ -1*xp y K k).natAbs<(y k).natAbs):=by
   unfold xp;rw[if_pos (by omega)];split
   ·omega
   split<;>omega
  rw[l1,l1];refine⟨by omega,fun h=>?_⟩;by_cases e:l1 y k=0
  ·have:=h1.2 (by omega);omega
  have:=ih.2 e;omega
theorem Ga {f:FF} (hs:SymF f n) (hm:MinkP f n) {e:Nat->Int} (he: ∀j,-1<=e j/\e j<=1) {j:Nat} (hj:j<n) (hej:e j=1\/e j= -1) (hd:0<=f j j): ∀m,m<=n->(if j<m then 2*f j j-((m-1:Nat):Int)*f j j else-((m:Nat):Int)*f j j)<=2*(e j*smF (fun i=>e i*f i j) m)
 |0,_=>by simp[smF]
 |m+1,hmn=>by
  have ih:=Ga hs hm he hj hej hd m (by omega);rw[smF];have hmul:((m+1:Nat):Int)*f j j=((m:Nat):Int)*f j j+f j j:=by rw[Int.natCast_add,Int.add_mul];simp
  by_cases h:m=j
  ·subst h;rw[if_neg (by omega)]at ih;rw[if_pos (by omega),Nat.add_sub_cancel];have e1:e m*(e m*f m m)=f m m:=by rcases hej with h|h<;>rw[h]<;>omega
   have e2:2*(e m*(smF (fun i=>e i*f i m) m+e m*f m m))=2*(e m*smF (fun i=>e i*f i m) m)+2*f m m:=by
    rw[Int.mul_add,e1];omega
   rw[e2];have: -((m:Nat):Int)*f m m= -(((m:Nat):Int)*f m m):=Int.neg_mul _ _;omega
  have hh:=I5 hs hm (show m<n by omega) hj h;have hem:=he m;have e3: -(f j j)<=2*(e j*(e m*f m j)):=by
   have c:e m= -1\/e m=0\/e m=1:=by omega
   rcases hej with h1|h1<;>rcases c with h2|h2|h2<;>rw[h1,h2]<;>omega
  have e2:2*(e j*(smF (fun i=>e i*f i j) m+e m*f m j))=2*(e j*smF (fun i=>e i*f i j) m)+2*(e j*(e m*f m j)):=by
   rw[Int.mul_add];omega
  rw[e2];have n1: -((m:Nat):Int)*f j j= -(((m:Nat):Int)*f j j):=Int.neg_mul _ _;have n2: -((m+1:Nat):Int)*f j j= -(((m+1:Nat):Int)*f j j):=Int.neg_mul _ _;by_cases hjm:j<m
  ·rw[if_pos hjm]at ih;rw[if_pos (by omega),Nat.add_sub_cancel];have hmul2:((m:Nat):Int)*f j j=((m-1:Nat):Int)*f j j+f j j:=by
    have:((m:Nat):Int)=((m-1:Nat):Int)+1:=by omega
    rw[this,Int.add_mul,Int.one_mul]
   omega
  rw[if_neg hjm]at ih;rw[if_neg (by omega)];omega
theorem RX {f:FF} {x y:Nat->Int} {k:Nat} (hk:k<=n) (hx: ∀i,k<=i->i<n->x i=0):BF n f x y=smF (fun j=>y j*smF (fun i=>x i*f i j) k) n:=by
 unfold BF;rw[aI n (G:=fun i=>smF (fun j=>x i*f i j*y j) n) (fun i _=>by rw[<- bH];exact aI n fun j _=>by grind),eQ];refine aI n fun j _=>?_
 obtain⟨m,rfl⟩: ∃m,n=k+m:=⟨n-k,by omega⟩;have ext: ∀m,(∀i,k<=i->i<k+m->x i=0)->smF (fun i=>x i*f i j*y j) (k+m)=smF (fun i=>x i*f i j*y j) k:=fun m=>by
  induction m with
  |zero=>intro _;rfl
  |succ m ih=>
   intro h;rw[<- Nat.add_assoc,smF,ih (fun i h1 h2=>h i h1 (by omega)),h (k+m) (by omega) (by omega)]
   simp
 rw[ext m (fun i h1 h2=>hx i h1 h2),jr,Int.mul_comm]
theorem EH {f:FF} (hp:PD f n) (hm:MinkP f n) {k:Nat} (hk:k<n) (hk3:k<=3): ∀(l:Nat) (y:Nat->Int),l1 y k=l->(∀j,k<=j->j<n->y j=0)->0<=nrm n f y+2*BF n f y (eC k):=fun l=>by
 induction l using Nat.strongRecOn with
 |_ l ih=>
  intro y hl hy;by_cases h0:l1 y k=0
  ·have hz: ∀j,j<n->y j=0:=fun j hj=>by
    rcases Nat.lt_or_ge j k with h|h
    ·exact GB h0 j h
    exact hy j h hj
   unfold nrm;rw[jE hz,jE hz];omega
  obtain⟨e,hE⟩: ∃e,e=xp y k:=⟨_,rfl⟩;obtain⟨y',hY⟩: ∃y':Nat->Int,y'=fun j=>y j+ -1*xp y k j:=⟨_,rfl⟩
  have heb: ∀j,-1<=e j/\e j<=1:=fun j=>by rw[hE];exact TE y k j
  have he0: ∀j,k<=j->e j=0:=fun j hj=>by rw[hE];unfold xp;rw[if_neg (by omega)]
  have hy0: ∀j,k<=j->j<n->y' j=0:=fun j hj hjn=>by
   rw[hY];show y j+ -1*xp y k j=0;rw[hy j hj hjn,<- hE,he0 j hj];rfl
  have hsum: ∀j,j<n->y j=e j+1*y' j:=fun j _=>by rw[hE,hY];show y j=xp y k j+1*(y j+ -1*xp y k j);omega
  have h1:=ih (l1 y' k) (by rw[<- hl,hY];exact(LY k (ac k)).2 h0) y' rfl hy0
  -- the sign vector
  have h2:0<=nrm n f e+2*BF n f e (eC k):=by
   have h:=yc hm hk (x:=fun r=>e r+1*eC k r) (fun r hr=>by
    have:=heb r;unfold eC;rw[if_neg (by omega)];omega) (by show e k+1*eC k k=1;rw[he0 k (by omega)];simp[eC]) (fun r hr _=>by
    show e r+1*eC k r=0;rw[he0 r (by omega)];unfold eC;rw[if_neg (by omega)];rfl)
   rw[qX hp.1,km hk]at h;omega
  -- the inner product
  have h3:0<=BF n f e y':=by
   rw[RX (k:=k) (by omega) (fun i h _=>he0 i h)];refine kv n fun j hj=>?_
   rcases Nat.lt_or_ge j k with hjk|hjk
   ·by_cases hz:y' j=0
    ·rw[hz,Int.zero_mul];omega
    have hd:=hp.diag hj;have hej:(e j=1/\0<y' j)\/(e j= -1/\y' j<0):=by
     rw[hE,hY];rw[hY]at hz;have hz:y j+ -1*xp y k j≠0:=hz;show(xp y k j=1/\0<y j+ -1*xp y k j)\/(xp y k j= -1/\y j+ -1*xp y k j<0);have e0:xp y k j=if 0<y j then 1 else if y j<0 then -1 else 0:=by unfold xp;rw[if_pos hjk]
     rw[e0]at hz⊢;split
     ·rename_i hpos;rw[if_pos hpos]at hz;left;omega
     rename_i hpos;rw[if_neg hpos]at hz;split
     ·rename_i hneg;rw[if_pos hneg]at hz;right;omega
     rename_i hneg;rw[if_neg hneg]at hz;omega
    have hc:=Ga hp.1 hm heb hj (by rcases hej with h|h;exact .inl h.1;exact .inr h.1) (by omega) k (by omega);rw[if_pos hjk]at hc;have hk2:((k-1:Nat):Int)*f j j<=2*f j j:=Int.mul_le_mul_of_nonneg_right (by omega) (by omega);generalize smF (fun i=>e i*f i j) k=S at*
    rcases hej with⟨g1,g2⟩|⟨g1,g2⟩
    ·rw[g1]at hc;exact Int.mul_nonneg (by omega) (by omega)
    rw[g1]at hc;exact Int.mul_nonneg_of_nonpos_of_nonpos (by omega) (by omega)
   rw[hy0 j hjk hj,Int.zero_mul];omega
  have e5:nrm n f y=nrm n f e+2*BF n f e y'+nrm n f y':=by
   rw[fm hsum,qX hp.1];omega
  have e6:BF n f y (eC k)=BF n f e (eC k)+BF n f y' (eC k):=by
   rw[dY (x':=fun j=>e j+1*y' j) (fun _ _ _ _=>rfl) hsum (fun _ _=>rfl),iW];omega
  omega
end
section
variable {n:Nat}
theorem Ck {f:FF} (hp:PD f n) (hm:MinkP f n) {k:Nat} (hk:k<n) (hk3:k<=3) {x:Nat->Int} (h1:x k=1) (h0: ∀j,k<j->j<n->x j=0):f k k<=nrm n f x:=by
 have h:=EH hp hm hk hk3 _ (fun j=>if j<k then x j else 0) rfl (fun j hj _=>if_neg (by omega));have e: ∀j,j<n->x j=(fun j=>if j<k then x j else 0) j+1*eC k j:=fun j hj=>by
  show x j=(if j<k then x j else 0)+1*eC k j;unfold eC;by_cases h2:j<k
  ·rw[if_pos h2,if_neg (by omega)];omega
  rw[if_neg h2];by_cases h3:j=k
  ·subst h3;rw[if_pos rfl,h1];rfl
  rw[if_neg h3,h0 j (by omega) hj];rfl
 rw[fm e,qX hp.1,km hk];omega
theorem GT (f:FF) (m:Int) (x:Nat->Int):nrm n f (fun i=>m*x i)=m*m*nrm n f x:=by
 unfold nrm BF;rw[<- bH];refine aI n fun i _=>?_
 rw[aI n (G:=fun j=>m*(f i j*x j)) (fun j _=>by grind),bH];grind
theorem yd {f:FF} (hp:PD f n) (hm:MinkP f n) {k:Nat} (hk:k<n) (hk3:k<=3) {m:Int} (hm0:0<m): ∀j,j<=k-> ∀u:Nat->Int,u k=m->(∀i,k<i->i<n->u i=0)->(∀i,j<=i->i<k->m∣u i)->
  m*m*(4*f k k-smF (fun i=>f i i) j)<=4*nrm n f u
 |0,_,u,h1,h0,hd=>by
  have e: ∀i,i<n->u i=m*(if k<i then 0 else u i/m):=fun i hi=>by
   by_cases h:k<i
   ·rw[if_pos h,h0 i h hi];simp
   rw[if_neg h];by_cases h2:i=k
   ·subst h2;rw[h1,Int.ediv_self (by omega)];simp
   exact(Int.mul_ediv_cancel' (hd i (by omega) (by omega))).symm
  have h2:=Ck hp hm hk hk3 (x:=fun i=>if k<i then 0 else u i/m) (by
   show(if k<k then 0 else u k/m)=1;rw[if_neg (by omega),h1,Int.ediv_self (by omega)]) (fun j hj _=>if_pos hj)
  rw[fm e,GT];have h3:=Int.mul_le_mul_of_nonneg_left h2 (Int.mul_nonneg (Int.le_of_lt hm0) (Int.le_of_lt hm0));have e0:smF (fun i=>f i i) 0=0:=rfl;rw[e0];have e4:m*m*(4*f k k-0)=4*(m*m*f k k):=by grind
  omega
 |j+1,hj,u,h1,h0,hd=>by
  have hjn:j<n:=by omega
  obtain⟨r,hr⟩: ∃r,r=u j%m:=⟨_,rfl⟩;have r0:0<=r:=by rw[hr];exact Int.emod_nonneg _ (by omega)
  have r1:r<m:=by rw[hr];exact Int.emod_lt_of_pos _ hm0
  have hdj:m∣u j+ -r:=by
   have:u j+ -r=m*(u j/m):=by have:=Int.mul_ediv_add_emod (u j) m;omega
   exact⟨u j/m,this⟩
  have sub: ∀c:Int,m∣u j+c->m*m*(4*f k k-smF (fun i=>f i i) j)<=4*nrm n f (fun i=>u i+c*eC j i):=fun c hc=>by
   refine yd hp hm hk hk3 hm0 j (by omega) _ ?_ (fun i hi hin=>?_) (fun i hi hik=>?_)
   ·show u k+c*eC j k=m;unfold eC;rw[if_neg (by omega),h1];omega
   ·show u i+c*eC j i=0;unfold eC;rw[if_neg (by omega),h0 i hi hin];omega
   show m∣u i+c*eC j i;unfold eC;by_cases e:i=j
   ·subst e;rw[if_pos rfl,Int.mul_one];exact hc
   rw[if_neg e,Int.mul_zero,Int.add_zero];exact hd i (by omega) hik
  have a0:=sub (-r) hdj;have a1:=sub (m-r) (by
   obtain⟨q,hq⟩:=hdj;exact⟨q+1,by rw[Int.mul_add,<- hq];omega⟩)
  rw[qX hp.1,km hjn]at a0 a1;have hW:=hp.diag hjn;rw[smF];generalize smF (fun i=>f i i) j=S at*
  generalize BF n f u (eC j)=B at*
  generalize nrm n f u=U at*
  generalize f j j=W at*
  generalize f k k=K at*
  -- (m - r) a0 + r a1
  have b0:=Int.mul_le_mul_of_nonneg_left a0 (show 0<=m-r by omega);have b1:=Int.mul_le_mul_of_nonneg_left a1 r0;have e1:(m-r)*(4*(U+2* -r*B+ -r* -r*W))+r*(4*(U+2*(m-r)*B+(m-r)*(m-r)*W))=m*(4*U+4*(r*(m-r))*W):=by grind
  have e2:(m-r)*(m*m*(4*K-S))+r*(m*m*(4*K-S))=m*(m*m*(4*K-S)):=by grind
  have h3:m*(m*m*(4*K-S))<=m*(4*U+4*(r*(m-r))*W):=by omega
  have h4:=Int.le_of_mul_le_mul_left h3 hm0;have h5:4*(r*(m-r))<=m*m:=by
   have:0<=(m-2*r)*(m-2*r):=by
    rcases Int.le_total 0 (m-2*r)with h|h
    ·exact Int.mul_nonneg h h
    exact Int.mul_nonneg_of_nonpos_of_nonpos h h
   have e:(m-2*r)*(m-2*r)=m*m-4*(r*(m-r)):=by grind
   omega
  have h6:=Int.mul_le_mul_of_nonneg_right h5 (Int.le_of_lt hW);have e3:m*m*(4*K-(S+W))=m*m*(4*K-S)-m*m*W:=by grind
  omega
theorem Ma {f:FF} (hp:PD f n) (hm:MinkP f n) (hn:n<=4) {k:Nat} (hk:k<n) {x:Nat->Int} (hx:x k≠0) (h0: ∀j,k<j->j<n->x j=0):f k k<=nrm n f x:=by
 have pos: ∀x:Nat->Int,0<x k->(∀j,k<j->j<n->x j=0)->f k k<=nrm n f x:=fun x hx h0=>by
  have hd:=hp.diag hk;by_cases h1:x k=1
  ·exact Ck hp hm hk (by omega) h1 h0
  have h2:=yd hp hm hk (by omega) (m:=x k) hx k (ac k) x rfl h0 (fun i h3 h4=>by omega);have hs:smF (fun i=>f i i) k<=3*f k k:=by
   have: ∀j,j<=k->smF (fun i=>f i i) j<=(j:Int)*f k k:=fun j=>by
    induction j with
    |zero=>intro _;simp[smF]
    |succ j ih=>
     intro hj;have h3:=ih (by omega);have h4:=oR hm hk j (by omega);rw[smF,Int.natCast_add,Int.add_mul];simp;omega
   have h3:=this k (ac k);have h4:(k:Int)*f k k<=3*f k k:=Int.mul_le_mul_of_nonneg_right (by omega) (by omega);omega
  have h5:x k*x k*f k k<=x k*x k*(4*f k k-smF (fun i=>f i i) k):=Int.mul_le_mul_of_nonneg_left (by omega) (Int.mul_nonneg (by omega) (by omega));have h6:2*2<=x k*x k:=Int.mul_le_mul (by omega) (by omega) (by omega) (by omega);have h7:=Int.mul_le_mul_of_nonneg_right h6 (Int.le_of_lt hd);omega
 rcases Int.lt_or_le 0 (x k)with h|h
 ·exact pos x h h0
 rw[<- GU];exact pos (fun i=> - x i) (by show 0< - x k;omega) (fun j h1 h2=>by show-x j=0;rw[h0 j h1 h2];rfl)
end
section
variable {n:Nat}
theorem Fa {F:Nat->Int} {p q m:Nat} (hp:p<m) (hq:q<m):smF (fun a=>if a=p then F q else if a=q then F p else F a) m=smF F m:=by
 by_cases h:p=q
 ·subst h;exact aI m fun a _=>by
   by_cases e:a=p
   ·subst e;rw[if_pos rfl]
   rw[if_neg e,if_neg e]
 have h1:=mI (F:=F) (G:=fun a=>if a=p then F q else F a) hp (fun a _ hne=>(if_neg hne).symm);have h2:=mI (F:=fun a=>if a=p then F q else F a) (G:=fun a=>if a=p then F q else if a=q then F p else F a) hq (fun a _ hne=>by
  by_cases e:a=p
  ·rw[if_pos e,if_pos e]
  rw[if_neg e,if_neg e,if_neg hne])
 rw[if_pos rfl]at h1;rw[if_neg (Ne.symm h),if_pos rfl,if_neg (Ne.symm h)]at h2;omega
theorem zt: ∀(i:Nat) (X:FF),∃c:Nat->Int,(∃a,a<=i/\c a≠0)/\ ∀r,r<i->smF (fun a=>c a*X a r) (i+1)=0
 |0,_=>⟨fun _=>1,⟨0,by omega,by simp⟩,fun r hr=>by omega⟩
 |i+1,X=>by
  by_cases hz: ∀a,a<=i+1->X a i=0
  ·obtain⟨c,⟨a,ha,hc⟩,h⟩:=zt i X;refine⟨fun a=>if a=i+1 then 0 else c a,⟨a,by omega,by show(if a=i+1 then 0 else c a)≠0;rw[if_neg (by omega)];exact hc⟩,fun r hr=>?_⟩;show smF (fun a=>(if a=i+1 then 0 else c a)*X a r) (i+1+1)=0;rw[smF,if_pos rfl,Int.zero_mul,Int.add_zero];by_cases e:r=i
   ·subst e;rw[aI (r+1) (G:=fun _=>0) (fun a ha=>by rw[hz a (by omega),Int.mul_zero]),cX]
   rw[aI (i+1) (G:=fun a=>c a*X a r) (fun a ha=>by rw[if_neg (by omega)])];exact h r (by omega)
  obtain⟨p,hp,hpz⟩: ∃p,p<=i+1/\X p i≠0:=by
   rcases Classical.em (∃p,p<=i+1/\X p i≠0)with h|h
   ·exact h
   exact absurd (fun a ha=>Classical.byContradiction fun hne=>h ⟨a,ha,hne⟩) hz
  obtain⟨Y,hY⟩: ∃Y:Nat->Nat->Int,Y=fun a=>if a=p then X (i+1)else if a=i+1 then X p else X a:=⟨_,rfl⟩
  have hYl:Y (i+1)=X p:=by
   rw[hY];by_cases e:i+1=p
   ·show(if i+1=p then X (i+1)else _)=_;rw[if_pos e,e]
   show(if i+1=p then X (i+1)else if i+1=i+1 then X p else X (i+1))=_;rw[if_neg e,if_pos rfl]
  obtain⟨q,hq⟩: ∃q,q=X p i:=⟨_,rfl⟩;obtain⟨c,⟨a0,ha0,hc0⟩,h⟩:=zt i (fun a r=>q*Y a r-Y a i*X p r);obtain⟨s,hs⟩: ∃s,s=smF (fun a=>c a*Y a i) (i+1):=⟨_,rfl⟩;have hsum: ∀r,r<i+1->smF (fun a=>(if a=i+1 then -s else q*c a)*Y a r) (i+1+1)=0:=fun r hr=>by
   rw[smF,if_pos rfl,hYl,aI (i+1) (G:=fun a=>q*(c a*Y a r)) (fun a ha=>by rw[if_neg (by omega)];grind),bH];by_cases e:r=i
   ·subst e;rw[<- hs,<- hq];grind
   have h1:=h r (by omega);have h2:smF (fun a=>c a*(q*Y a r-Y a i*X p r)) (i+1)=q*smF (fun a=>c a*Y a r) (i+1)-X p r*s:=by
    rw[hs,<- bH,<- bH];have: ∀(F G:Nat->Int) m,smF (fun a=>F a-G a) m=smF F m-smF G m:=fun F G m=>by
     induction m with
     |zero=>rfl
     |succ m ih=>rw[smF,smF,smF,ih];omega
    rw[<- this];exact aI _ fun a _=>by grind
   rw[h2]at h1;have e1: -s*X p r= -(X p r*s):=by grind
   rw[e1];omega
  refine⟨fun a=>if a=p then -s else if a=i+1 then(if p=i+1 then -s else q*c p)else q*c a,?_,fun r hr=>?_⟩
  ·by_cases e:a0=p
   ·by_cases e2:p=i+1
    ·omega
    refine⟨i+1,by omega,?_⟩;show(if i+1=p then -s else if i+1=i+1 then(if p=i+1 then -s else q*c p)else q*c (i+1))≠0;rw[if_neg (by omega),if_pos rfl,if_neg e2];subst e;exact Int.mul_ne_zero (by rw[hq];exact hpz) hc0
   refine⟨a0,by omega,?_⟩;show(if a0=p then -s else if a0=i+1 then(if p=i+1 then -s else q*c p)else q*c a0)≠0;rw[if_neg e,if_neg (by omega)];exact Int.mul_ne_zero (by rw[hq];exact hpz) hc0
  rw[<- hsum r hr,<- Fa (F:=fun a=>(if a=i+1 then -s else q*c a)*Y a r) (p:=p) (q:=i+1) (by omega) (by omega)];refine aI _ fun a ha=>?_
  show(if a=p then -s else if a=i+1 then(if p=i+1 then -s else q*c p)else q*c a)*X a r=if a=p then(if i+1=i+1 then -s else q*c (i+1))*Y (i+1) r else if a=i+1 then(if p=i+1 then -s else q*c p)*Y p r else(if a=i+1 then -s else q*c a)*Y a r
  by_cases e:a=p
  ·subst e;rw[if_pos rfl,if_pos rfl,if_pos rfl,hYl]
  rw[if_neg e,if_neg e];by_cases e2:a=i+1
  ·subst e2;rw[if_pos rfl,if_pos rfl];have:Y p=X (i+1):=by rw[hY];exact if_pos rfl
   rw[this]
  rw[if_neg e2,if_neg e2,if_neg e2];have:Y a=X a:=by rw[hY];show(if a=p then X (i+1)else if a=i+1 then X p else X a)=X a;rw[if_neg e,if_neg e2]
  rw[this]
def Vy (n:Nat) (t:FF):Prop:= ∃s:(Nat->Int)->Nat->Int,∀v j,j<n->mV n t (s v) j=v j
theorem Tl (h t:FF) (x:Nat->Int):nrm n h (mV n t x)=nrm n (cngF n h t) x:=rL h t x x
theorem IT {h u:FF} (hp:PD (cngF n h u) n) {x:Nat->Int} (hx: ∀i,i<n->smF (fun j=>u i j*x j) n=0): ∀j,j<n->x j=0:=by
 refine(hp.pos x).2.1 ?_;rw[<- rL];refine jE fun i hi=>?_
 rw[<- hx i hi];exact aI n fun a _=>Int.mul_comm _ _
end
section
variable {n:Nat}
def lZ (n:Nat) (t:FF):Prop:= ∀v:Nat->Int,∃y,∀j,j<n->mV n t y j=v j
theorem lZ.rinv {t:FF} (h:lZ n t):Vy n t:=⟨fun v=>Classical.choose (h v),fun v=>Classical.choose_spec (h v)⟩
theorem lZ.of {t t':FF} (h:lZ n t) (k: ∀x,∃y,∀j,j<n->mV n t' y j=mV n t x j):lZ n t':=fun v=>by
 obtain⟨x,hx⟩:=h v;obtain⟨y,hy⟩:=k x;exact⟨y,fun j hj=>by rw[hy j hj,hx j hj]⟩
theorem lZ.one:lZ n (fun i j=>if i=j then 1 else 0):=fun v=>⟨v,fun j hj=>by
 show smF (fun a=>v a*(if j=a then 1 else 0)) n=v j;rw[gU hj (fun p _ hne=>by rw[if_neg (Ne.symm hne),Int.mul_zero]),if_pos rfl,Int.mul_one]⟩
theorem lZ.congr {t t':FF} (h:lZ n t) (e: ∀i j,i<n->j<n->t' i j=t i j):lZ n t':=h.of fun x=>⟨x,fun j hj=>aI n fun a ha=>by rw[e j a hj ha]⟩
theorem lZ.swap {t:FF} (h:lZ n t) {p q:Nat} (hp:p<n) (hq:q<n):lZ n (fun i c=>if c=p then t i q else if c=q then t i p else t i c):=h.of fun x=>
 ⟨fun a=>if a=p then x q else if a=q then x p else x a,fun j _=>by
  unfold mV;rw[<- Fa (F:=fun a=>x a*t j a) hp hq];refine aI n fun a _=>?_
  show(if a=p then x q else if a=q then x p else x a)*(if a=p then t j q else if a=q then t j p else t j a)=if a=p then x q*t j q else if a=q then x p*t j p else x a*t j a
  by_cases e:a=p
  ·rw[if_pos e,if_pos e,if_pos e]
  rw[if_neg e,if_neg e,if_neg e];by_cases e2:a=q
  ·rw[if_pos e2,if_pos e2,if_pos e2]
  rw[if_neg e2,if_neg e2,if_neg e2]⟩
theorem lZ.comb {t:FF} (h:lZ n t) {i:Nat} (hi:i<n) {c:Nat->Int} (hc:c i=1):lZ n (dH t i (mV n t c)):=h.of fun x=>
 ⟨fun a=>if a=i then x i else x a-x i*c a,fun j _=>by
  have h1:=mI (F:=fun a=>(x a-x i*c a)*t j a) (G:=fun a=>(if a=i then x i else x a-x i*c a)*dH t i (mV n t c) j a) hi (fun a _ hne=>by
   show _=(if a=i then x i else x a-x i*c a)*dH t i (mV n t c) j a;unfold dH;rw[if_neg hne,if_neg hne])
  have h2:smF (fun a=>(x a-x i*c a)*t j a) n=smF (fun a=>x a*t j a) n-x i*smF (fun a=>c a*t j a) n:=by
   rw[<- bH];have: ∀(F G:Nat->Int) m,smF (fun a=>F a-G a) m=smF F m-smF G m:=fun F G m=>by
    induction m with
    |zero=>rfl
    |succ m ih=>rw[smF,smF,smF,ih];omega
   rw[<- this];exact aI _ fun a _=>by grind
  have e1:(if i=i then x i else x i-x i*c i)*dH t i (mV n t c) j i=x i*smF (fun a=>c a*t j a) n:=by
   unfold dH mV;rw[if_pos rfl,if_pos rfl]
  show smF (fun a=>(if a=i then x i else x a-x i*c a)*dH t i (mV n t c) j a) n=smF (fun a=>x a*t j a) n;rw[h1,h2,e1,hc];have e2:(x i-x i*1)*t j i=0:=by rw[Int.mul_one,Int.sub_self,Int.zero_mul]
  rw[e2];omega⟩
theorem lZ.sign {t:FF} (h:lZ n t) {s:Nat->Int} (hs: ∀a,s a=1\/s a= -1):lZ n (fun i c=>s c*t i c):=h.of fun x=>
 ⟨fun a=>s a*x a,fun j _=>aI n fun a _=>by
  show s a*x a*(s a*t j a)=x a*t j a;rcases hs a with e|e<;>rw[e]<;>grind⟩
/-! The program's loop. -/
theorem BT (N:(Nat->Int)->Int): ∀j B,j<n->lZ n (trF B)->lZ n (trF (insB N B j))
 |0,_,_,h=>h
 |j+1,B,hj,h=>by
  rw[insB];split
  ·refine BT N j _ (by omega) ?_;rw[NO];exact h.swap hj (by omega)
  exact h
theorem wT (N:(Nat->Int)->Int) {B:FF} (h:lZ n (trF B)): ∀i,i<=n->lZ n (trF (lW N B i))
 |0,_=>h
 |i+1,hi=>BT N i _ (by omega) (wT N h i (by omega))
theorem MT {h B R:FF} (hr:RchB n h B R) (hB:lZ n (trF B)):lZ n (trF R):=by
 induction hr with
 |done B hv=>exact wT _ hB n (ac n)
 |step B R i hv _ ih=>
  obtain⟨_,h1,h2,_⟩:=jY n 0 i hv;refine ih ?_;rw[NN];exact lZ.comb (wT _ hB n (ac n)) (by omega) (wP n _ i (3^i)).1
theorem QA {g B:FF} (h:lZ n (trF B)):lZ n (trF (uv g B)):=h.sign (s:=mG g) (mH g)
/-! The reference's loop. -/
end
/-! Inner products of rows. -/
theorem um {n:Nat} {h:FF} (hn1:1<=n) (hn:n<=8) (hr:RedR h n):b8 (bi n n h)=true:=
 (fk _).2 ((qm hn1).2 ⟨rfl,hn,hr⟩)
theorem lJ {n:Nat} {X:Nat->Int} (hx: ∀j,j<n-> -1099511627776<=X j/\X j<=1099511627776):FitB n (bj n X)=true:=by
 refine i6.2 ⟨bf n X,?_⟩;unfold uE;rw[List.all_eq_true];intro c hc;obtain⟨j,hj⟩:=List.mem_iff_getElem?.1 hc;have hjn:j<n:=by
  have:=(List.getElem?_eq_some_iff.1 hj).1;rwa[bf]at this
 rw[aQ _ hjn]at hj;injection hj with hj
 have:=hx j hjn;rw[hj]at this;simp[this]
theorem o8 (n:Nat) (X:Nat->Int):(bj n X).take n=bj n X:=List.take_of_length_le (by rw[bf];omega)
theorem Gw {n:Nat} {h:FF} {X Y:Nat->Int} (hn1:1<=n) (hn:n<=8) (hr:RedR h n) (hx: ∀j,j<n-> -1099511627776<=X j/\X j<=1099511627776) (hy: ∀j,j<n-> -1099511627776<=Y j/\Y j<=1099511627776):
  dE (bj n X) (dN (bi n n h) (bj n Y)) (bj n X).length=BF n h X Y:=by
 have e:=Ew (x:=bj n X) (y:=bj n Y) (um hn1 hn hr) (by rw[aW];exact lJ hx) (by rw[aW];exact lJ hy);rw[e,aW];exact dY (fun i j hi hj=>zz h hi hj) (fun i hi=>yx X hi) (fun i hi=>yx Y hi)
theorem vI {n:Nat} {h:FF} {X Y:Nat->Int} (hn1:1<=n) (hn:n<=8) (hr:RedR h n) (hx: ∀j,j<n-> -1099511627776<=X j/\X j<=1099511627776) (hy: ∀j,j<n-> -1099511627776<=Y j/\Y j<=1099511627776)
  (hb: -4611686018427387904<=BF n h X Y/\BF n h X Y<=4611686018427387904):IU (bi n n h) (bj n X) (bj n Y)=JT (BF n h X Y) true:=by
 unfold IU;rw[if_pos ⟨by unfold lC;rw[um hn1 hn hr,aW,lJ hx];rfl,by rw[aW];exact lJ hy⟩,Gw hn1 hn hr hx hy];exact if_pos hb
def GdR (n:Nat) (h:FF) (x:Nat->Int):Prop:=nrm n h x<=262144
theorem GdR.co {n:Nat} {h:FF} {x:Nat->Int} (hn1:1<=n) (hn:n<=4) (hr:RedR h n) (hg:GdR n h x): ∀j,j<n-> -1099511627776<=x j/\x j<=1099511627776:=fun j hj=>by
 have:=EW hn1 hn hr hg j hj;omega
theorem GdR.nn {n:Nat} {h:FF} {x:Nat->Int} (hr:RedR h n):0<=nrm n h x:=(hr.pd.pos x).1
abbrev f9 (M:List (List Int)):List PV:=[.sl (ls (fR fI) M)]
abbrev SJ (n:Nat) (h:FF):TV:= .fn 54 [.p (.ptr (f9 (bi n n h)))]
theorem K3 {n:Nat} {h:FF} {X Y:Nat->Int} (hn1:1<=n) (hn:n<=4) (hr:RedR h n) (hx:GdR n h X) (hy:GdR n h Y):
  CallC Tryz.prog 54 [jL (bj n X),jL (bj n Y),.one (.p (.ptr (f9 (bi n n h))))] ⟨[],.raw (.int .i64 (nrm n h X-nrm n h Y))⟩:=by
 have a0:0<=nrm n h X:=GdR.nn hr;have b0:0<=nrm n h Y:=GdR.nn hr;have a1:nrm n h X<=262144:=hx;have b1:nrm n h Y<=262144:=hy;have c1:=G0 (bi n n h) (bj n X);have c2:=G0 (bi n n h) (bj n Y);rw[vI hn1 (by omega) hr (hx.co hn1 hn hr) (hx.co hn1 hn hr) (by show _<=nrm n h X/\nrm n h X<=_;omega),show BF n h X X=nrm n h X from rfl]at c1;rw[vI hn1 (by omega) hr (hy.co hn1 hn hr) (hy.co hn1 hn hr) (by show _<=nrm n h Y/\nrm n h Y<=_;omega),show BF n h Y Y=nrm n h Y from rfl]at c2;refine aS Tryz.func54 rfl Tryz.ntmps54 (aT (k:=fw [⟨2,_,_,_,c1⟩] @JT.eq_1 (k:=fw [⟨2,_,_,_,c2⟩] @JT.eq_1 (k:=aK (k:=aV @Tryz.results54)))))
/-! Rows that change their places. -/
theorem Mf {d n p k:Nat} (g:FF) (hp:p<n) (hk:k<n) (hne:k≠p) (r:Nat):(dv d n n (swp p k g))[r]?=
  (((⟨34,1,((gL d (ae n n)).set p [.sl d (k+1) 0 n]).set k [.sl d (p+1) 0 n]⟩::(bi n n g).map kG:List OObj))[sw (p+1) (k+1) r]?).map (w8 d (p+1) (k+1)):=by
 cases r with
 |zero=>
  rw[show sw (p+1) (k+1) 0=0 by simp[sw]];simp only[List.getElem?_cons_zero,Option.map_some,w8]
  congr 2
  apply List.ext_getElem?;intro i;rw[List.getElem?_map,List.getElem?_set,List.getElem?_set,List.length_set,cf,List.length_replicate];by_cases hi:i<n
  ·rw[bJ d n hi];by_cases h1:k=i
   ·subst h1;simp[hi,kw,pn,sw]
   by_cases h2:p=i
   ·subst h2;simp[h1,hi,kw,pn,sw]
   have h1': ¬i=k:=fun e=>h1 e.symm
   have h2': ¬i=p:=fun e=>h2 e.symm
   simp[h1,h2,h1',h2',kw,pn,sw]
  have h1: ¬k=i:=by omega
  have h2: ¬p=i:=by omega
  rw[if_neg h1,if_neg h2,List.getElem?_eq_none (by rw[cf,List.length_replicate];omega)];rfl
 |succ r=>
  have hsw:sw (p+1) (k+1) (r+1)=sw p k r+1:=by
   unfold sw;by_cases h1:r=p
   ·simp[h1]
   by_cases h2:r=k
   ·simp[h1,h2,hne]
   simp[h1,h2]
  have hO: ∀l:List Int,w8 d (p+1) (k+1) (kG l)=kG l:=fun l=>by
   simp only[w8,kG,lc,List.map_map]
   congr 1
  rw[hsw,List.getElem?_cons_succ,List.getElem?_cons_succ,List.getElem?_map,List.getElem?_map];by_cases hr:r<n
  ·have hs:sw p k r<n:=by unfold sw;split<;>(try split)<;>omega
   rw[bx _ _ hr,bx _ _ hs];simp only[Option.map_some,hO]
   congr 3
   unfold swp sw;by_cases h1:r=p
   ·simp[h1]
   by_cases h2:r=k
   ·simp[h1,h2,hne]
   simp[h1,h2]
  have hs: ¬sw p k r<n:=by unfold sw;rw[if_neg (by omega),if_neg (by omega)];exact hr
  rw[List.getElem?_eq_none (by rw[aW];omega),List.getElem?_eq_none (by rw[aW];omega)];rfl
theorem lO (n c:Nat) (f:FF): ∀o∈dv 0 n c f,selfO 0 o:=fun o ho e he x hx=>by
 simp only[List.mem_cons,List.mem_map]at ho;rcases ho with rfl|⟨r,_,rfl⟩
 ·obtain⟨k,hk⟩:=List.mem_iff_getElem?.1 he;have hkn:k<n:=by
   have:=(List.getElem?_eq_some_iff.1 hk).1;simpa[cf] using this
  simp only at hk;rw[bJ 0 c hkn]at hk;injection hk with hk
  subst hk;simp at hx;subst hx;rfl
 exact dK (eY _ _ _) e he x hx
theorem vW (n c:Nat) (f g:FF): ∃o o',(dv 0 n c f)[0]?=some o/\(dv 0 n c g)[0]?=some o'/\o.elems.length=n/\o'.elems.length=n/\o'.es=o.es:=
 ⟨_,_,rfl,rfl,by simp[cf],by simp[cf],rfl⟩
structure Vx (n:Nat) (h:FF) (i:Nat) (T:FF) where
 j:Nat
 C:Nat->Nat->Int
 hj:j<=i
 he:insB (nrm n h) C j=T
 ok: ∀a,a<n->GdR n h (C a)
structure Ux (n:Nat) where
 i:Nat
 h1:1<=i
 hi:i<=n
theorem IW (n:Nat) (h B:FF) (hn1:1<=n) (hn:n<=4) (hr:RedR h n) (hB: ∀a,a<n->GdR n h (B a)):
  i5 Tryz.prog 118 [jk,.raw (.int .i64 0),.raw (.int .i64 (n:Int)),.fn 54 [.p (.ptr (f9 (bi n n h)))]] 0 n (dv 0 n n B) (dv 0 n n (lW (nrm n h) B n)) .undef:=by
 have hall:=fun i hi=>ry (n:=n) (nrm n h) (Q:=GdR n h) (B:=B) hB i hi
 refine qz Tryz.func118 rfl (by kernel_rfl) (by simp) hn1 (vW _ _ _ _) rfl ?_;rw[Tryz.ntmps118];refine eR.weak (aE (tm:=(.one (.sl 0 0 0 n)::.raw (.int .i64 0)::rN n::.fn 54 [.p (.ptr (f9 (bi n n h)))]::j16 (j16 (j16 (jk::[]))))) (l:=[(0,dv 0 n n B)]) ⟨rfl,trivial⟩ (by simp[wk,ae])) ?_;refine eg (k:=?_);refine fL (G:=Ux n) (fun g=>⟨(.one (.sl 0 0 0 n)::.raw (.int .i64 0)::rN n::.fn 54 [.p (.ptr (f9 (bi n n h)))]::j4 (.raw (.int .i64 (g.i:Int))::j16 (j16 (j4 (j4 (j4 ([]))))))),Hm [(0,dv 0 n n (lW (nrm n h) B g.i))]⟩) (fun g=>n-g.i) ⟨1,by omega,hn1⟩ ?_ ?_
 ·refine aE ⟨rfl,trivial⟩ ?_;simp[wk]
 rintro⟨i,hi1,hi⟩;simp only;by_cases hm:i<n
 ·refine bI (eg (k:=gE rfl (dM (bI (eF (eg (k:=?_)))))));refine fL (G:=Vx n h i (lW (nrm n h) B (i+1))) (fun g=>⟨(.one (.sl 0 0 0 n)::.raw (.int .i64 0)::rN n::.fn 54 [.p (.ptr (f9 (bi n n h)))]::j4 (.raw (.int .i64 (i:Int))::rN g.j::j16 (j16 (j4 (j4 (jk::jk::jk::[])))))),Hm [(0,dv 0 n n g.C)]⟩) (fun g=>g.j) ⟨i,lW (nrm n h) B i,ac _,rfl,hall i (by omega)⟩ ?_ ?_
  ·refine aE ⟨rfl,trivial⟩ ?_;simp[wk]
  rintro⟨j,C,hj,he,ok⟩;simp only;cases j with
  |zero=>
   have he:C=lW (nrm n h) B (i+1):=he;refine bI (UC (k:=fz rfl (fK (Bk (k:=?_)))));refine⟨⟨i+1,by omega,by omega⟩,by simp only;omega,aE ⟨?_,trivial⟩ ?_⟩
   ·rw[<- he];rfl
   simp[wk]
  |succ j=>
   have hC:=K3 hn1 hn hr (ok (j+1) (by omega)) (ok j (by omega));have e0:IntKind.i64.wrap (((j+1:Nat):Int)-1)=(j:Int):=by rw[show((j+1:Nat):Int)-1=(j:Int) by omega];exact bu (by omega) (by omega)
   have g1:=bJ (n:=n) (i:=j+1) 0 n (by omega);have g2:=bJ (n:=n) (i:=j) 0 n (by omega);have r1:=cT n C (i:=j+1) (show j+1<n by omega);have r2:=cT n C (i:=j) (show j<n by omega);have gt:(0:Int)<((j+1:Nat):Int):=by omega
   by_cases hlt:nrm n h (C (j+1))<nrm n h (C j)
   ·rw[insB,if_pos hlt]at he;have hneg:nrm n h (C (j+1))-nrm n h (C j)<0:=by omega
    refine bI (y5 [⟨14,_,_,_,hC⟩] (aP gt (aP g1 (aP e0 (aP g2 (aP r1 (aP @o8 (aP r2 hneg))))))) (k:=gE rfl (dM (bI (eF ?_)))));have hsw:=Mf (d:=0) C (show j+1<n by omega) (show j<n by omega) (by omega);have g4:((gL 0 (ae n n)).set (j+1) [.sl 0 (j+1) 0 n])[j]?=some [.sl 0 (j+1) 0 n]:=by
     rw[List.getElem?_set_ne (by omega),g2]
    refine Sl (aP e0 (aP g2 (aP g1 g4))) (k:=?_);show eR _ _ _ _ _;refine eR.weak ((qn 0 (j+1+1) (j+1) (dv 0 n n (swp (j+1) j C)) hsw).trans (aE (tm:=(.one (.sl 0 0 0 n)::.raw (.int .i64 0)::rN n::.fn 54 [.p (.ptr (f9 (bi n n h)))]::j4 (.raw (.int .i64 (i:Int))::.raw (.int .i64 ((j+1:Nat):Int))::j16 (j16 (j4 (j4 (jk::jk::jk::[]))))))) (l:=[(0,dv 0 n n (swp (j+1) j C))]) ⟨rfl,trivial⟩ (by simp[wk,Fg,kw,pn,sw]))) ?_;refine qp e0 (k:=?_);refine⟨⟨j,swp (j+1) j C,by omega,he,fun a ha=>?_⟩,by simp only;omega,aE ⟨rfl,trivial⟩ ?_⟩
    ·unfold swp;split
     ·exact ok j (by omega)
     split
     ·exact ok (j+1) (by omega)
     exact ok a ha
    simp[wk]
   rw[insB,if_neg hlt]at he;have hneg: ¬nrm n h (C (j+1))-nrm n h (C j)<0:=by omega
   refine bI (y5 [⟨14,_,_,_,hC⟩] (aP gt (aP g1 (aP e0 (aP g2 (aP r1 (aP @o8 (aP r2 hneg))))))) (k:=fz rfl (fK (Bk (k:=?_)))));refine⟨⟨i+1,by omega,by omega⟩,by simp only;omega,aE ⟨?_,trivial⟩ ?_⟩
   ·rw[<- he];rfl
   simp[wk]
 have hin:i=n:=by omega
 subst hin;refine bI (eg (k:=fz rfl (fK ?_)));refine⟨.inl rfl,_,ci.refl _,rfl,iw _,rfl⟩
theorem NG (n:Nat) (h B:FF) (hn1:1<=n) (hn:n<=4) (hr:RedR h n) (hB: ∀a,a<n->GdR n h (B a)):
  i5 Tryz.prog 90 [jk,.raw (.int .i64 (n:Int)),.fn 54 [.p (.ptr (f9 (bi n n h)))]] 0 n (dv 0 n n B) (dv 0 n n (lW (nrm n h) B n)) .undef:=by
 have hI:=IW n h B hn1 hn hr hB;refine qz Tryz.func90 rfl (by kernel_rfl) (by simp) hn1 (vW _ _ _ _) rfl ?_;rw[Tryz.ntmps90];refine eR.weak (aE (tm:=(.one (.sl 0 0 0 n)::rN n::.fn 54 [.p (.ptr (f9 (bi n n h)))]::j16 (j16 (j16 (j4 (j4 (j4 ([])))))))) (l:=[(0,dv 0 n n B)]) ⟨rfl,trivial⟩ (by simp[wk,ae])) ?_;refine eg (k:=eg (k:=?_));refine bI (fL (G:=Unit) (fun _=>⟨(.one (.sl 0 0 0 n)::rN n::.fn 54 [.p (.ptr (f9 (bi n n h)))]::jk::jk::jk::.raw (.int .i64 20)::.raw (.int .i64 0)::.raw (.int .i64 20)::j16 (j16 (j16 (j4 (jk::jk::[]))))),Hm [(0,dv 0 n n B)]⟩) (fun _=>0) () ?_ ?_)
 ·refine aE ⟨rfl,trivial⟩ ?_;simp[wk]
 intro _;refine bI (eg (k:=fz rfl (fK (DN 4 hI 0 [] [] (by kernel_rfl) (by simp[wk]) hn1 rfl (lO _ _ _) (lO _ _ _) (by decide) (by simp[wk]) (by decide) fun K hK=>?_))));simp only[kd,aa];apply hK;clear hK K;refine⟨⟨rfl,(cQ 0 0 _ _ _).symm⟩,by simp[wk],?_⟩;intro K hK;simp only[kd,aa,Ry,cwD,kM];apply hK;clear hK K;refine fL (G:=Unit) (fun _=>⟨(.one (.sl 0 0 0 n)::rN n::.fn 54 [.p (.ptr (f9 (bi n n h)))]::jk::jk::jk::.raw (.int .i64 20)::j16 (j16 (j16 (j4 (j4 ([])))))),Hm [(0,dv 0 n n (lW (nrm n h) B n))]⟩) (fun _=>0) () ?_ ?_
 ·refine aE ⟨cQ 0 0 n n _,trivial⟩ ?_;simp[wk]
 intro _;refine bI (eg (k:=fz rfl (fK ?_)));refine⟨.inl rfl,_,ci.refl _,rfl,iw _,rfl⟩
theorem AE (n:Nat) (h B:FF) (hn1:1<=n) (hn:n<=4) (hr:RedR h n) (hB: ∀a,a<n->GdR n h (B a)):
  i5 Tryz.prog 53 [jk,.fn 54 [.p (.ptr (f9 (bi n n h)))]] 0 n (dv 0 n n B) (dv 0 n n (lW (nrm n h) B n)) .undef:=by
 have hI:=NG n h B hn1 hn hr hB;refine qz Tryz.func53 rfl (by kernel_rfl) (by simp) hn1 (vW _ _ _ _) rfl ?_;rw[Tryz.ntmps53];refine eR.weak (aE (tm:=(.one (.sl 0 0 0 n)::.fn 54 [.p (.ptr (f9 (bi n n h)))]::j4 (jk::jk::jk::[]))) (l:=[(0,dv 0 n n B)]) ⟨rfl,trivial⟩ (by simp[wk,ae])) ?_;refine pA 4 hI 0 [] [] (by kernel_rfl) (by simp[wk]) hn1 rfl (lO _ _ _) (lO _ _ _) (by decide) (by simp[wk]) (by decide) fun K hK=>?_
 simp only[kd,aa];apply hK;clear hK K;refine⟨⟨rfl,(cQ 0 0 _ _ _).symm⟩,by simp[wk],?_⟩;intro K hK;simp only[kd,aa,Ry,cwD,kM];apply hK;clear hK K;refine⟨.inl rfl,_,aE (tm:=(.one (.sl 0 0 0 n)::j4 (j4 ([])))) (l:=[(0,dv 0 n n (lW (nrm n h) B n))]) ⟨cQ 0 0 n n _,trivial⟩ (by simp[wk]),rfl,iw _,rfl⟩
open Classical in
noncomputable def Gv (M l:List (List Int)):CallRes:=if Va M l then⟨dv 0 l.length l.length (vG M l),vD l.length true⟩else⟨dv 0 0 0 (vG M l),vD 0 false⟩
theorem LI {M l:List (List Int)} (h: ¬Va M l):Gv M l=⟨dv 0 0 0 (vG M l),vD 0 false⟩:=if_neg h
theorem x4 {M l:List (List Int)} (h:Va M l):Gv M l=⟨dv 0 l.length l.length (vG M l),vD l.length true⟩:=if_pos h
theorem EV {fn:Func} {c:Nat} {F:FF} {b:Bool} {s:AS} (hd:s.H 500=[]) (hk:s.tmps[4]?=some (.raw (.slice none 0 0)))
  (hres:rl Tryz.prog ⟨s.tmps.set 4 (.one (.sl 500 0 0 0)),be s.H 500 [⟨34,1,[]⟩]⟩ fn.results.toList=some (.tup [(false,[.sl 500 0 0 0]),(false,[.p (.raw (.bool b))])])):
  ∃s',ci s s'/\mO Tryz.prog fn ⟨dv 0 0 c F,vD 0 b⟩ s':=
 ⟨_,dx (k:=4) (d:=500) 34 1 (by omega) hd hk,_,500,hres,wM (by simp[selfTV,cW]) (by decide),by simp only[bF];rfl,rfl⟩
theorem P3 (M l:List (List Int)) (hl:l.length<=16):CallC Tryz.prog 21 [dj M,dj l] (Gv M l):=by
 have hno:=LI (M:=M) (l:=l);have hyes:=x4 (M:=M) (l:=l);generalize Gv M l=r at*
 have cR:=qY M;cases hred:b8 M with
 |false=>
  rw[hred]at cR;rw[hno (fun h=>by rw[h.1]at hred;cases hred)];refine aS Tryz.func21 rfl Tryz.ntmps21 (aT (k:=aF (cb [⟨1,_,_,_,cR⟩] (k:=aR rfl (bC (k:=?_))))));refine bA ⟨.inr rfl,EV rfl rfl ?_⟩;simp(disch:=omega) only[kd,Tryz.results21]
 |true=>
  rw[hred]at cR;obtain⟨n,hn⟩: ∃n,n=l.length:=⟨_,rfl⟩;rw[<- hn]at hyes hl;have hln:=hn.symm;refine aS Tryz.func21 rfl Tryz.ntmps21 (aT (k:=aF (cb [⟨1,_,_,_,cR⟩] (k:=aJ rfl (aH (aF (il hln (k:=?_))))))));refine aO (G:=Vw n (fun a=>FitB M.length (l.getD a [])=true)) (fun g=>⟨(dj M::dj l::j16 (jk::dj l::rN n::rN g.i::j16 (j16 (j16 (j16 (jk::jk::jk::[])))))),Hm []⟩) (fun g=>n-g.i) ⟨0,by omega,fun a h=>by omega⟩ ?_ ?_
  ·refine aE trivial ?_;simp[wk]
  rintro⟨i,hi,hg⟩;simp only;by_cases hm:i<n
  ·have hli:=zC (l:=l) (i:=i) (by omega);have cF:=P2 M.length (l.getD i []);cases hf:FitB M.length (l.getD i [])with
   |true=>
    rw[hf]at cF;have hg': ∀a,a<i+1->FitB M.length (l.getD a [])=true:=fun a ha=>by
     by_cases h:a=i
     ·subst h;exact hf
     exact hg a (by omega)
    generalize l.getD i []=xi at*
    refine aK (k:=bv rfl (aF (aG (aX hli (k:=cb [⟨3,_,_,_,cF⟩] (k:=aJ rfl (aH (bW (k:=?_)))))))));refine⟨⟨i+1,by omega,hg'⟩,by simp only;omega,aE trivial ?_⟩;simp[wk]
   |false=>
    rw[hf]at cF;have hr:=hno (fun h=>by rw[(h.2 i (by omega) i (by omega)).x]at hf;cases hf);generalize l.getD i []=xi at*
    refine aK (k:=bv rfl (aF (aG (aX hli (k:=cb [⟨3,_,_,_,cF⟩] (k:=aR rfl (bC (k:=?_))))))));rw[hr];refine bA ⟨.inr rfl,EV rfl rfl ?_⟩;simp(disch:=omega) only[kd,Tryz.results21]
  have hin:i=n:=by omega
  subst hin;refine aK (k:=bE rfl ?_);show bL _ _ _ _;have hfit: ∀a,a<i->FitB M.length (l.getD a [])=true:=hg;clear hg;obtain⟨n,hni⟩: ∃n,n=i:=⟨_,rfl⟩;subst hni;refine aX hln (k:=aF (il hln (k:=?_)));refine aO (G:=iJ n) (fun g=>⟨(dj M::dj l::j4 (jk::jk::.one (.sl 33 0 0 n)::j16 (j4 (j4 (jk::jk::rN n::rN g.i::j16 (j16 (j16 (j4 ([]))))))))),Hm [(33,kI 33 n n g.i (fun _ _=>0))]⟩) (fun g=>n-g.i) ⟨0,by omega⟩ ?_ ?_
  ·refine aE ⟨?_,trivial⟩ ?_
   ·show[_]=_;simp[kI,gL,bi]
   simp[wk]
  rintro⟨i,hi⟩;simp only;by_cases hm:i<n
  ·have k1:=sk (i:=i) (n:=n) 33 n hm;have k2:=ki (i:=i) (n:=n) 33 n hi;have k3:=aW i n (fun _ _=>(0:Int));have k4:=oJ (i:=i) (n:=n) (c:=n) 33 (fun _ _=>(0:Int)) hm (fun j hj=>rfl);refine aK (k:=bv rfl (aF (aG (bC (k:=fc (aP hln (aP k1 (aP @List.length_replicate.{0} (aP @List.all_replicate.{0} (aP k3 k4))))) (k:=bW (k:=?_)))))));refine⟨⟨i+1,by omega⟩,by simp only;omega,aE ⟨?_,trivial⟩ ?_⟩
   ·first|exact k4|rfl
   simp[wk]
  have hin:i=n:=by omega
  subst hin;refine aK (k:=bE rfl ?_);show bL _ _ _ _;rw[pO];obtain⟨n,hni⟩: ∃n,n=i:=⟨_,rfl⟩;subst hni;refine aF (il hln (k:=?_));refine aO (G:=Vw n (fun a=> ∀b,b<=a->PG M l a b)) (fun g=>⟨(dj M::dj l::j4 (jk::jk::.one (.sl 33 0 0 n)::j16 (j16 (j4 (jk::dj l::rN n::rN g.i::j16 (j16 (j4 (j4 ([]))))))))),Hm [(33,dv 33 n n (Er (vG M l) g.i 0))]⟩) (fun g=>n-g.i) ⟨0,by omega,fun a h=>by omega⟩ ?_ ?_
  ·refine aE ⟨?_,trivial⟩ ?_
   ·show _::_=_::_;rw[cy fun a b _ _=>(LF (vG M l) a b).symm]
   simp[wk]
  rintro⟨i,hi,hg⟩;simp only;by_cases hm:i<n
  ·have hli:=zC (l:=l) (i:=i) (by omega);have cA:=My M (l.getD i []) hred (hfit i hm);refine aK (k:=bv rfl (aF (aG (aX hli (k:=cb [⟨2,_,_,_,cA⟩] (k:=aK (k:=?_)))))));refine aO (G:=Vw (i+1) (fun b=>PG M l i b)) (fun g=>⟨(dj M::dj l::j4 (jk::jk::.one (.sl 33 0 0 n)::jk::rN i::jk::jL (dN M (l.getD i []))::j16 (j16 (jk::dj l::rN n::rN i::j4 (j4 (.raw (.int .i64 ((i+1:Nat):Int))::rN g.i::j16 (j4 (j4 (j4 (jk::jk::[])))))))))),Hm [(33,dv 33 n n (Er (vG M l) i g.i))]⟩) (fun g=>i+1-g.i) ⟨0,by omega,fun a h=>by omega⟩ ?_ ?_
   ·refine aE ⟨rfl,trivial⟩ ?_;simp[wk]
   rintro⟨j,hj,hh⟩;simp only;by_cases hm2:j<i+1
   ·have hlj:=zC (l:=l) (i:=j) (by omega);have cD:=Tp M (l.getD j []) (l.getD i []) hred (hfit j (by omega)) (hfit i hm);have hsy:=Oe (i:=i) (j:=j) hred (hfit i hm) (hfit j (by omega));rw[show dE (l.getD j []) (dN M (l.getD i [])) (l.getD j []).length=vG M l j i from rfl,<- hsy]at cD;by_cases hp:PG M l i j
    ·rw[show Uj (vG M l i j)=JT (vG M l i j) true from if_pos ⟨hp.lo,hp.hi⟩]at cD;have g1:=bJ (n:=n) (i:=i) 33 n hm;have g2:=bJ (n:=n) (i:=j) 33 n (by omega);have g3:=cT (n:=n) n (Er (vG M l) i j) (i:=i) hm;have g4:=aQ (Er (vG M l) i j i) (show j<n by omega);have g5:=cT (n:=n) n (upd (Er (vG M l) i j) i j (vG M l i j)) (i:=j) (show j<n by omega);have g6:=aQ (upd (Er (vG M l) i j) i j (vG M l i j) j) hm;refine aK (k:=bv rfl (aF (aG (bC (k:=dr [⟨5,_,_,_,cD⟩] (aP @JT.eq_1 hlj) (k:=aF (bC (k:=aJ rfl (aH (nk (aP g1 (aP g2 (aP g3 (aP g4 (aP @fO (aP g5 g6)))))) (k:=bW (k:=?_))))))))))));refine⟨⟨j+1,by omega,fun a ha=>?_⟩,by simp only;omega,aE ⟨?_,trivial⟩ ?_⟩
     ·by_cases h:a=j
      ·subst h;exact hp
      exact hh a (by omega)
     ·show _::_=_::_;rw[cy fun a b _ _=>LE (f:=vG M l) rfl hsy.symm a b]
     simp[wk]
    have hw:Uj (vG M l i j)=JT 0 false:=if_neg fun h=>hp ⟨hfit i hm,hfit j (by omega),h.1,h.2⟩
    rw[hw]at cD;have hr:=hno (fun h=>hp (h.2 i (by omega) j (by omega)));refine aK (k:=bv rfl (aF (aG (bC (k:=dr [⟨5,_,_,_,cD⟩] (aP @JT.eq_1 hlj) (k:=aF (bC (k:=aR rfl (bC (k:=?_))))))))));rw[hr];refine bA ⟨.inr rfl,EV rfl rfl ?_⟩;simp(disch:=omega) only[kd,Tryz.results21]
   have hjc:j=i+1:=by omega
   subst hjc;refine aK (k:=bE rfl (bW (k:=?_)));refine⟨⟨i+1,by omega,fun a ha b hb=>?_⟩,by simp only;omega,aE ⟨?_,trivial⟩ ?_⟩
   ·by_cases h:a=i
    ·subst h;exact hh b (by omega)
    exact hg a (by omega) b hb
   ·show _::_=_::_;rw[cy fun a b _ _=>Pr (vG M l) i a b]
   simp[wk]
  have hin:i=n:=by omega
  subst hin;have hr:=hyes ⟨hred,fun a ha b hb=>by
   by_cases h:b<=a
   ·exact hg a (by omega) b h
   have h1:=hg b (by omega) a (by omega);have hs:=Oe (i:=a) (j:=b) hred (hfit a (by omega)) (hfit b (by omega));exact⟨h1.y,h1.x,by rw[hs];exact h1.lo,by rw[hs];exact h1.hi⟩⟩
  refine aK (k:=bE rfl ?_);show bL _ _ _ _;have e:dv 33 i i (Er (vG M l) i 0)=dv 33 i i (vG M l):=by
   show _::_=_::_;rw[cy fun a b ha hb=>Pq ha hb]
  rw[e];rw[hr];refine bC (k:=?_);refine bA ⟨.inr rfl,MX (d:=33) rfl ?_ (by decide)⟩;simp(disch:=omega) only[kd,Tryz.results21]
end Go.Proofs.YtiollbhgpiiodaaGreatDoor
