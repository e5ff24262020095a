/-
  Part 21 of a proof (walks and plain facts).
-/
import Derived.Test.YtfgeomlagfomgaaGreatDoorP19
set_option linter.all false
set_option maxRecDepth 100000
set_option maxHeartbeats 64000000
open Nat renaming reduceAdd → aa
open Nat renaming reduceEqDiff → ab
open Nat renaming le_refl → ac
open List renaming replicate → ae
open Nat renaming le_trans → az
namespace Go.Proofs.YtfgeomlagfomgaaGreatDoor
open Go.RowKit
theorem zL (n c:Nat) (f:FF) (hn1:1<=n) (hn:n<=16) (hc1:1<=c) (hc:c<=16) (hf: ∀i j,i<n->j<c-> -9223372036854775808<=f i j/\f i j<=9223372036854775807):
  CallC Tryz.prog 75 [slI (mat n c f)] ⟨[],K8 (mat n c f)⟩:=by
 have hml:=bf n c f;have h0:=ir (M:=mat n c f) (by omega);have h1:=bv (n:=n) c f (i:=0) (by omega);have hhd:(mat n c f).headD []=bA c (f 0):=by rw[h1]at h0;injection h0 with h0;exact h0.symm
 have hsh:AC (mat n c f):=⟨by omega,by omega,fun r hr=>by
  obtain⟨i,_,rfl⟩:=List.mem_map.1 hr;rw[hhd];simp[rOk,bs];omega⟩
 have hS:=Jx (mat n c f);rw[iX hsh,hml,hhd,bs]at hS;have hB:=KI n c f hn1 hn hc1 hc hf;unfold K8;refine aI Tryz.func75 rfl (by kernel_rfl) ?_;rw[Tryz.ntmps75];refine aD fun _ K=>?_;simp(disch:=omega) only[kd,jD,aa,slI,ae];apply K
 refine aG [⟨1,_,_,_,hS⟩] [] fun _ K=>?_;simp only[kd,slI,aa];apply K
 refine aF (aD fun _ K=>?_);simp only[kd];apply K;refine aQ rfl (aM ?_);show bo _ _ _ _;refine bo.weak ((oV 1 1 (cs:=[.sl (ls (fR fI) (mat n c f))]) rfl rfl).trans (aE (tm:=(jk::.one (ot (mat n c f))::jk::jk::rN n::rN c::j4 (j4 (j4 (jk::[]))))) (l:=[]) trivial (by simp[wk,gC,fb,bj,Hm]))) ?_;refine aG [⟨3,_,_,_,hB⟩] [] fun _ K=>?_;simp only[kd,ot,aa];apply K
 refine bo.weak (aE (tm:=(jk::jk::.one (.sl 18 0 0 n)::.raw (.bool true)::j4 (j4 (j4 (jk::jk::jk::[]))))) (l:=[(18,iy 18 n c f)]) ⟨fP 0 18 n c f,trivial⟩ (by simp[wk])) ?_;refine bo.weak ((bH 18 (jH rfl)).trans (aE (tm:=(jk::jk::slM (mat n c f)::.raw (.bool true)::j4 (j4 (j4 (jk::jk::jk::[]))))) (l:=[]) trivial (by simp[wk];exact⟨(M5 (H:=Hm [(18,iy 18 n c f)]) (d:=18) (n:=n) (c:=c) (f:=f) rfl).symm,rfl⟩))) ?_
 (refine aH ⟨.inr rfl,aJ rfl ?_ rfl⟩;simp(disch:=omega) only[kd,jD,Tryz.results75,slM])
section
def PD (f:FF) (n:Nat):Prop:=SymF f n/\ ∀k,k<n->0<dk f (k+1)
theorem RedR.pd {f:FF} {n:Nat} (h:RedR f n):PD f n:=⟨h.1,h.2.1⟩
theorem PD.det {f:FF} {n:Nat} (h:PD f n):0<dk f n:=by
 cases n with
 |zero=>rw[dD];omega
 |succ n=>exact h.2 n (by omega)
variable {n:Nat}
theorem kG {f:FF} {x y:Nat->Int} (h0: ∀i,i<n->x i=0):BF n f x y=0:=by
 unfold BF;rw[aS n (G:=fun _=>0) (fun i hi=>by rw[h0 i hi,Int.zero_mul]),dR]
theorem PD.pos {f:FF} (hr:PD f n) (x:Nat->Int):0<=BF n f x x/\(BF n f x x=0↔ ∀i,i<n->x i=0):=by
 have h:=qN hr.1 hr.2 x n 0 rfl;have e:BF n (bk f 0) x x=BF n f x x:=ee (fun i j _ _=>dM f i j) (fun _ _=>rfl) (fun _ _=>rfl);rw[e]at h;exact⟨h.1,fun hz i hi=>h.2 hz i (by omega) hi,fun h0=>kG h0⟩
theorem PD.schwarz {f:FF} (hr:PD f n) (x y:Nat->Int):BF n f x y*BF n f x y<=BF n f x x*BF n f y y:=by
 have hs:=n7 hr.1 x y;obtain⟨h1,h2⟩:=hr.pos y;obtain⟨q,hq⟩: ∃q,q=BF n f x y:=⟨_,rfl⟩;obtain⟨o,ho⟩: ∃o,o=BF n f y y:=⟨_,rfl⟩;obtain⟨N,hN⟩: ∃N,N=BF n f x x:=⟨_,rfl⟩;have hpos:=(hr.pos (fun i=>(0+o*x i)+(-q)*y i)).1;have e:BF n f (fun i=>(0+o*x i)+(-q)*y i) (fun i=>(0+o*x i)+(-q)*y i)=o*(o*N-q*q):=by
  have ez: ∀u,BF n f (fun _=>0) u=0:=fun u=>kG fun _ _=>rfl
  have ez': ∀u,BF n f u (fun _=>0)=0:=fun u=>by rw[n7 hr.1,ez]
  rw[ic f (fun i=>0+o*x i) y,fK f (fun i=>0+o*x i) (fun i=>0+o*x i) y,fK f y (fun i=>0+o*x i) y,
   ic f (fun _=>0) x,ic f (fun _=>0) x,fK f x (fun _=>0) x,fK f y (fun _=>0) x,ez,ez,ez',ez',<- hs,<- hq,<- ho,<- hN]
  grind
 rw[e]at hpos;rw[<- hq,<- ho,<- hN];rw[<- ho]at h1 h2;rcases Int.lt_or_le 0 o with h|h
 ·rcases Int.lt_or_le (o*N-q*q) 0 with hl|hl
  ·have:=Int.mul_neg_of_pos_of_neg h hl;omega
  have e2:N*o=o*N:=Int.mul_comm _ _;omega
 have ho0:o=0:=by omega
 have hy:=h2.1 ho0;have hq0:q=0:=by rw[hq,hs];exact kG hy
 rw[hq0,ho0];simp
/-! The column of cofactors. -/
def eC (i:Nat):Nat->Int:=fun r=>if r=i then 1 else 0
def il (f:FF) (n j:Nat):Nat->Int:=fun i=>dk (cT f j (eC i)) n
theorem OD (S:Nat->Int) (m r:Nat):bP (fun i=>S i*eC i r) m=if r<m then S r else 0:=by
 induction m with
 |zero=>simp[bP]
 |succ m ih=>
  rw[bP,ih];unfold eC;by_cases h:r=m
  ·subst h;simp
  have:r<m+1↔r<m:=by omega
  simp[h,this]
theorem rf {f:FF} {j:Nat} (hj:j<n) (S:Nat->Int): ∀m,dk (cT f j (fun r=>bP (fun i=>S i*eC i r) m)) n=bP (fun i=>S i*il f n j i) m
 |0=>Di hj fun i _=>rfl
 |m+1=>by
  have h:=qn (R:=f) hj 1 (S m) (fun r=>bP (fun i=>S i*eC i r) m) (eC m);rw[rf hj S m]at h;have e:(fun r=>bP (fun i=>S i*eC i r) (m+1))=fun r=>1*bP (fun i=>S i*eC i r) m+S m*eC m r:=by
   funext r;rw[bP,Int.one_mul]
  rw[e,h,bP,Int.one_mul];rfl
theorem K5 {f:FF} {j:Nat} (hj:j<n) (S:Nat->Int):dk (cT f j S) n=bP (fun i=>S i*il f n j i) n:=by
 rw[<- rf hj S n];refine jj fun r c hr _=>?_
 unfold cT;split
 ·show S r=bP (fun i=>S i*eC i r) n;rw[OD,if_pos hr]
 rfl
theorem CU {f:FF} {j k:Nat} (hj:j<n) (hk:k<n):bP (fun i=>f i k*il f n j i) n=if k=j then dk f n else 0:=by
 rw[<- K5 hj fun i=>f i k];split
 ·rename_i h;subst h;rw[ng]
 rename_i h;exact s7 hj hk (Ne.symm h)
theorem wM {f:FF} (hs:SymF f n) {j:Nat} (hj:j<n) (x:Nat->Int):BF n f x (il f n j)=x j*dk f n:=by
 unfold BF;rw[aS n (G:=fun i=>x i*(if i=j then dk f n else 0)) (fun i hi=>by
  rw[<- CU hj hi]
  congr 1
  exact aS n fun l hl=>by rw[hs i hi l hl])]
 rw[gJ hj (fun p _ hne=>by rw[if_neg hne,Int.mul_zero]),if_pos rfl]
def xl (f:FF) (j m:Nat):Nat->Nat->Int:=fun i l=>if l=j then eC j i else if i=j/\l<m then 0 else f i l
theorem A7 {f:FF} {j:Nat} (hj:j<n): ∀m,m<=n->dk (xl f j m) n=il f n j j
 |0,_=>by
  unfold il
  congr 1
  funext i l;unfold xl cT;split
  ·rfl
  rw[if_neg (by omega)]
 |m+1,hm=>by
  rw[<- A7 hj m (by omega)];by_cases h:m=j
  ·congr 1
   funext i l;unfold xl;by_cases hl:l=j
   ·rw[if_pos hl,if_pos hl]
   rw[if_neg hl,if_neg hl];have:(i=j/\l<m+1)↔(i=j/\l<m):=by omega
   simp only[this]
  have h1:=ni (R:=xl f j m) (n:=n) (a:=m) (b:=j) (by omega) hj h (-(xl f j m j m));rw[<- h1]
  congr 1
  funext i l;unfold cT;by_cases hl:l=m
  ·subst hl;rw[if_pos rfl];unfold xl eC;by_cases hi:i=j
   ·subst hi;simp[h]<;>omega
   simp[h,hi]
  rw[if_neg hl];unfold xl;split
  ·rfl
  have:(i=j/\l<m+1)↔(i=j/\l<m):=by omega
  simp only[this]
theorem yK (f:FF) (k:Nat):il f (k+1) k k=dk f k:=by
 rw[<- A7 (by omega) (k+1) (ac _),bY,bk,dz,ns (l6 k) _ (fun c hc=>by
  have:=jT hc;unfold xl;rw[if_neg (by omega),if_pos ⟨rfl,by omega⟩])]
 have e:om (xl f k (k+1)) k (l6 k)=dk f k:=nI fun i hi c hc=>by
  have:=jT hc;unfold xl;rw[if_neg (by omega),if_neg (by omega)]
 rw[e];unfold xl eC
 simp
theorem FD {f:FF} (hs:SymF f n) (hp: ∀x:Nat->Int,(∃i,i<n/\x i≠0)->0<BF n f x x):PD f n:=by
 refine⟨hs,fun k hk=>?_⟩;have go: ∀k,k<=n->0<dk f k:=fun k=>by
  induction k with
  |zero=>intro _;rw[dD];omega
  |succ k ih=>
   intro hk;have h0:=ih (by omega);have hsk:SymF f (k+1):=fun i hi j hj=>hs i (by omega) j (by omega)
   have h1:=wM (n:=k+1) hsk (j:=k) (by omega) (il f (k+1) k);rw[yK]at h1;have h2:=hp (fun i=>if i<k+1 then il f (k+1) k i else 0) ⟨k,by omega,by simp[yK];omega⟩;have e:BF n f (fun i=>if i<k+1 then il f (k+1) k i else 0) (fun i=>if i<k+1 then il f (k+1) k i else 0)=BF (k+1) f (il f (k+1) k) (il f (k+1) k):=by
    have ext: ∀(F:Nat->Int) (m:Nat),bP (fun i=>if i<k+1 then F i else 0) (k+1+m)=bP F (k+1):=fun F m=>by
     induction m with
     |zero=>exact aS _ fun p hp=>if_pos hp
     |succ m ihm=>rw[<- Nat.add_assoc,bP,ihm,if_neg (by omega)];omega
    obtain⟨m,rfl⟩: ∃m,n=k+1+m:=⟨n-(k+1),by omega⟩;unfold BF;rw[<- ext (fun i=>il f (k+1) k i*bP (fun j=>f i j*il f (k+1) k j) (k+1)) m];refine aS _ fun i _=>?_
    show(if i<k+1 then il f (k+1) k i else 0)*bP (fun j=>f i j*(if j<k+1 then il f (k+1) k j else 0)) _=_;by_cases hi:i<k+1
    ·rw[if_pos hi,if_pos hi,<- ext (fun j=>f i j*il f (k+1) k j) m]
     congr 1
     exact aS _ fun j _=>by
      by_cases hj:j<k+1
      ·rw[if_pos hj,if_pos hj]
      rw[if_neg hj,if_neg hj,Int.mul_zero]
    rw[if_neg hi,if_neg hi,Int.zero_mul]
   rw[e,h1]at h2;rcases Int.lt_or_le 0 (dk f (k+1))with h|h
   ·exact h
   have:=Int.mul_nonpos_of_nonneg_of_nonpos (Int.le_of_lt h0) h;omega
 exact go (k+1) (by omega)
theorem By {t:FF} (hd:dk t n≠0) {x:Nat->Int} (h: ∀i,i<n->bP (fun j=>t i j*x j) n=0): ∀j,j<n->x j=0:=fun j hj=>by
 have h1:bP (fun i=>bP (fun l=>t i l*x l) n*il t n j i) n=0:=by
  rw[aS n (G:=fun _=>0) (fun i hi=>by rw[h i hi,Int.zero_mul]),dR]
 have h2:bP (fun i=>bP (fun l=>t i l*x l) n*il t n j i) n=bP (fun l=>bP (fun i=>t i l*x l*il t n j i) n) n:=by
  rw[<- kD];exact aS n fun i _=>by rw[<- mP]
 have h3:bP (fun l=>bP (fun i=>t i l*x l*il t n j i) n) n=bP (fun l=>x l*(if l=j then dk t n else 0)) n:=
  aS n fun l hl=>by
   rw[<- CU hj hl,<- cH];exact aS n fun i _=>by grind
 rw[h2,h3,gJ hj (fun p _ hne=>by rw[if_neg hne,Int.mul_zero]),if_pos rfl]at h1;rcases Int.mul_eq_zero.1 h1 with h|h
 ·exact h
 exact absurd h hd
/-! Bounds. -/
def yk (r:Nat->Int):List Nat->Nat
 |[]=>0
 |c::cs=>(r c).natAbs+yk r cs
theorem zl {r:Nat->Int} {B:Nat}: ∀(cs:List Nat) (F:List Nat->Int),(∀l,l.Sublist cs->(F l).natAbs<=B)->(dz r F cs).natAbs<=yk r cs*B
 |[],_,_=>by simp[dz]
 |c::cs,F,h=>by
  rw[dz,yk,Nat.add_mul];have h1:=Int.natAbs_sub_le (r c*F cs) (dz r (fun l=>F (c::l)) cs);have h2:=zl (r:=r) cs (fun l=>F (c::l)) (fun l hl=>h (c::l) (List.Sublist.cons_cons c hl));rw[Int.natAbs_mul]at h1;have h3:=Nat.mul_le_mul_left (r c).natAbs (h cs (List.sublist_cons_self c cs));omega
theorem L7 {r:Nat->Int} {l m:List Nat} (h:l.Sublist m):yk r l<=yk r m:=by
 induction h with
 |slnil=>exact ac _
 |cons a _ ih=>rw[yk];omega
 |cons_cons a _ ih=>rw[yk,yk];omega
def Nb (R:FF) (cs:List Nat):Nat->Nat
 |0=>1
 |k+1=>yk (R k) cs*Nb R cs k
theorem DN (R:FF) (cs:List Nat): ∀k (l:List Nat),l.Sublist cs->(om R k l).natAbs<=Nb R cs k
 |0,l,_=>by simp[om,Nb]
 |k+1,l,hl=>by
  rw[om,Nb];have h:=zl (r:=R k) (B:=Nb R cs k) l (om R k) (fun m hm=>DN R cs k m (hm.trans hl));exact az h (Nat.mul_le_mul_right _ (L7 hl))
theorem IR {R:FF} {cs:List Nat} {j A:Nat} (hr: ∀i,i<n->i≠j->yk (R i) cs<=A) (h1:yk (R j) cs<=1): ∀k,k<=n->Nb R cs k<=if j<k then A^(k-1)else A^k
 |0,_=>by simp[Nb]
 |k+1,hkn=>by
  have ih:=IR hr h1 k (by omega);rw[Nb];by_cases h:k=j
  ·subst h;rw[if_neg (by omega)]at ih;rw[if_pos (by omega),Nat.add_sub_cancel];exact az (Nat.mul_le_mul h1 ih) (by omega)
  have h2:=hr k (by omega) h;by_cases hk:j<k
  ·rw[if_pos hk]at ih;rw[if_pos (by omega),Nat.add_sub_cancel];obtain⟨m,rfl⟩: ∃m,k=m+1:=⟨k-1,by omega⟩;rw[Nat.add_sub_cancel]at ih;rw[Nat.pow_succ,Nat.mul_comm (A^m)];exact Nat.mul_le_mul h2 ih
  rw[if_neg hk]at ih;rw[if_neg (by omega),Nat.pow_succ,Nat.mul_comm (A^k)];exact Nat.mul_le_mul h2 ih
theorem Ja {r:Nat->Int} {B j:Nat} (h0:r j=0): ∀m,(∀c,c<m->(r c).natAbs<=B)->yk r (l6 m)<=if j<m then(m-1)*B else m*B
 |0,_=>by simp[l6,yk]
 |m+1,h=>by
  have ih:=Ja h0 m (fun c hc=>h c (by omega));rw[l6,yk];by_cases e:m=j
  ·subst e;rw[if_neg (by omega)]at ih;rw[if_pos (by omega),h0,Nat.add_sub_cancel];simpa using ih
  have h2:=h m (by omega);by_cases hk:j<m
  ·rw[if_pos hk]at ih;rw[if_pos (by omega),Nat.add_sub_cancel];have:m*B=(m-1)*B+B:=by
    obtain⟨q,rfl⟩: ∃q,m=q+1:=⟨m-1,by omega⟩;rw[Nat.add_sub_cancel,Nat.add_mul,Nat.one_mul]
   omega
  rw[if_neg hk]at ih;rw[if_neg (by omega),Nat.add_mul,Nat.one_mul];omega
theorem z8 {r:Nat->Int} {j:Nat} (h1:r j=1): ∀m,(∀c,c<m->c≠j->r c=0)->yk r (l6 m)<=if j<m then 1 else 0
 |0,_=>by simp[l6,yk]
 |m+1,h0=>by
  have ih:=z8 h1 m (fun c hc=>h0 c (by omega));rw[l6,yk];by_cases e:m=j
  ·subst e;rw[if_neg (by omega)]at ih;rw[if_pos (by omega),h1];have:(1:Int).natAbs=1:=rfl;omega
  rw[h0 m (by omega) e];by_cases hk:j<m
  ·rw[if_pos hk]at ih;rw[if_pos (by omega)];simpa using ih
  rw[if_neg hk]at ih;rw[if_neg (by omega)];simpa using ih
theorem NE {f:FF} {j B:Nat} (hj:j<n) (hf: ∀a b,a<n->b<n->(f a b).natAbs<=B):(il f n j j).natAbs<=(n*B)^(n-1):=by
 rw[<- A7 hj n (ac _)];have h1:=DN (xl f j n) (l6 n) n (l6 n) (List.Sublist.refl _);have hrow: ∀i,i<n->i≠j->yk (xl f j n i) (l6 n)<=n*B:=fun i hi hij=>by
  have:=Ja (r:=xl f j n i) (B:=B) (j:=j) (by unfold xl eC;simp[hij]) n (fun c hc=>by
   unfold xl eC;split
   ·simp[hij]
   rw[if_neg (fun h=>hij h.1)];exact hf i c hi hc)
  rw[if_pos hj]at this;exact az this (Nat.mul_le_mul_right _ (by omega))
 have hu:=z8 (r:=xl f j n j) (j:=j) (by unfold xl eC;simp) n (fun c hc hne=>by
  unfold xl;rw[if_neg hne,if_pos ⟨rfl,hc⟩])
 rw[if_pos hj]at hu;have h2:=IR (n:=n) hrow hu n (ac _);rw[if_pos hj]at h2;exact az h1 h2
theorem G5 {f:FF} {j B:Nat} (hr:PD f n) (hj:j<n) (hf: ∀a b,a<n->b<n->(f a b).natAbs<=B) (x:Nat->Int) {N:Int} (hN:BF n f x x<=N):x j*x j<=N*((n*B)^(n-1):Nat):=by
 have h1:=hr.schwarz x (il f n j);rw[wM hr.1 hj,wM hr.1 hj]at h1;have hd:=hr.det;have h2:=NE hj hf;have hx0:=(hr.pos x).1;have hy0:=(hr.pos (il f n j)).1;rw[wM hr.1 hj]at hy0;generalize il f n j j=a at*
 generalize dk f n=d at*
 generalize BF n f x x=M at*
 generalize(n*B)^(n-1)=A at*
 have ha:0<=a:=by
  rcases Int.lt_or_le a 0 with h|h
  ·have:=Int.mul_neg_of_neg_of_pos h hd;omega
  exact h
 have e1:x j*d*(x j*d)=(x j*x j*d)*d:=by grind
 have e2:M*(a*d)=(M*a)*d:=by grind
 rw[e1,e2]at h1;have h3:=Int.le_of_mul_le_mul_right h1 hd;have hsq:0<=x j*x j:=by
  rcases Int.le_total 0 (x j)with h|h
  ·exact Int.mul_nonneg h h
  exact Int.mul_nonneg_of_nonpos_of_nonpos h h
 have h4:x j*x j*1<=x j*x j*d:=Int.mul_le_mul_of_nonneg_left hd hsq;have h5:M*a<=N*a:=Int.mul_le_mul_of_nonneg_right hN ha;have h6:N*a<=N*(A:Int):=Int.mul_le_mul_of_nonneg_left (by omega) (by omega);omega
end
def dg (code j:Nat):Int:=((code/3^j%3:Nat):Int)-1
theorem yV (code j:Nat): -1<=dg code j/\dg code j<=1:=by
 have:=Nat.mod_lt (code/3^j) (show 0<3 by omega);unfold dg;omega
def cnd (i code:Nat):Nat->Int:=fun j=>if j<i then dg code j else if j=i then 1 else 0
def nrm (n:Nat) (f:FF) (x:Nat->Int):Int:=BF n f x x
theorem gV {n:Nat} {f:FF} {x y:Nat->Int} (h: ∀i,i<n->x i=y i):nrm n f x=nrm n f y:=ee (fun _ _ _ _=>rfl) h h
theorem jX {n:Nat} {f:FF} {i:Nat} (hi:i<n):nrm n f (eC i)=f i i:=by
 have e: ∀F:Nat->Int,bP (fun j=>F j*eC i j) n=F i:=fun F=>by
  rw[gJ hi (fun p _ hne=>by unfold eC;rw[if_neg hne,Int.mul_zero])];unfold eC;rw[if_pos rfl,Int.mul_one]
 unfold nrm BF;rw[aS n (G:=fun k=>f k i*eC i k) (fun k _=>by rw[e (f k)];exact Int.mul_comm _ _),e fun k=>f k i]
def j1 (n:Nat) (f:FF) (i:Nat):Nat->Nat->Int
 |0=>eC i
 |k+1=>if nrm n f (cnd i k)<nrm n f (j1 n f i k)then cnd i k else j1 n f i k
theorem Jw {n:Nat} {f:FF} {i:Nat} (hi:i<n): ∀k,nrm n f (j1 n f i k)<=f i i/\ ∀c,c<k->nrm n f (j1 n f i k)<=nrm n f (cnd i c)
 |0=>⟨by rw[j1,jX hi];omega,fun c hc=>by omega⟩
 |k+1=>by
  obtain⟨h1,h2⟩:=Jw (f:=f) hi k;by_cases h:nrm n f (cnd i k)<nrm n f (j1 n f i k)
  ·rw[show j1 n f i (k+1)=cnd i k from if_pos h];refine⟨by omega,fun c hc=>?_⟩;by_cases e:c=k
   ·subst e;omega
   have:=h2 c (by omega);omega
  rw[show j1 n f i (k+1)=j1 n f i k from if_neg h];refine⟨h1,fun c hc=>?_⟩;by_cases e:c=k
  ·subst e;omega
  exact h2 c (by omega)
def VioP (n:Nat) (f:FF) (i:Nat):Prop:= ∃c,c<3^i/\nrm n f (cnd i c)<f i i
theorem Aj {n:Nat} {f:FF} {i:Nat} (hi:i<n): ∀k,(∀c,c<k->f i i<=nrm n f (cnd i c))->j1 n f i k=eC i
 |0,_=>rfl
 |k+1,h=>by
  have ih:=Aj hi k fun c hc=>h c (by omega)
  have:=h k (by omega);rw[j1,ih,jX hi,if_neg (by omega)]
theorem Co {n:Nat} {f:FF} {i:Nat} (hi:i<n) (h:VioP n f i):nrm n f (j1 n f i (3^i))<f i i:=by
 obtain⟨c,h1,h2⟩:=h;have:=(Jw (f:=f) hi (3^i)).2 c h1;omega
theorem Mk {n:Nat} {f:FF} {i:Nat} (hi:i<n):(∀j,j<n->j1 n f i (3^i) j=eC i j)↔ ¬VioP n f i:=by
 constructor
 ·intro h hv;have h1:=Co hi hv;rw[gV h,jX hi]at h1;omega
 intro h j _;rw[Aj hi (3^i) fun c hc=>by
  rcases Int.lt_or_le (nrm n f (cnd i c)) (f i i)with hl|hl
  ·exact absurd ⟨c,hc,hl⟩ h
  exact hl]
theorem DZ (n:Nat) (f:FF) (i:Nat): ∀k,j1 n f i k=eC i\/ ∃c,c<k/\j1 n f i k=cnd i c
 |0=> .inl rfl
 |k+1=>by
  rw[j1];split
  ·exact .inr ⟨k,by omega,rfl⟩
  rcases DZ n f i k with h|⟨c,hc,h⟩
  ·exact .inl h
  exact .inr ⟨c,by omega,h⟩
theorem uH (n:Nat) (f:FF) (i k:Nat):j1 n f i k i=1/\(∀j,i<j->j1 n f i k j=0)/\ ∀j,-1<=j1 n f i k j/\j1 n f i k j<=1:=by
 rcases DZ n f i k with h|⟨c,_,h⟩<;>rw[h]
 ·refine⟨by simp[eC],fun j hj=>by unfold eC;rw[if_neg (by omega)],fun j=>by unfold eC;split<;>omega⟩
 refine⟨by simp[cnd],fun j hj=>by unfold cnd;rw[if_neg (by omega),if_neg (by omega)],fun j=>?_⟩;unfold cnd;split
 ·exact yV c j
 split<;>omega
def MinkP (f:FF) (n:Nat):Prop:=(∀i,i+1<n->f i i<=f (i+1) (i+1)/\0<=f i (i+1))/\ ∀i,i<n-> ¬VioP n f i
theorem C8 {d:Nat->Int} (h: ∀j,-1<=d j/\d j<=1): ∀i,∃c,c<3^i/\ ∀j,j<i->dg c j=d j
 |0=>⟨0,by simp,fun j hj=>by omega⟩
 |i+1=>by
  obtain⟨c,h1,h2⟩:=C8 h i;have hd:=h i;refine⟨c+3^i*(d i+1).toNat,?_,fun j hj=>?_⟩
  ·have:(d i+1).toNat<=2:=by omega
   have:=Nat.mul_le_mul_left (3^i) this;rw[Nat.pow_succ];omega
  by_cases e:j=i
  ·subst e;unfold dg;rw[Nat.add_mul_div_left _ _ (Nat.pow_pos (by omega)),Nat.div_eq_of_lt h1,Nat.zero_add,Nat.mod_eq_of_lt (by omega)];omega
  rw[<- h2 j (by omega)];unfold dg
  congr 2
  obtain⟨m,hm⟩: ∃m,i=j+1+m:=⟨i-(j+1),by omega⟩;have e1:3^i*(d i+1).toNat=3^j*(3*(3^m*(d i+1).toNat)):=by
   rw[hm,Nat.pow_add,Nat.pow_succ];simp[Nat.mul_assoc]
  rw[e1,Nat.add_mul_div_left _ _ (Nat.pow_pos (by omega)),Nat.add_mul_mod_self_left]
theorem J8 {n:Nat} {f:FF} {i:Nat} (hi:i<n) {x:Nat->Int} (hb: ∀j,j<i-> -1<=x j/\x j<=1) (h1:x i=1) (h0: ∀j,i<j->j<n->x j=0) (hl:nrm n f x<f i i):VioP n f i:=by
 obtain⟨c,hc,hd⟩:=C8 (d:=fun j=>if j<i then x j else 0) (fun j=>by
  split
  ·rename_i h;exact hb j h
  omega) i
 refine⟨c,hc,?_⟩;rw[gV (y:=x)]
 ·exact hl
 intro j hj;unfold cnd;split
 ·rename_i h;rw[hd j h,if_pos h]
 split
 ·rename_i h;rw[h,h1]
 rw[h0 j (by omega) hj]
def Kk (s:Nat->Int) (f:FF):Nat->Nat->Int:=fun i j=>s i*s j*f i j
theorem LA {n:Nat} {s:Nat->Int} {f:FF} (x:Nat->Int):nrm n (Kk s f) x=nrm n f (fun i=>s i*x i):=by
 unfold nrm BF Kk;refine aS n fun i _=>?_
 rw[<- cH,<- cH];exact aS n fun j _=>by grind
theorem MP {n:Nat} {s:Nat->Int} {f:FF} (hs: ∀i,s i=1\/s i= -1) {i:Nat} (hi:i<n) (h:VioP n (Kk s f) i):VioP n f i:=by
 obtain⟨c,hc,hl⟩:=h;rw[LA]at hl;have hii:Kk s f i i=f i i:=by unfold Kk;rcases hs i with e|e<;>rw[e]<;>omega
 rw[hii]at hl;have hneg: ∀y:Nat->Int,nrm n f (fun j=>s i*y j)=nrm n f y:=fun y=>by
  rcases hs i with e|e
  ·exact gV fun j _=>by simp only[e];omega
  unfold nrm BF;refine aS n fun k _=>?_
  simp only[e];rw[<- cH,<- cH];exact aS n fun j _=>by grind
 rw[<- hneg]at hl;refine J8 hi (x:=fun j=>s i*(s j*cnd i c j)) (fun j hj=>?_) ?_ (fun j hj _=>?_) hl
 ·have:=yV c j;simp only[cnd,if_pos hj];rcases hs i with e|e<;>rcases hs j with e'|e'<;>rw[e,e']<;>omega
 ·simp only[cnd,Nat.lt_irrefl,if_false,if_true];rcases hs i with e|e<;>rw[e]<;>omega
 simp only[cnd];rw[if_neg (by omega),if_neg (by omega)];simp
def a4 (c:Nat->Int):List AV:=[.p (.raw (.int .i64 (c 0))),.p (.raw (.int .i64 (c 1))),.p (.raw (.int .i64 (c 2))),.p (.raw (.int .i64 (c 3)))]
theorem dP (c:Nat->Int):(a4 c).length=4:=rfl
theorem ke (c:Nat->Int):(a4 c).all fd=true:=rfl
theorem qg (c:Nat->Int) (d:Nat):(a4 c).map (dV d)=a4 c:=rfl
theorem fk (c:Nat->Int):(a4 c).all isPure=true:=rfl
theorem gB (c:Nat->Int):(a4 c).take 4=a4 c:=rfl
theorem mc (c:Nat->Int):(a4 c).drop 4=[]:=rfl
theorem wY (c:Nat->Int) {i:Nat} (h:i<4):(a4 c).drop (i*1)= .p (.raw (.int .i64 (c i)))::(a4 c).drop (i+1):=by
 match i,h with
 |0,_=>rfl
 |1,_=>rfl
 |2,_=>rfl
 |3,_=>rfl
def OV (c:Nat->Int) (i:Nat) (v:Int):Nat->Int:=fun j=>if j=i then v else c j
theorem wZ (c:Nat->Int) {i:Nat} (v:Int) (h:i<4):(a4 c).take (i*1)++[.p (.raw (.int .i64 v))]++(a4 c).drop (i*1+1)=a4 (OV c i v):=by
 match i,h with
 |0,_=>rfl
 |1,_=>rfl
 |2,_=>rfl
 |3,_=>rfl
theorem oX {c c':Nat->Int} (h: ∀j,j<4->c j=c' j):a4 c=a4 c':=by
 unfold a4;rw[h 0 (by omega),h 1 (by omega),h 2 (by omega),h 3 (by omega)]
abbrev AE (c:Nat->Int):List OObj:=[⟨62,4,[a4 c]⟩]
abbrev tC (c:Nat->Int):TV:= .agg (a4 c)
structure QE (i code:Nat) where
 j:Nat
 hj:j<=i
def KL (code j:Nat):Nat->Int:=fun l=>if l<j then dg code l else 0
theorem GX (code:Nat):a4 (KL code 0)=a4 (fun _=>0):=oX fun j _=>if_neg (by omega)
theorem GW (code j:Nat):a4 (OV (KL code j) j (dg code j))=a4 (KL code (j+1)):=oX fun l _=>by
 unfold OV KL;by_cases h:l=j
 ·subst h;simp
 by_cases h2:l<j
 ·simp[h,h2,show l<j+1 by omega]
 simp[h,h2,show ¬l<j+1 by omega]
theorem KM (code i:Nat):a4 (OV (KL code i) i 1)=a4 (cnd i code):=oX fun l _=>by
 unfold OV KL cnd;by_cases h:l=i
 ·subst h;simp
 by_cases h2:l<i<;>simp[h,h2]
theorem xE (i code:Nat) (hi:i<4) (hcode:code<1000):CallC Tryz.prog 120 [.raw (.int .i64 (i:Int)),.raw (.int .i64 (code:Int))] ⟨[],tC (cnd i code)⟩:=by
 refine aI Tryz.func120 rfl (by kernel_rfl) ?_;rw[Tryz.ntmps120];refine aD fun _ K=>?_;simp(disch:=omega) only[kd,jD,aa,ae];apply K
 refine aD fun _ K=>?_;simp(disch:=omega) only[kd,jD,aa,ab];apply K
 refine aF (aD fun _ K=>?_);simp only[kd];apply K;refine aX (G:=QE i code) (fun g=>⟨(.raw (.int .i64 (i:Int))::.raw (.int .i64 ((code/3^g.j:Nat):Int))::jk::jk::.one (.ptr 4 0 0 0)::.one (.ptr 5 0 0 0)::jk::rN i::rN g.j::j4 (j4 (j4 (jk::[])))),Hm [(4,AE fun _=>0),(5,AE (KL code g.j))]⟩) (fun g=>i-g.j) ⟨0,by omega⟩ ?_ ?_
 ·rw[Nat.pow_zero,Nat.div_one];refine aE ⟨rfl,?_,trivial⟩ ?_
  ·show _=[_];rw[GX];rfl
  simp[wk]
 rintro⟨j,hj⟩;simp only;by_cases hm:j<i
 ·have hj4:j<4:=by omega
  obtain⟨q,hq⟩: ∃q,q=code/3^j:=⟨_,rfl⟩;have hq3:code/3^(j+1)=q/3:=by rw[Nat.pow_succ,hq,Nat.div_div_eq_div_mul]
  have hdg:dg code j=((q%3:Nat):Int)-1:=by rw[hq];rfl
  have hqle:q<=code:=by rw[hq];exact Nat.div_le_self _ _
  rw[<- hq];have e1:Int.tmod (q:Int) 3=((q%3:Nat):Int):=(Int.ofNat_tmod q 3).symm;have e2:IntKind.i64.wrap (Int.tdiv (q:Int) 3)=((q/3:Nat):Int):=by
   rw[Int.tdiv_eq_ediv_of_nonneg (by omega),IntKind.wrap_i64];omega
  have e3:IntKind.i64.wrap (((q%3:Nat):Int)-1)=dg code j:=by rw[hdg,IntKind.wrap_i64];omega
  have a1:=wZ (KL code j) (dg code j) hj4;rw[GW]at a1;refine aD fun _ K=>?_;simp(disch:=omega) only[kd,jD];apply K
  refine bx rfl ?_;refine aF (aK ?_);refine aD fun _ K=>?_;simp only[kd];apply K
  refine aD fun _ K=>?_;simp(disch:=omega) only[kd,jD,aa,e1,e3,hj4,ab,dP,Nat.reduceLeDiff,a1];apply K
  refine aL fun _ K=>?_;simp(disch:=omega) only[kd,jD,aa,e2];apply K
  show bo _ _ _ _;refine aL fun _ K=>?_;simp(disch:=omega) only[kd,jD,aO];apply K
  refine⟨⟨j+1,by omega⟩,by simp only;omega,aE ⟨rfl,rfl,trivial⟩ ?_⟩;rw[hq3];simp[wk]
 have hji:j=i:=by omega
 subst hji;have a1:=wZ (KL code j) 1 hi;rw[KM]at a1;refine aD fun _ K=>?_;simp(disch:=omega) only[kd,jD];apply K
 refine bG rfl ?_;show bo _ _ _ _;refine aD fun _ K=>?_;simp(disch:=omega) only[kd,jD,aa,hi,ab,dP,Nat.reduceLeDiff,a1];apply K
 refine aD fun _ K=>?_;simp(disch:=omega) only[kd,jD,ab,dP,gB,fk,mc];apply K
 (refine aH ⟨.inr rfl,aJ rfl ?_ rfl⟩;simp(disch:=omega) only[kd,jD,Tryz.results120,ab,dP,gB,tC])
def Lt (f:FF) (c:Nat->Int) (a b:Nat):Int:=f a b*c a*c b
def nS (n:Nat) (f:FF) (c:Nat->Int) (i j:Nat):Int:=bP (fun a=>bP (Lt f c a) n) i+bP (Lt f c i) j
theorem Iq (n:Nat) (f:FF) (c:Nat->Int) (i:Nat):nS n f c i n=nS n f c (i+1) 0:=by
 unfold nS;rw[bP,bP,Int.add_zero]
theorem Ip (n:Nat) (f:FF) (c:Nat->Int):nS n f c n 0=nrm n f c:=by
 unfold nS nrm BF;rw[bP,Int.add_zero];refine aS n fun i _=>?_
 rw[<- cH];exact aS n fun j _=>by unfold Lt;grind
theorem jy {x c B:Int} (hc: -1<=c/\c<=1) (hx: -B<=x/\x<=B): -B<=x*c/\x*c<=B:=by
 have:c= -1\/c=0\/c=1:=by omega
 rcases this with rfl|rfl|rfl
 ·rw[Int.mul_neg,Int.mul_one];omega
 ·rw[Int.mul_zero];omega
 rw[Int.mul_one];exact hx
theorem DK {n:Nat} {f:FF} {c:Nat->Int} {B:Int} (hf: ∀i j,i<n->j<n-> -B<=f i j/\f i j<=B) (hc: ∀j,-1<=c j/\c j<=1) {i j:Nat} (hi:i<n) (hj:j<=n):
  -(((i:Int)+1)*((n:Int)*B))<=nS n f c i j/\nS n f c i j<=((i:Int)+1)*((n:Int)*B):=by
 have hB:0<=B:=by have:=hf i i hi hi;omega
 have ht: ∀a b,a<n->b<n-> -B<=Lt f c a b/\Lt f c a b<=B:=fun a b ha hb=>jy (hc b) (jy (hc a) (hf a b ha hb))
 have h1:=uK (F:=fun a=>bP (Lt f c a) n) (B:=(n:Int)*B) i fun p hp=>uK n fun b hb=>ht p b (by omega) hb
 have h2:=uK (F:=Lt f c i) (B:=B) j fun b hb=>ht i b hi (by omega)
 have h3:(j:Int)*B<=(n:Int)*B:=Int.mul_le_mul_of_nonneg_right (by omega) hB;unfold nS;rw[Int.add_mul,Int.one_mul];omega
theorem DE (n:Nat) (f:FF) (c:Nat->Int) (hn1:1<=n) (hn:n<=4) (hf: ∀i j,i<n->j<n-> -1125899906842624<=f i j/\f i j<=1125899906842624) (hc: ∀j,-1<=c j/\c j<=1):
  CallC Tryz.prog 121 [slI (mat n n f),tC c] ⟨[],.raw (.int .i64 (nrm n f c))⟩:=by
 have hml:=bf n n f;refine aI Tryz.func121 rfl (by kernel_rfl) ?_;rw[Tryz.ntmps121];refine aD fun _ K=>?_;simp(disch:=omega) only[kd,jD,slI,tC,aa,ae,fk,dP];apply K
 refine aD fun _ K=>?_;simp only[kd];apply K
 refine aF (aD fun _ K=>?_);simp only[kd,aa,hml];apply K;refine aX (G:=jA n) (fun g=>⟨(jk::jk::jk::.one (.ptr 3 0 0 0)::jk::.raw (.int .i64 (nS n f c g.i 0))::j4 (slI (mat n n f)::rN n::rN g.i::j16 (j4 (j4 (jk::[]))))),Hm [(3,AE c)]⟩) (fun g=>n-g.i) ⟨0,by omega⟩ ?_ ?_
 ·refine aE ⟨rfl,trivial⟩ ?_;simp[wk,nS,bP]
 rintro⟨i,hi⟩;simp only;by_cases hm:i<n
 ·have hr:=bv n f hm;have hi4:i<4:=by omega
  have hrl:=bs n (f i);refine aD fun _ K=>?_;simp(disch:=omega) only[kd,jD,slI];apply K
  refine bx rfl ?_;refine aF (aK ?_);refine aD fun _ K=>?_;simp(disch:=omega) only[kd,jD,aa,hr,fR];apply K
  refine aD fun _ K=>?_;simp only[kd,aa,hrl];apply K
  refine aX (G:=jA n) (fun g=>⟨(jk::jk::jk::.one (.ptr 3 0 0 0)::jk::.raw (.int .i64 (nS n f c i g.i))::rN i::jk::jk::jk::slI (mat n n f)::rN n::rN i::j4 (.one (.p (.sl (ls fI (bA n (f i)))))::rN n::rN g.i::j16 (jk::jk::[]))),Hm [(3,AE c)]⟩) (fun g=>n-g.i) ⟨0,by omega⟩ ?_ ?_
  ·refine aE ⟨rfl,trivial⟩ ?_;simp[wk]
  rintro⟨j,hj⟩;simp only;by_cases hjn:j<n
  ·have hg:=aT (f i) hjn;have hj4:j<4:=by omega
   have b1:=hf i j hm hjn;have b2:=jy (hc i) b1;have b3:=jy (hc j) b2;have b4:=DK hf hc hm hj;have b5:=DK hf hc hm (j:=j+1) (by omega);have e1:IntKind.i64.wrap (f i j*c i)=f i j*c i:=aO (by omega) (by omega);have e2:IntKind.i64.wrap (f i j*c i*c j)=f i j*c i*c j:=aO (by omega) (by omega);have e4:nS n f c i j+f i j*c i*c j=nS n f c i (j+1):=by
    unfold nS;rw[bP,show Lt f c i j=f i j*c i*c j from rfl,Int.add_assoc]
   have hb:((i:Int)+1)*((n:Int)*1125899906842624)<=18014398509481984:=by
    have:((i:Int)+1)*((n:Int)*1125899906842624)<=4*((n:Int)*1125899906842624):=Int.mul_le_mul_of_nonneg_right (by omega) (by omega);omega
   have e3:IntKind.i64.wrap (nS n f c i (j+1))=nS n f c i (j+1):=aO (by omega) (by omega);have d1:=wY c hi4;have d2:=wY c hj4;refine aD fun _ K=>?_;simp(disch:=omega) only[kd,jD,slI];apply K
   refine bx rfl ?_;refine aF (aK ?_);refine aD fun _ K=>?_;simp(disch:=omega) only[kd,jD,aa,hg];apply K
   refine gP be (by kernel_rfl) fun _ K=>?_;simp(disch:=omega) only[kd,jD,aa,hi4,d1,e1,hj4,d2,e2,e4,e3];apply K
   show bo _ _ _ _;refine aL fun _ K=>?_;simp(disch:=omega) only[kd,jD,aO];apply K
   refine⟨⟨j+1,by omega⟩,by simp only;omega,aE ⟨rfl,trivial⟩ ?_⟩;simp[wk]
  have hjn:j=n:=by omega
  subst hjn;refine aD fun _ K=>?_;simp(disch:=omega) only[kd,jD,slI];apply K
  refine bG rfl ?_;show bo _ _ _ _;refine aL fun _ K=>?_;simp(disch:=omega) only[kd,jD,aO];apply K
  refine⟨⟨i+1,by omega⟩,by simp only;omega,aE ⟨rfl,trivial⟩ ?_⟩;rw[Iq];simp[wk]
 have hin:i=n:=by omega
 subst hin;refine aD fun _ K=>?_;simp(disch:=omega) only[kd,jD,slI];apply K
 refine bG rfl ?_;show bo _ _ _ _;rw[Ip];refine aD fun _ K=>?_;simp only[kd];apply K
 (refine aH ⟨.inr rfl,aJ rfl ?_ rfl⟩;simp(disch:=omega) only[kd,jD,Tryz.results121])
theorem Hh {n:Nat} {f:FF} (hf: ∀i j,i<n->j<n->Sz (f i j) 1024): ∀k,k<n->(∀t,t<k->dk f (t+1)≠0)-> ∃s,s+1<=1025*2^k/\ ∀i j,i<n-k->j<n-k->Sz (elF f k i j) s
 |0,_,_=>⟨1024,by omega,fun i j hi hj=>by
  show Sz (bk f 0 (0+i) (0+j)) 1024;rw[dM,Nat.zero_add,Nat.zero_add];exact hf i j (by omega) (by omega)⟩
 |k+1,hk,nz=>by
  obtain⟨s,h1,h2⟩:=Hh hf k (by omega) (fun t ht=>nz t (by omega));refine⟨2*s+1,by rw[Nat.pow_succ];omega,fun i j hi hj=>?_⟩;rw[<- tf (fun t ht=>nz t (by omega))];exact((((h2 0 0 (by omega) (by omega)).mul (h2 (i+1) (j+1) (by omega) (by omega))).sub ((h2 (i+1) 0 (by omega) (by omega)).mul (h2 0 (j+1) (by omega) (by omega)))).ediv _).mono (by omega)
theorem Mo {n k i:Nat} (f:FF) (h:i<k):(AG n f k)[i]?=some (Hi n f i):=by
 unfold AG;rw[List.getElem?_map,List.getElem?_range h];rfl
structure QL (n:Nat) (f:FF) where
 i:Nat
 hi:i<=n
 ok: ∀a,a<i->0<dk f (a+1)
theorem zK (n:Nat) (f:FF) (hn1:1<=n) (hn:n<=16) (hf: ∀i j,i<n->j<n->Sz (f i j) 1024) (r:Bool) (hr:r=true↔PD f n):CallC Tryz.prog 76 [slM (mat n n f)] ⟨[],.raw (.bool r)⟩:=by
 have hQ:=wq n f hn1 hn;have hS:=Gr n f hn1 hn hf;have hml:=bf n n f;refine aI Tryz.func76 rfl (by kernel_rfl) ?_;rw[Tryz.ntmps76];refine aD fun _ K=>?_;simp only[kd,slM,ae];apply K
 refine aG [⟨1,_,_,_,hQ⟩] [] fun _ K=>?_;simp only[kd,slM,aa];apply K
 refine aF (aD fun _ K=>?_);simp only[kd];apply K;refine aQ rfl (aM ?_);show bo _ _ _ _;refine aF (aD fun _ K=>?_);simp only[kd];apply K;refine aX (G:=Qx n f) (fun g=>⟨(slM (mat n n f)::jk::.raw (.bool false)::j4 (j4 (j4 (jk::jk::rN n::rN g.i::j16 (j16 (j4 (j4 (j4 (jk::[]))))))))),Hm []⟩) (fun g=>n-g.i) ⟨0,by omega,fun a ha=>by omega⟩ ?_ ?_
 ·refine aE trivial ?_;simp[wk]
 rintro⟨i,hi,ok⟩;simp only;by_cases hm:i<n
 ·refine aD fun _ K=>?_;simp(disch:=omega) only[kd,jD,slM];apply K
  refine bx rfl ?_;refine aF (aK ?_);refine aD fun _ K=>?_;simp only[kd];apply K
  refine aD fun _ K=>?_;simp only[kd];apply K
  refine aX (G:=Qy n i f) (fun g=>⟨(slM (mat n n f)::jk::.raw (.bool false)::jk::jk::rN i::j4 (j4 (jk::jk::jk::rN n::rN i::jk::jk::rN i::rN g.j::j16 (j16 (j4 (j4 (jk::[]))))))),Hm []⟩) (fun g=>i-g.j) ⟨0,by omega,fun a ha=>by omega⟩ ?_ ?_
  ·refine aE trivial ?_;simp[wk]
  rintro⟨j,hj,okj⟩;simp only;by_cases hm2:j<i
  ·have a1:=bv n f hm;have a2:=bv n f (show j<n by omega);have a3:=aT (f i) (show j<n by omega);have a4:=aT (f j) hm;have c1:=N4 (f i j) (f j i) ((hf i j hm (by omega)).mono (by omega)) ((hf j i (by omega) hm).mono (by omega));by_cases he:f i j=f j i
   ·rw[he,vL]at c1;rw[he]at a3;refine aD fun _ K=>?_;simp(disch:=omega) only[kd,jD,slM];apply K
    refine bx rfl ?_;refine aF (aK ?_);refine aD fun _ K=>?_;simp only[kd];apply K
    refine bu be [⟨14,_,_,_,c1⟩] [] (by kernel_rfl) fun _ K=>?_;simp(disch:=omega) only[kd,jD,tZ,aa,a1,fR,a3,fZ,a2,a4];apply K
    refine aQ rfl (aM ?_);show bo _ _ _ _;refine aL fun _ K=>?_;simp(disch:=omega) only[kd,jD,aO];apply K
    refine⟨⟨j+1,by omega,fun b hb=>?_⟩,by simp only;omega,aE trivial ?_⟩
    ·by_cases e:b=j
     ·subst e;exact he
     exact okj b (by omega)
    simp[wk]
   have hr0:r=false:=by
    cases r with
    |false=>rfl
    |true=>exact absurd ((hr.1 rfl).1 i hm j (by omega)) he
   subst hr0;have hne:=yR he;refine aD fun _ K=>?_;simp(disch:=omega) only[kd,jD,slM];apply K
   refine bx rfl ?_;refine aF (aK ?_);refine aD fun _ K=>?_;simp only[kd];apply K
   refine bu be [⟨14,_,_,_,c1⟩] [] (by kernel_rfl) fun _ K=>?_;simp(disch:=omega) only[kd,jD,tZ,aa,a1,fR,a3,fZ,a2,a4];apply K
   refine aU rfl ?_;refine aD fun _ K=>?_;simp only[kd];apply K
   (refine aH ⟨.inr rfl,aJ rfl ?_ rfl⟩;simp(disch:=omega) only[kd,jD,Tryz.results76])
  refine aD fun _ K=>?_;simp(disch:=omega) only[kd,jD,slM];apply K
  refine bG rfl ?_;show bo _ _ _ _;refine aL fun _ K=>?_;simp(disch:=omega) only[kd,jD,aO];apply K
  refine⟨⟨i+1,by omega,fun a ha b hb=>?_⟩,by simp only;omega,aE trivial ?_⟩
  ·by_cases e:a=i
   ·subst e;exact okj b (by omega)
   exact ok a (by omega) b hb
  simp[wk]
 have hsym:SymF f n:=fun a ha b hb=>by
  rcases Nat.lt_trichotomy a b with h|h|h
  ·exact(ok b (by omega) a h).symm
  ·rw[h]
  exact ok a (by omega) b h
 refine aD fun _ K=>?_;simp(disch:=omega) only[kd,jD,slM];apply K
 refine bG rfl ?_;show bo _ _ _ _;by_cases hnz:OY n f
 ·rw[Ao hnz]at hS;have hln:=x9 n f n;refine aG [⟨1,_,_,_,hS⟩] [] fun _ K=>?_;simp only[kd,slM,aa];apply K
  refine aF (aD fun _ K=>?_);simp only[kd];apply K;refine aQ rfl (aM ?_);show bo _ _ _ _;refine aF (aD fun _ K=>?_);simp only[kd,aa,hln];apply K;refine aX (G:=QL n f) (fun g=>⟨(jk::jk::.raw (.bool false)::j16 (j16 (j4 (j4 (j4 (jk::jk::jk::.one (.p (.sl (ls fM (AG n f n))))::rN n::rN g.i::j4 (j4 (jk::jk::jk::[])))))))),Hm []⟩) (fun g=>n-g.i) ⟨0,by omega,fun a ha=>by omega⟩ ?_ ?_
  ·refine aE trivial ?_;simp[wk]
  rintro⟨k,hk,okk⟩;simp only;by_cases hkn:k<n
  ·have g1:=Mo (n:=n) (k:=n) f hkn;have q1:=bv (n-k) (elF f k) (show 0<n-k by omega);have q2:=aT (elF f k 0) (show 0<n-k by omega);obtain⟨s,hs1,hs2⟩:=Hh hf k hkn (fun t ht=>hnz t (by omega));have h2k:=kv (k:=k) (by omega);have hSg:=rQ (elF f k 0 0) ((hs2 0 0 (by omega) (by omega)).mono (by omega));rw[mn]at hSg q2;refine aD fun _ K=>?_;simp(disch:=omega) only[kd,jD];apply K
   refine bx rfl ?_;refine aF (aK ?_);refine aD fun _ K=>?_;simp(disch:=omega) only[kd,jD,aa,g1,fM];apply K
   by_cases hp:0<dk f (k+1)
   ·rw[Cl hp]at hSg;refine aG [⟨5,_,_,_,hSg⟩] [] fun _ K=>?_;simp(disch:=omega) only[kd,jD,tZ,aa,Int.reduceToNat,q1,fR,q2,fZ,Int.reduceLE];apply K
    refine aQ rfl (aM ?_);show bo _ _ _ _;refine aL fun _ K=>?_;simp(disch:=omega) only[kd,jD,aO];apply K
    refine⟨⟨k+1,by omega,fun a ha=>?_⟩,by simp only;omega,aE trivial ?_⟩
    ·by_cases e:a=k
     ·subst e;exact hp
     exact okk a (by omega)
    simp[wk]
   have hr0:r=false:=by
    cases r with
    |false=>rfl
    |true=>exact absurd ((hr.1 rfl).2 k hkn) hp
   subst hr0;have hle:=DX hp;refine aG [⟨5,_,_,_,hSg⟩] [] fun _ K=>?_;simp(disch:=omega) only[kd,jD,tZ,aa,Int.reduceToNat,q1,fR,q2,fZ];apply K
   refine aU rfl ?_;refine aD fun _ K=>?_;simp only[kd];apply K
   (refine aH ⟨.inr rfl,aJ rfl ?_ rfl⟩;simp(disch:=omega) only[kd,jD,Tryz.results76])
  have hr1:r=true:=hr.2 ⟨hsym,fun a ha=>okk a (by omega)⟩;subst hr1;refine aD fun _ K=>?_;simp(disch:=omega) only[kd,jD];apply K
  refine bG rfl ?_;show bo _ _ _ _;refine aD fun _ K=>?_;simp only[kd];apply K
  (refine aH ⟨.inr rfl,aJ rfl ?_ rfl⟩;simp(disch:=omega) only[kd,jD,Tryz.results76])
 rw[D5 hnz]at hS;have hr0:r=false:=by
  cases r with
  |false=>rfl
  |true=>exact absurd (fun t ht=>by have:=(hr.1 rfl).2 t (by omega);omega) hnz
 subst hr0;refine aG [⟨1,_,_,_,hS⟩] [] fun _ K=>?_;simp only[kd,slM,aa];apply K
 refine aF (aD fun _ K=>?_);simp only[kd];apply K;refine aU rfl ?_;refine aD fun _ K=>?_;simp only[kd];apply K
 (refine aH ⟨.inr rfl,aJ rfl ?_ rfl⟩;simp(disch:=omega) only[kd,jD,Tryz.results76])
/-! isForm -/
def RwOk (n:Nat) (r:List Int):Prop:=r.length=n/\ ∀x∈r,-1125899906842624<=x/\x<=1125899906842624
def vo (M:List (List Int)):Prop:=(1<=M.length/\M.length<=4)/\(∀r∈M,RwOk M.length r)/\PD (ent M) M.length
structure Qt (M:List (List Int)) where
 i:Nat
 hi:i<=M.length
 ok: ∀a,a<i-> ∀r,M[a]?=some r->RwOk M.length r
structure Qu (r:List Int) where
 j:Nat
 hj:j<=r.length
 ok: ∀b,b<j-> ∀x,r[b]?=some x-> -1125899906842624<=x/\x<=1125899906842624
theorem vo.entB {M:List (List Int)} (h:vo M) {i j:Nat} (hi:i<M.length) (hj:j<M.length): -1125899906842624<=ent M i j/\ent M i j<=1125899906842624:=by
 have hr:=h.2.1 M[i] (List.getElem_mem hi);have e:ent M i j=M[i][j]'(by rw[hr.1];exact hj):=by
  unfold ent;simp[List.getD,hi,hr.1,hj]
 rw[e];exact hr.2 _ (List.getElem_mem _)
theorem GQ {x:Int} (h: -1125899906842624<=x/\x<=1125899906842624):Sz x 1024:=by
 have:Sz x 2:=by unfold Sz;omega
 exact this.mono (by omega)
theorem wA {M:List (List Int)} {i:Nat} {r:List Int} (h:M[i]?=some r):r∈M:=List.mem_of_getElem? h
theorem vY (M:List (List Int)) (r:Bool) (hr:r=true↔vo M):CallC Tryz.prog 35 [slI M] ⟨[],.raw (.bool r)⟩:=by
 by_cases hlen:1<=M.length/\M.length<=4
 ·refine aI Tryz.func35 rfl (by kernel_rfl) ?_;rw[Tryz.ntmps35];refine aD fun _ K=>?_;simp only[kd,slI,ae];apply K
  refine aF (aD fun _ K=>?_);simp(disch:=omega) only[kd,jD,aa];apply K;refine aQ rfl (aM ?_);show bo _ _ _ _;refine aF (aD fun _ K=>?_);simp only[kd,aa];apply K;refine aX (G:=Qt M) (fun g=>⟨(slI M::jk::.raw (.bool false)::j4 (j4 (j4 (jk::jk::slI M::rN M.length::rN g.i::j16 (j4 (j4 (j4 (jk::[])))))))),Hm []⟩) (fun g=>M.length-g.i) ⟨0,by omega,fun a ha=>by omega⟩ ?_ ?_
  ·refine aE trivial ?_;simp[wk]
  rintro⟨i,hi,ok⟩;simp only;by_cases hm:i<M.length
  ·obtain⟨q,hq⟩: ∃q,M[i]?=some q:=⟨M[i],List.getElem?_eq_getElem hm⟩;have hqm:=wA hq;refine aD fun _ K=>?_;simp(disch:=omega) only[kd,jD,slI];apply K
   refine bx rfl ?_;refine aF (aK ?_);refine aD fun _ K=>?_;simp(disch:=omega) only[kd,jD,aa,hq,fR];apply K
   by_cases hql:q.length=M.length
   ·refine aF (aD fun _ K=>?_);simp(disch:=omega) only[kd,jD,aa,hql];apply K;refine aQ rfl (aM ?_);show bo _ _ _ _;refine aD fun _ K=>?_;simp only[kd,aa,hql];apply K
    refine aX (G:=Qu q) (fun g=>⟨(slI M::jk::.raw (.bool false)::jk::.one (.p (.sl (ls fI q)))::j4 (j4 (j4 (slI M::rN M.length::rN i::j4 (j4 (.one (.p (.sl (ls fI q)))::rN M.length::rN g.j::j16 (jk::jk::[]))))))),Hm []⟩) (fun g=>q.length-g.j) ⟨0,by omega,fun a ha=>by omega⟩ ?_ ?_
    ·refine aE trivial ?_;simp[wk]
    rintro⟨j,hj,okj⟩;simp only;by_cases hm2:j<q.length
    ·obtain⟨x,hx⟩: ∃x,q[j]?=some x:=⟨q[j],List.getElem?_eq_getElem hm2⟩;refine aD fun _ K=>?_;simp(disch:=omega) only[kd,jD,slI];apply K
     refine bx rfl ?_;refine aF (aK ?_);refine aD fun _ K=>?_;simp(disch:=omega) only[kd,jD,aa,hx];apply K
     by_cases hlo:x< -1125899906842624
     ·have hr0:r=false:=by
       cases r with
       |false=>rfl
       |true=>have:=((hr.1 rfl).2.1 q hqm).2 x (List.mem_of_getElem? hx);omega
      subst hr0;refine aD fun _ K=>?_;simp(disch:=omega) only[kd,jD,aa,reduceCtorEq];apply K
      refine aU rfl ?_;refine aD fun _ K=>?_;simp only[kd];apply K
      (refine aH ⟨.inr rfl,aJ rfl ?_ rfl⟩;simp(disch:=omega) only[kd,jD,Tryz.results35])
     by_cases hhi:1125899906842624<x
     ·have hr0:r=false:=by
       cases r with
       |false=>rfl
       |true=>have:=((hr.1 rfl).2.1 q hqm).2 x (List.mem_of_getElem? hx);omega
      subst hr0;refine aD fun _ K=>?_;simp(disch:=omega) only[kd,jD,aa];apply K
      refine aU rfl ?_;refine aD fun _ K=>?_;simp only[kd];apply K
      (refine aH ⟨.inr rfl,aJ rfl ?_ rfl⟩;simp(disch:=omega) only[kd,jD,Tryz.results35])
     refine aD fun _ K=>?_;simp(disch:=omega) only[kd,jD,aa];apply K
     refine aQ rfl (aM ?_);show bo _ _ _ _;refine aL fun _ K=>?_;simp(disch:=omega) only[kd,jD,aO];apply K
     refine⟨⟨j+1,by omega,fun b hb y hy=>?_⟩,by simp only;omega,aE trivial ?_⟩
     ·by_cases e:b=j
      ·subst e;rw[hx]at hy;injection hy with hy
       omega
      exact okj b (by omega) y hy
     simp[wk]
    refine aD fun _ K=>?_;simp(disch:=omega) only[kd,jD,slI];apply K
    refine bG rfl ?_;show bo _ _ _ _;refine aL fun _ K=>?_;simp(disch:=omega) only[kd,jD,aO];apply K
    refine⟨⟨i+1,by omega,fun a ha q' hq'=>?_⟩,by simp only;omega,aE trivial ?_⟩
    ·by_cases e:a=i
     ·subst e;rw[hq]at hq';injection hq' with hq'
      subst hq';refine⟨hql,fun x hx=>?_⟩;obtain⟨b,hb⟩:=List.mem_iff_getElem?.1 hx;exact okj b (by have:=(List.getElem?_eq_some_iff.1 hb).1;omega) x hb
     exact ok a (by omega) q' hq'
    simp[wk]
   have hr0:r=false:=by
    cases r with
    |false=>rfl
    |true=>exact absurd ((hr.1 rfl).2.1 q hqm).1 hql
   subst hr0;refine aF (aD fun _ K=>?_);simp(disch:=omega) only[kd,jD,aa];apply K;refine aU rfl ?_;refine aD fun _ K=>?_;simp only[kd];apply K
   (refine aH ⟨.inr rfl,aJ rfl ?_ rfl⟩;simp(disch:=omega) only[kd,jD,Tryz.results35])
  have hall: ∀q∈M,RwOk M.length q:=fun q hq=>by
   obtain⟨a,ha⟩:=List.mem_iff_getElem?.1 hq;exact ok a (by have:=(List.getElem?_eq_some_iff.1 ha).1;omega) q ha
  have eM:=rT (M:=M) (m:=M.length) fun q hq=>(hall q hq).1
  have hb: ∀i j,i<M.length->j<M.length-> -1125899906842624<=ent M i j/\ent M i j<=1125899906842624:=fun i j hi hj=>by
   have hrw:=hall M[i] (List.getElem_mem hi);have e:ent M i j=M[i][j]'(by rw[hrw.1];exact hj):=by
    unfold ent;simp[List.getD,hi,hrw.1,hj]
   rw[e];exact hrw.2 _ (List.getElem_mem _)
  have hF:=zL M.length M.length (ent M) hlen.1 (by omega) hlen.1 (by omega) (fun i j hi hj=>by have:=hb i j hi hj;omega);have hD:=zK M.length (ent M) hlen.1 (by omega) (fun i j hi hj=>GQ (hb i j hi hj)) r ⟨fun h=>(hr.1 h).2.2,fun h=>hr.2 ⟨hlen,hall,h⟩⟩;rw[<- eM]at hF hD;refine aD fun _ K=>?_;simp(disch:=omega) only[kd,jD,slI];apply K
  refine bG rfl ?_;show bo _ _ _ _;refine aG [⟨1,_,_,_,hF⟩] [] fun _ K=>?_;simp only[kd,slI,K8,aa];apply K
  refine aG [⟨1,_,_,_,hD⟩] [] fun _ K=>?_;simp only[kd,slM,aa];apply K
  (refine aH ⟨.inr rfl,aJ rfl ?_ rfl⟩;simp(disch:=omega) only[kd,jD,Tryz.results35])
 have hr0:r=false:=by
  cases r with
  |false=>rfl
  |true=>exact absurd (hr.1 rfl).1 hlen
 subst hr0;by_cases h1:M.length<1
 ·refine aI Tryz.func35 rfl (by kernel_rfl) ?_;rw[Tryz.ntmps35];refine aD fun _ K=>?_;simp only[kd,slI,ae];apply K
  refine aF (aD fun _ K=>?_);simp(disch:=omega) only[kd,jD,aa,reduceCtorEq];apply K;refine aU rfl ?_;refine aD fun _ K=>?_;simp only[kd];apply K
  (refine aH ⟨.inr rfl,aJ rfl ?_ rfl⟩;simp(disch:=omega) only[kd,jD,Tryz.results35])
 refine aI Tryz.func35 rfl (by kernel_rfl) ?_;rw[Tryz.ntmps35];refine aD fun _ K=>?_;simp only[kd,slI,ae];apply K
 refine aF (aD fun _ K=>?_);simp(disch:=omega) only[kd,jD,aa];apply K;refine aU rfl ?_;refine aD fun _ K=>?_;simp only[kd];apply K
 (refine aH ⟨.inr rfl,aJ rfl ?_ rfl⟩;simp(disch:=omega) only[kd,jD,Tryz.results35])
theorem Jc (k:Nat->Nat->Bool) (R:List (List Int)):(R.map jB).map (gD k)=R.map jB:=by
 rw[List.map_map];exact List.map_congr_left fun r _=>by simp[gD,jB,xz]
def O1 (d n c:Nat) (f:FF) (i j:Nat):List OObj:=⟨27,1,gh d (ae i c)++[.sl d (i+1) 0 (j+1)]::ae (n-i-1) oK⟩::((mat i c f).map jB++[jB (bA (j+1) (f i))])
def PS (d n c:Nat) (f:FF) (i:Nat):Nat->List OObj
 |0=>kI d n c i f
 |j+1=>O1 d n c f i j
theorem N3 {d n c i:Nat} (f:FF) (hc:1<=c) (hi:i<n):PS d n c f i c=kI d n c (i+1) f:=by
 obtain⟨j,rfl⟩: ∃j,c=j+1:=⟨c-1,by omega⟩;show O1 d n (j+1) f i j=_;unfold O1 kI;rw[tH,List.replicate_succ' (n:=i),mQ,List.length_replicate];simp[Nat.sub_sub]
theorem Ld {d n c i:Nat} (f:FF) (hi:i<n):kI d n c i f=⟨27,1,gh d (ae i c)++oK::ae (n-i-1) oK⟩::(mat i c f).map jB:=by
 unfold kI;rw[show n-i=n-i-1+1 by omega,List.replicate_succ];rfl
structure P4 (n:Nat) (p:Nat->Prop) where
 i:Nat
 hi:i<=n
 h: ∀a,a<i->p a
theorem xt {l:List (List Int)} {i:Nat} (h:i<l.length):l[i]?=some (l.getD i []):=by
 obtain⟨x,hx⟩:=getElem?_of_lt h;rw[List.getD_eq_getElem?_getD,hx];rfl
def Bv (f:FF) (i j:Nat):Nat->Nat->Int:=fun a b=>if(a<i/\b<i)\/(a=i/\b<j)\/(b=i/\a<j)then f a b else 0
theorem Hs {f:FF} {i j:Nat} {v:Int} (h1:f i j=v) (h2:f j i=v) (a b:Nat):upd (upd (Bv f i j) i j v) j i v a b=Bv f i (j+1) a b:=by
 by_cases c1:a=j/\b=i
 ·obtain⟨rfl,rfl⟩:=c1;rw[yg,<- h2];exact(if_pos (.inr (.inr ⟨rfl,by omega⟩))).symm
 rw[oR (by omega)];by_cases c2:a=i/\b=j
 ·obtain⟨rfl,rfl⟩:=c2;rw[yg,<- h1];exact(if_pos (.inr (.inl ⟨rfl,by omega⟩))).symm
 rw[oR (by omega)];unfold Bv;have:((a<i/\b<i)\/(a=i/\b<j)\/(b=i/\a<j))↔((a<i/\b<i)\/(a=i/\b<j+1)\/(b=i/\a<j+1)):=by omega
 simp only[this]
theorem Lc (f:FF) (i a b:Nat):Bv f i (i+1) a b=Bv f (i+1) 0 a b:=by
 unfold Bv;have:((a<i/\b<i)\/(a=i/\b<i+1)\/(b=i/\a<i+1))↔((a<i+1/\b<i+1)\/(a=i+1/\b<0)\/(b=i+1/\a<0)):=by omega
 simp only[this]
theorem Lb {f:FF} {n a b:Nat} (ha:a<n) (hb:b<n):Bv f n 0 a b=f a b:=if_pos (.inl ⟨ha,hb⟩)
theorem Ht (f:FF) (a b:Nat):Bv f 0 0 a b=0:=if_neg (by omega)
theorem dx (n:Nat) (h t:FF) (a b:Nat):cngF n h t a b=BF n h (fun i=>t i a) (fun j=>t j b):=by
 unfold cngF BF;rw[gG,aS n (G:=fun p=>bP (fun q=>t q a*h q p*t p b) n) (fun p _=>by rw[gG,<- mP];rfl),
  aS n (F:=fun i=>t i a*_) (G:=fun q=>bP (fun p=>t q a*h q p*t p b) n) (fun q _=>by rw[<- cH];exact aS n fun p _=>by grind)]
 exact kD _ _ _
def Pi (M:List (List Int)):Prop:=AC M/\(M.headD []).length=M.length/\M.length<=8/\(dk (ent M) M.length).natAbs=1
theorem Pi.eq {M:List (List Int)} (h:Pi M):M=mat M.length M.length (ent M):=by
 have:=CO h.1;rwa[h.2.1]at this
theorem pj {n c:Nat} (f:FF) {i:Nat} (hi:i<n):(mat n c f).getD i []=bA c (f i):=by
 rw[List.getD_eq_getElem?_getD,bv _ _ hi];rfl
theorem wy {c:Nat} (f:Nat->Int) {j:Nat} (hj:j<c):(bA c f).getD j 0=f j:=by
 rw[List.getD_eq_getElem?_getD,aT _ hj];rfl
section
variable {n:Nat}
def mV (n:Nat) (t:FF) (x:Nat->Int):Nat->Int:=fun i=>bP (fun a=>x a*t i a) n
theorem CK (h t:FF) (x y:Nat->Int): ∀m,BF n h (fun i=>bP (fun a=>x a*t i a) m) y=bP (fun a=>x a*BF n h (fun i=>t i a) y) m
 |0=>kG fun _ _=>rfl
 |m+1=>by
  have h1:=ic (n:=n) h (fun i=>bP (fun a=>x a*t i a) m) (fun i=>t i m) y (x m);rw[CK h t x y m]at h1;exact h1
theorem CL (h t:FF) (x y:Nat->Int): ∀m,BF n h x (fun i=>bP (fun a=>y a*t i a) m)=bP (fun a=>y a*BF n h x (fun i=>t i a)) m
 |0=>by
  show BF n h x (fun _=>0)=0;unfold BF;rw[aS n (G:=fun _=>0) (fun i _=>by rw[aS n (G:=fun _=>0) (fun j _=>Int.mul_zero _),dR,Int.mul_zero]),dR]
 |m+1=>by
  have h1:=fK (n:=n) h x (fun i=>bP (fun a=>y a*t i a) m) (fun i=>t i m) (y m);rw[CL h t x y m]at h1;exact h1
theorem p9 (h t:FF) (x y:Nat->Int):BF n h (mV n t x) (mV n t y)=BF n (cngF n h t) x y:=by
 unfold mV;rw[CK];unfold BF;refine aS n fun a _=>?_
 congr 1
 have h1:=CL (n:=n) h t (fun i=>t i a) y n;unfold BF at h1;rw[h1];refine aS n fun b _=>?_
 have h2:=dx n h t a b;unfold BF at h2;rw[h2,Int.mul_comm]
theorem PD.cng {h t:FF} (hr:PD h n) (hd:dk t n≠0):PD (cngF n h t) n:=by
 refine FD (fun i _ j _=>by rw[dx,dx];exact n7 hr.1 _ _) fun x ⟨i,hi,hx⟩=>?_
 rw[<- p9];obtain⟨h1,h2⟩:=hr.pos (mV n t x);rcases Int.lt_or_le 0 (BF n h (mV n t x) (mV n t x))with hl|hl
 ·exact hl
 exfalso;have h3:=h2.1 (by omega);refine hx (By hd (fun i hi=>?_) i hi);have:=h3 i hi;unfold mV at this;rw[<- this];exact aS n fun j _=>Int.mul_comm _ _
theorem re {t:FF} {i:Nat} (hi:i<n) (c:Nat->Int): ∀m,m<=n->dk (cT t i (fun r=>bP (fun j=>c j*t r j) m)) n=if i<m then c i*dk t n else 0
 |0,_=>by rw[if_neg (by omega)];exact Di hi fun _ _=>rfl
 |m+1,hm=>by
  have h:=qn (R:=t) hi 1 (c m) (fun r=>bP (fun j=>c j*t r j) m) (fun r=>t r m);rw[re hi c m (by omega)]at h;have e:(fun r=>bP (fun j=>c j*t r j) (m+1))=fun r=>1*bP (fun j=>c j*t r j) m+c m*t r m:=by
   funext r;rw[bP,Int.one_mul]
  rw[e,h];by_cases hmi:m=i
  ·subst hmi;rw[ng,if_neg (by omega),if_pos (by omega)];omega
  rw[s7 hi (show m<n by omega) (Ne.symm hmi),Int.mul_zero,Int.add_zero,Int.one_mul];have:i<m+1↔i<m:=by omega
  simp only[this]
theorem Dg {t:FF} {i:Nat} (hi:i<n) (c:Nat->Int):dk (cT t i (mV n t c)) n=c i*dk t n:=by
 have:=re hi c n (ac n) (t:=t);rwa[if_pos hi]at this
theorem yS {h t:FF} {i:Nat} (c:Nat->Int):cngF n h (cT t i (mV n t c)) i i=nrm n (cngF n h t) c:=by
 rw[dx];unfold nrm;rw[<- p9];exact ee (fun _ _ _ _=>rfl) (fun r _=>if_pos rfl) (fun r _=>if_pos rfl)
theorem rc {h t:FF} {i a b:Nat} (S:Nat->Int) (ha:a≠i) (hb:b≠i):cngF n h (cT t i S) a b=cngF n h t a b:=by
 rw[dx,dx];exact ee (fun _ _ _ _=>rfl) (fun r _=>if_neg ha) (fun r _=>if_neg hb)
theorem PD.ent {f:FF} (hr:PD f n) {i j:Nat} (hi:i<n) (hj:j<n):f i j*f i j<=f i i*f j j:=by
 have e: ∀a b,a<n->b<n->BF n f (eC a) (eC b)=f a b:=fun a b ha hb=>by
  have e1: ∀(F:Nat->Int) a,a<n->bP (fun j=>F j*eC a j) n=F a:=fun F a ha=>by
   rw[gJ ha (fun p _ hne=>by unfold eC;rw[if_neg hne,Int.mul_zero])];unfold eC;rw[if_pos rfl,Int.mul_one]
  unfold BF;rw[aS n (G:=fun k=>f k b*eC a k) (fun k _=>by rw[e1 (f k) b hb];exact Int.mul_comm _ _),e1 (fun k=>f k b) a ha]
 have:=hr.schwarz (eC i) (eC j);rwa[e i j hi hj,e i i hi hi,e j j hj hj]at this
theorem PD.diag {f:FF} (hr:PD f n) {i:Nat} (hi:i<n):0<f i i:=by
 have h:=hr.pos (eC i);have e:=jX (f:=f) hi;unfold nrm at e;rw[e]at h;rcases Int.lt_or_le 0 (f i i)with hl|hl
 ·exact hl
 have:=h.2.1 (by omega) i hi;simp[eC]at this
end
section
variable {n:Nat}
def insB (N:(Nat->Int)->Int) (B:FF):Nat->Nat->Nat->Int
 |0=>B
 |j+1=>if N (B (j+1))<N (B j)then insB N (swp (j+1) j B) j else B
theorem Cu {p k:Nat} {B:FF}:swp p k B p=if p=k then B p else B k:=by
 unfold swp;by_cases h:p=k<;>simp[h]
theorem Cv {p k:Nat} {B:FF}:swp p k B k=B p:=by
 unfold swp;by_cases h:k=p
 ·subst h;simp
 simp[h]
theorem qO {p k a:Nat} {B:FF} (h1:a≠p) (h2:a≠k):swp p k B a=B a:=by unfold swp;simp[h1,h2]
theorem pg (N:(Nat->Int)->Int): ∀j B a,j<a->insB N B j a=B a
 |0,_,_,_=>rfl
 |j+1,B,a,h=>by
  rw[insB];split
  ·rw[pg N j _ a (by omega),qO (by omega) (by omega)]
  rfl
theorem tz (N:(Nat->Int)->Int) {Q:(Nat->Int)->Prop}: ∀j B,(∀a,a<=j->Q (B a))-> ∀a,a<=j->Q (insB N B j a)
 |0,_,h,a,ha=>h a ha
 |j+1,B,h,a,ha=>by
  rw[insB];split
  ·by_cases e:a<=j
   ·refine tz N j _ (fun c hc=>?_) a e;by_cases ec:c=j
    ·subst ec;rw[Cv];exact h _ (by omega)
    rw[qO (by omega) ec];exact h c (by omega)
   rw[pg N j _ a (by omega)];obtain rfl:a=j+1:=by omega
   rw[Cu,if_neg (by omega)];exact h j (by omega)
  exact h a ha
def yy (N:(Nat->Int)->Int) (B:FF) (i:Nat):Prop:= ∀a,a+1<i->N (B a)<=N (B (a+1))
theorem yy.le {N:(Nat->Int)->Int} {B:FF} {i:Nat} (h:yy N B i) {b:Nat} (hb:b<i): ∀a,a<=b->N (B a)<=N (B b):=fun a ha=>by
 obtain⟨m,rfl⟩: ∃m,b=a+m:=⟨b-a,by omega⟩
 induction m with
 |zero=>exact Int.le_refl _
 |succ m ih=>
  have:=ih (by omega) (by omega);have h2:=h (a+m) (by omega);rw[<- Nat.add_assoc];omega
theorem zg (N:(Nat->Int)->Int): ∀j B,yy N B j->yy N (insB N B j) (j+1)
 |0,_,_=>fun a ha=>by omega
 |j+1,B,h=>by
  intro a ha;rw[insB];by_cases hl:N (B (j+1))<N (B j)
  ·rw[if_pos hl];have h':yy N (swp (j+1) j B) j:=fun c hc=>by
    rw[qO (by omega) (by omega),qO (by omega) (by omega)];exact h c (by omega)
   by_cases e:a+1<j+1
   ·exact zg N j _ h' a e
   obtain rfl:a=j:=by omega
   rw[pg N a _ (a+1) (by omega),Cu,if_neg (by omega)];refine tz N (Q:=fun x=>N x<=N (B a)) a _ (fun c hc=>?_) a (ac _);by_cases ec:c=a
   ·subst ec;rw[Cv];omega
   rw[qO (by omega) ec];exact h.le (by omega) c hc
  rw[if_neg hl];by_cases e:a+1<j+1
  ·exact h a e
  obtain rfl:a=j:=by omega
  omega
theorem JL {B:FF} {p k:Nat}:trF (swp p k B)=fun i c=>if c=p then trF B i k else if c=k then trF B i p else trF B i c:=by
 funext i c;unfold trF swp;split
 ·rfl
 split<;>rfl
theorem Dt (N:(Nat->Int)->Int): ∀j B,j<n->(dk (trF (insB N B j)) n).natAbs=(dk (trF B) n).natAbs
 |0,_,_=>rfl
 |j+1,B,h=>by
  rw[insB];split
  ·rw[Dt N j _ (by omega),JL,s6 h (by omega) (by omega),Int.natAbs_neg]
  rfl
def AF (N:(Nat->Int)->Int) (B:FF) (n:Nat):Int:=bP (fun a=>N (B a)) n
theorem x7 (F:Nat->Int) {j:Nat}: ∀{m},j+1<m->bP F m=bP (fun a=>if a=j then F (j+1)else if a=j+1 then F j else F a) m
 |m+1,h=>by
  rw[bP,bP];by_cases e:j+1<m
  ·rw[x7 F e,if_neg (by omega),if_neg (by omega)]
  obtain rfl:m=j+1:=by omega
  rw[if_neg (by omega),if_pos rfl,bP,bP,if_pos rfl,aS j (F:=fun a=>if a=j then _ else _) (G:=F) (fun p hp=>by rw[if_neg (by omega),if_neg (by omega)])];omega
theorem zh (N:(Nat->Int)->Int): ∀j B,j<n->AF N (insB N B j) n=AF N B n
 |0,_,_=>rfl
 |j+1,B,h=>by
  rw[insB];split
  ·rw[zh N j _ (by omega)];unfold AF;rw[x7 (fun a=>N (B a)) h];refine aS n fun a _=>?_
   by_cases e1:a=j
   ·subst e1;rw[if_pos rfl,Cv]
   by_cases e2:a=j+1
   ·subst e2;rw[if_neg e1,if_pos rfl,Cu,if_neg (by omega)]
   rw[if_neg e1,if_neg e2,qO e2 e1]
  rfl
def kE (N:(Nat->Int)->Int) (B:FF):Nat->Nat->Nat->Int
 |0=>B
 |i+1=>insB N (kE N B i) i
theorem An (N:(Nat->Int)->Int) (B:FF): ∀i,yy N (kE N B i) i
 |0=>fun a ha=>by omega
 |i+1=>zg N i _ (An N B i)
theorem pS (N:(Nat->Int)->Int) {Q:(Nat->Int)->Prop} {B:FF} (h: ∀a,a<n->Q (B a)): ∀i,i<=n-> ∀a,a<n->Q (kE N B i a)
 |0,_=>h
 |i+1,hi=>fun a ha=>by
  rw[kE];by_cases e:a<=i
  ·exact tz N i _ (fun c hc=>pS N h i (by omega) c (by omega)) a e
  rw[pg N i _ a (by omega)];exact pS N h i (by omega) a ha
theorem D4 (N:(Nat->Int)->Int) (B:FF): ∀i,i<=n->(dk (trF (kE N B i)) n).natAbs=(dk (trF B) n).natAbs
 |0,_=>rfl
 |i+1,hi=>by rw[kE,Dt N i _ (by omega),D4 N B i (by omega)]
theorem uL (N:(Nat->Int)->Int) (B:FF): ∀i,i<=n->AF N (kE N B i) n=AF N B n
 |0,_=>rfl
 |i+1,hi=>by rw[kE,zh N i _ (by omega),uL N B i (by omega)]
end
section
variable {n:Nat}
def gmB (n:Nat) (h B:FF):Nat->Nat->Int:=fun a b=>BF n h (B a) (B b)
theorem nk (h B:FF):gmB n h B=cngF n h (trF B):=by
 funext a b;rw[dx];rfl
open Classical in
noncomputable def vk (n:Nat) (f:FF):Nat->Nat->Option Nat
 |0,_=>none
 |m+1,i=>if VioP n f i then some i else vk n f m (i+1)
noncomputable def vj (n:Nat) (f:FF):Option Nat:=vk n f n 0
theorem jd {f:FF}: ∀m i r,vk n f m i=some r->i<=r/\r<i+m/\VioP n f r/\ ∀a,i<=a->a<r-> ¬VioP n f a
 |0,_,_,h=>by cases h
 |m+1,i,r,h=>by
  rw[vk]at h;split at h
  ·rename_i hv;injection h with h
   subst h;exact⟨ac _,by omega,hv,fun a h1 h2=>by omega⟩
  rename_i hv;obtain⟨h1,h2,h3,h4⟩:=jd m (i+1) r h;refine⟨by omega,by omega,h3,fun a ha hb=>?_⟩;by_cases e:a=i
  ·subst e;exact hv
  exact h4 a (by omega) hb
theorem qS {f:FF}: ∀m i,vk n f m i=none-> ∀a,i<=a->a<i+m-> ¬VioP n f a
 |0,_,_=>fun a h1 h2=>by omega
 |m+1,i,h=>by
  rw[vk]at h;split at h
  ·cases h
  rename_i hv;intro a h1 h2;by_cases e:a=i
  ·subst e;exact hv
  exact qS m (i+1) h a (by omega) (by omega)
def mE (n:Nat) (h B:FF):Nat->Nat->Int:=kE (nrm n h) B n
def ju (n:Nat) (h S:FF) (i:Nat):Nat->Nat->Int:=fun k=>if k=i then mV n (trF S) (j1 n (gmB n h S) i (3^i))else S k
inductive RchB (n:Nat) (h:FF):(Nat->Nat->Int)->(Nat->Nat->Int)->Prop
 |done (B:FF):vj n (gmB n h (mE n h B))=none->RchB n h B (mE n h B)
 |step (B R:FF) (i:Nat):vj n (gmB n h (mE n h B))=some i->RchB n h (ju n h (mE n h B) i) R->RchB n h B R
structure InB2 (n:Nat) (h:FF) (W:Int) (B:FF):Prop where
 nr: ∀a,a<n->nrm n h (B a)<=W
 dt:(dk (trF B) n).natAbs=1
theorem InB2.ord {h B:FF} {W:Int} (hB:InB2 n h W B):InB2 n h W (mE n h B):=
 ⟨pS _ (Q:=fun x=>nrm n h x<=W) hB.nr n (ac n),by unfold mE;rw[D4 _ _ n (ac n)];exact hB.dt⟩
theorem Cq {F G:Nat->Int} {i:Nat}: ∀{m},i<m->(∀a,a<m->a≠i->F a=G a)->F i<G i->bP F m<bP G m
 |m+1,hi,h,hl=>by
  rw[bP,bP];by_cases e:i=m
  ·subst e;rw[aS i fun p hp=>h p (by omega) (by omega)];omega
  have:=Cq (m:=m) (by omega) (fun a ha hne=>h a (by omega) hne) hl;rw[h m (by omega) (Ne.symm e)];omega
theorem ia {F:Nat->Int}: ∀m,(∀a,a<m->0<=F a)->0<=bP F m
 |0,_=>by simp[bP]
 |m+1,h=>by
  have:=ia m fun a ha=>h a (by omega)
  have:=h m (by omega);rw[bP];omega
theorem zY {h S:FF} {i:Nat}:nrm n h (ju n h S i i)=nrm n (gmB n h S) (j1 n (gmB n h S) i (3^i)):=by
 unfold ju;rw[if_pos rfl];unfold nrm;rw[p9,<- nk]
theorem zZ {h S:FF} {i:Nat} (hi:i<n) (hv:VioP n (gmB n h S) i):AF (nrm n h) (ju n h S i) n<AF (nrm n h) S n:=by
 refine Cq hi (fun a _ hne=>?_) ?_
 ·show nrm n h (ju n h S i a)=_;unfold ju;rw[if_neg hne]
 show nrm n h (ju n h S i i)<nrm n h (S i);rw[zY];exact Co hi hv
theorem JK {h S:FF} {i:Nat}:trF (ju n h S i)=cT (trF S) i (mV n (trF S) (j1 n (gmB n h S) i (3^i))):=by
 funext r c;unfold trF ju cT;split<;>rfl
theorem InB2.rep {h S:FF} {W:Int} {i:Nat} (hS:InB2 n h W S) (hi:i<n) (hv:VioP n (gmB n h S) i):InB2 n h W (ju n h S i):=by
 refine⟨fun a ha=>?_,?_⟩
 ·by_cases e:a=i
  ·subst e;rw[zY];have h1:=Co hi hv;have h2:=hS.nr a hi;have h3:gmB n h S a a=nrm n h (S a):=rfl;omega
  unfold ju;rw[if_neg e];exact hS.nr a ha
 rw[JK,Dg hi,(uH n (gmB n h S) i (3^i)).1,Int.one_mul];exact hS.dt
theorem zT {h:FF} (hp:PD h n) {W:Int}: ∀(m:Nat) (B:FF),(AF (nrm n h) B n).toNat=m->InB2 n h W B-> ∃R,RchB n h B R:=fun m=>by
 induction m using Nat.strongRecOn with
 |_ m ih=>
  intro B hm hB;cases hv:vj n (gmB n h (mE n h B))with
  |none=>exact⟨_,.done B hv⟩
  |some i=>
   obtain⟨_,h1,h2,_⟩:=jd n 0 i hv;have hi:i<n:=by omega
   have hO:=hB.ord;have hsum:=zZ hi h2;have hso:AF (nrm n h) (mE n h B) n=AF (nrm n h) B n:=uL _ _ n (ac n);have hnn: ∀B',0<=AF (nrm n h) B' n:=fun B'=>ia n fun a _=>(hp.pos (B' a)).1
   have h3:=hnn (ju n h (mE n h B) i);have h4:=hnn B;obtain⟨R,hR⟩:=ih (AF (nrm n h) (ju n h (mE n h B) i) n).toNat (by omega) _ rfl (hO.rep hi h2);exact⟨R,.step B R i hv hR⟩
theorem pG {h B R:FF} {W:Int} (hr:RchB n h B R) (hB:InB2 n h W B):InB2 n h W R/\yy (nrm n h) R n/\ ∀i,i<n-> ¬VioP n (gmB n h R) i:=by
 induction hr with
 |done B hv=>exact⟨hB.ord,An _ _ n,fun i hi=>qS n 0 hv i (by omega) (by omega)⟩
 |step B R i hv _ ih=>
  obtain⟨_,h1,h2,_⟩:=jd n 0 i hv;exact ih (hB.ord.rep (by omega) h2)
/-! Signs. -/
def lN (g:FF):Nat->Int
 |0=>1
 |i+1=>if lN g i*g i (i+1)<0 then -1 else 1
theorem lO (g:FF): ∀i,lN g i=1\/lN g i= -1
 |0=> .inl rfl
 |i+1=>by rw[lN];split<;>simp
theorem Ov (g:FF) (i:Nat):0<=lN g i*lN g (i+1)*g i (i+1):=by
 have e:lN g i*lN g (i+1)*g i (i+1)=lN g (i+1)*(lN g i*g i (i+1)):=by grind
 rw[e,lN];split
 ·omega
 omega
def rF (g B:FF):Nat->Nat->Int:=fun k j=>lN g k*B k j
theorem Hu (h g B:FF):gmB n h (rF g B)=Kk (lN g) (gmB n h B):=by
 funext a b;unfold gmB rF Kk BF;rw[<- cH];refine aS n fun i _=>?_
 rw[aS n (G:=fun j=>lN g b*(h i j*B b j)) (fun j _=>by grind),cH];grind
theorem Js {g B:FF}: ∀m,m<=n->(dk (trF fun k j=>if k<m then lN g k*B k j else B k j) n).natAbs=(dk (trF B) n).natAbs
 |0,_=>by simp
 |m+1,hm=>by
  rw[<- Js (g:=g) (B:=B) m (by omega)];have h1:=qn (R:=trF fun k j=>if k<m then lN g k*B k j else B k j) (n:=n) (a:=m) (by omega) (lN g m) 0 (fun i=>B m i) (fun i=>B m i);have e1:cT (trF fun k j=>if k<m then lN g k*B k j else B k j) m (fun i=>lN g m*B m i+0*B m i)=trF fun k j=>if k<m+1 then lN g k*B k j else B k j:=by
   funext r c;unfold cT trF;by_cases e:c=m
   ·subst e;rw[if_pos rfl];show lN g c*B c r+0*B c r=if c<c+1 then lN g c*B c r else B c r
    rw[if_pos (by omega)];omega
   have:c<m+1↔c<m:=by omega
   rw[if_neg e];simp only[this]
  have e2:cT (trF fun k j=>if k<m then lN g k*B k j else B k j) m (fun i=>B m i)=trF fun k j=>if k<m then lN g k*B k j else B k j:=by
   funext r c;unfold cT trF;by_cases e:c=m
   ·subst e;rw[if_pos rfl];show B c r=if c<c then lN g c*B c r else B c r
    rw[if_neg (by omega)]
   rw[if_neg e]
  rw[e1,e2]at h1;rw[h1];rcases lO g m with e|e<;>rw[e]<;>simp
theorem tJ {h R:FF} (hs:yy (nrm n h) R n) (hv: ∀i,i<n-> ¬VioP n (gmB n h R) i):MinkP (gmB n h (rF (gmB n h R) R)) n:=by
 rw[Hu];refine⟨fun i hi=>⟨?_,Ov _ _⟩,fun i hi hw=>hv i hi (MP (lO _) hi hw)⟩;have h1:=hs i hi;have e: ∀k,Kk (lN (gmB n h R)) (gmB n h R) k k=nrm n h (R k):=fun k=>by
  unfold Kk gmB nrm;rcases lO (gmB n h R) k with e|e
  ·unfold gmB at e;rw[e];omega
  unfold gmB at e;rw[e];omega
 rw[e,e];exact h1
end
end Go.Proofs.YtfgeomlagfomgaaGreatDoor
