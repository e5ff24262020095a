/-
  Part 21 of a proof (walks and plain facts).
-/
import Derived.Test.YtfgeomlagfomgaaGreatDoorR19
set_option linter.all false
set_option maxRecDepth 100000
set_option maxHeartbeats 64000000
open Nat renaming reduceAdd → aa
open Nat renaming reduceEqDiff → ab
open Nat renaming le_refl → ac
open List renaming replicate → ae
open Nat renaming le_trans → ay
namespace Go.Proofs.YtfgeomlagfomgaaGreatDoor
open Go.RowKit
theorem yu (M:List (List Int)) (hM: ¬xz M):CallC Tryz.prog 75 [slI M] ⟨[],Iw⟩:=by
 have hS:=AU M;rw[fL hM]at hS;unfold Iw;refine aI Tryz.func75 rfl (by kernel_rfl) ?_;rw[Tryz.ntmps75];refine aC fun _ K=>?_;simp(disch:=omega) only[kd,aa,slI,ae];apply K
 refine aF [⟨1,_,_,_,hS⟩] [] fun _ K=>?_;simp only[kd,slI,aa];apply K
 refine aD (aC fun _ K=>?_);simp only[kd];apply K;refine aS rfl ?_;refine aC fun _ K=>?_;simp only[kd];apply K
 (refine aH ⟨.inr rfl,aG rfl ?_ rfl⟩;simp(disch:=omega) only[kd,Tryz.results75])
theorem rR (n c:Nat) (f:FF) (hn1:1<=n) (hn:n<=16) (hc1:1<=c) (hc:c<=16) (hf: ∀i j,i<n->j<c-> -9223372036854775808<=f i j/\f i j<=9223372036854775807):
  CallC Tryz.prog 75 [slI (mat n c f)] ⟨[],yY (mat n c f)⟩:=by
 have hml:=aU n c f;have h0:=gh (M:=mat n c f) (by omega);have h1:=bs (n:=n) c f (i:=0) (by omega);have hhd:(mat n c f).headD []=bz c (f 0):=by rw[h1]at h0;injection h0 with h0;exact h0.symm
 have hsh:xz (mat n c f):=⟨by omega,by omega,fun r hr=>by
  obtain⟨i,_,rfl⟩:=List.mem_map.1 hr;rw[hhd];simp[rOk,bv];omega⟩
 have hS:=AU (mat n c f);rw[fW hsh,hml,hhd,bv]at hS;have hB:=Lr n c f hn1 hn hc1 hc hf;unfold yY;refine aI Tryz.func75 rfl (by kernel_rfl) ?_;rw[Tryz.ntmps75];refine aC fun _ K=>?_;simp(disch:=omega) only[kd,aa,slI,ae];apply K
 refine aF [⟨1,_,_,_,hS⟩] [] fun _ K=>?_;simp only[kd,slI,aa];apply K
 refine aD (aC fun _ K=>?_);simp only[kd];apply K;refine aN rfl (aK ?_);show bf _ _ _ _;refine bf.weak ((px 1 1 (cs:=[.sl (ls (fR fI) (mat n c f))]) rfl rfl).trans (aE (tm:=(jk::.one (oP (mat n c f))::jk::jk::rN n::rN c::j4 (j4 (j4 (jk::[]))))) (l:=[]) trivial (by simp[wk,fD,eG,bi,Hm]))) ?_;refine aF [⟨3,_,_,_,hB⟩] [] fun _ K=>?_;simp only[kd,oP,aa,jU];apply K
 refine bf.weak (aE (tm:=(jk::jk::.one (.sl 18 0 0 n)::.raw (.bool true)::j4 (j4 (j4 (jk::jk::jk::[]))))) (l:=[(18,gK 18 n c f)]) ⟨gu 0 18 n c f,trivial⟩ (by simp[wk])) ?_;refine bf.weak ((bC 18 (jY rfl)).trans (aE (tm:=(jk::jk::slM (mat n c f)::.raw (.bool true)::j4 (j4 (j4 (jk::jk::jk::[]))))) (l:=[]) trivial (by simp[wk];exact⟨(NO (H:=Hm [(18,gK 18 n c f)]) (d:=18) (n:=n) (c:=c) (f:=f) rfl).symm,rfl⟩))) ?_
 (refine aH ⟨.inr rfl,aG rfl ?_ rfl⟩;simp(disch:=omega) only[kd,Tryz.results75,slM])
section
def PD (f:FF) (n:Nat):Prop:=SymF f n/\ ∀k,k<n->0<dk f (k+1)
theorem RedR.pd {f:FF} {n:Nat} (h:RedR f n):PD f n:=⟨h.1,h.2.1⟩
theorem PD.det {f:FF} {n:Nat} (h:PD f n):0<dk f n:=by
 cases n with
 |zero=>rw[dx];omega
 |succ n=>exact h.2 n (by omega)
variable {n:Nat}
theorem se {f:FF} {x y:Nat->Int} (h0: ∀i,i<n->x i=0):BF n f x y=0:=by
 unfold BF;rw[aY n (G:=fun _=>0) (fun i hi=>by rw[h0 i hi,Int.zero_mul]),fg]
theorem PD.pos {f:FF} (hr:PD f n) (x:Nat->Int):0<=BF n f x x/\(BF n f x x=0↔ ∀i,i<n->x i=0):=by
 have h:=ot hr.1 hr.2 x n 0 rfl;have e:BF n (bk f 0) x x=BF n f x x:=ea (fun i j _ _=>dF f i j) (fun _ _=>rfl) (fun _ _=>rfl);rw[e]at h;exact⟨h.1,fun hz i hi=>h.2 hz i (by omega) hi,fun h0=>se h0⟩
theorem PD.schwarz {f:FF} (hr:PD f n) (x y:Nat->Int):BF n f x y*BF n f x y<=BF n f x x*BF n f y y:=by
 have hs:=qA hr.1 x y;obtain⟨h1,h2⟩:=hr.pos y;obtain⟨q,hq⟩: ∃q,q=BF n f x y:=⟨_,rfl⟩;obtain⟨o,ho⟩: ∃o,o=BF n f y y:=⟨_,rfl⟩;obtain⟨N,hN⟩: ∃N,N=BF n f x x:=⟨_,rfl⟩;have hpos:=(hr.pos (fun i=>(0+o*x i)+(-q)*y i)).1;have e:BF n f (fun i=>(0+o*x i)+(-q)*y i) (fun i=>(0+o*x i)+(-q)*y i)=o*(o*N-q*q):=by
  have ez: ∀u,BF n f (fun _=>0) u=0:=fun u=>se fun _ _=>rfl
  have ez': ∀u,BF n f u (fun _=>0)=0:=fun u=>by rw[qA hr.1,ez]
  rw[jR f (fun i=>0+o*x i) y,iw f (fun i=>0+o*x i) (fun i=>0+o*x i) y,iw f y (fun i=>0+o*x i) y,
   jR f (fun _=>0) x,jR f (fun _=>0) x,iw f x (fun _=>0) x,iw f y (fun _=>0) x,ez,ez,ez',ez',<- hs,<- hq,<- ho,<- hN]
  grind
 rw[e]at hpos;rw[<- hq,<- ho,<- hN];rw[<- ho]at h1 h2;rcases Int.lt_or_le 0 o with h|h
 ·rcases Int.lt_or_le (o*N-q*q) 0 with hl|hl
  ·have:=Int.mul_neg_of_pos_of_neg h hl;omega
  have e2:N*o=o*N:=Int.mul_comm _ _;omega
 have ho0:o=0:=by omega
 have hy:=h2.1 ho0;have hq0:q=0:=by rw[hq,hs];exact se hy
 rw[hq0,ho0];simp
/-! The column of cofactors. -/
def eC (i:Nat):Nat->Int:=fun r=>if r=i then 1 else 0
def iJ (f:FF) (n j:Nat):Nat->Int:=fun i=>dk (dz f j (eC i)) n
theorem Pi (S:Nat->Int) (m r:Nat):cK (fun i=>S i*eC i r) m=if r<m then S r else 0:=by
 induction m with
 |zero=>simp[cK]
 |succ m ih=>
  rw[cK,ih];unfold eC;by_cases h:r=m
  ·subst h;simp
  have:r<m+1↔r<m:=by omega
  simp[h,this]
theorem rJ {f:FF} {j:Nat} (hj:j<n) (S:Nat->Int): ∀m,dk (dz f j (fun r=>cK (fun i=>S i*eC i r) m)) n=cK (fun i=>S i*iJ f n j i) m
 |0=>sn hj fun i _=>rfl
 |m+1=>by
  have h:=mF (R:=f) hj 1 (S m) (fun r=>cK (fun i=>S i*eC i r) m) (eC m);rw[rJ hj S m]at h;have e:(fun r=>cK (fun i=>S i*eC i r) (m+1))=fun r=>1*cK (fun i=>S i*eC i r) m+S m*eC m r:=by
   funext r;rw[cK,Int.one_mul]
  rw[e,h,cK,Int.one_mul];rfl
theorem LO {f:FF} {j:Nat} (hj:j<n) (S:Nat->Int):dk (dz f j S) n=cK (fun i=>S i*iJ f n j i) n:=by
 rw[<- rJ hj S n];refine gR fun r c hr _=>?_
 unfold dz;split
 ·show S r=cK (fun i=>S i*eC i r) n;rw[Pi,if_pos hr]
 rfl
theorem Ds {f:FF} {j k:Nat} (hj:j<n) (hk:k<n):cK (fun i=>f i k*iJ f n j i) n=if k=j then dk f n else 0:=by
 rw[<- LO hj fun i=>f i k];split
 ·rename_i h;subst h;rw[kO]
 rename_i h;exact pF hj hk (Ne.symm h)
theorem xr {f:FF} (hs:SymF f n) {j:Nat} (hj:j<n) (x:Nat->Int):BF n f x (iJ f n j)=x j*dk f n:=by
 unfold BF;rw[aY n (G:=fun i=>x i*(if i=j then dk f n else 0)) (fun i hi=>by
  rw[<- Ds hj hi]
  congr 1
  exact aY n fun l hl=>by rw[hs i hi l hl])]
 rw[iD hj (fun p _ hne=>by rw[if_neg hne,Int.mul_zero]),if_pos rfl]
def xT (f:FF) (j m:Nat):Nat->Nat->Int:=fun i l=>if l=j then eC j i else if i=j/\l<m then 0 else f i l
theorem BI {f:FF} {j:Nat} (hj:j<n): ∀m,m<=n->dk (xT f j m) n=iJ f n j j
 |0,_=>by
  unfold iJ
  congr 1
  funext i l;unfold xT dz;split
  ·rfl
  rw[if_neg (by omega)]
 |m+1,hm=>by
  rw[<- BI hj m (by omega)];by_cases h:m=j
  ·congr 1
   funext i l;unfold xT;by_cases hl:l=j
   ·rw[if_pos hl,if_pos hl]
   rw[if_neg hl,if_neg hl];have:(i=j/\l<m+1)↔(i=j/\l<m):=by omega
   simp only[this]
  have h1:=nG (R:=xT f j m) (n:=n) (a:=m) (b:=j) (by omega) hj h (-(xT f j m j m));rw[<- h1]
  congr 1
  funext i l;unfold dz;by_cases hl:l=m
  ·subst hl;rw[if_pos rfl];unfold xT eC;by_cases hi:i=j
   ·subst hi;simp[h]<;>omega
   simp[h,hi]
  rw[if_neg hl];unfold xT;split
  ·rfl
  have:(i=j/\l<m+1)↔(i=j/\l<m):=by omega
  simp only[this]
theorem zz (f:FF) (k:Nat):iJ f (k+1) k k=dk f k:=by
 rw[<- BI (by omega) (k+1) (ac _),bY,bk,dw,nJ (jO k) _ (fun c hc=>by
  have:=ik hc;unfold xT;rw[if_neg (by omega),if_pos ⟨rfl,by omega⟩])]
 have e:om (xT f k (k+1)) k (jO k)=dk f k:=nW fun i hi c hc=>by
  have:=ik hc;unfold xT;rw[if_neg (by omega),if_neg (by omega)]
 rw[e];unfold xT eC
 simp
theorem Gg {f:FF} (hs:SymF f n) (hp: ∀x:Nat->Int,(∃i,i<n/\x i≠0)->0<BF n f x x):PD f n:=by
 refine⟨hs,fun k hk=>?_⟩;have go: ∀k,k<=n->0<dk f k:=fun k=>by
  induction k with
  |zero=>intro _;rw[dx];omega
  |succ k ih=>
   intro hk;have h0:=ih (by omega);have hsk:SymF f (k+1):=fun i hi j hj=>hs i (by omega) j (by omega)
   have h1:=xr (n:=k+1) hsk (j:=k) (by omega) (iJ f (k+1) k);rw[zz]at h1;have h2:=hp (fun i=>if i<k+1 then iJ f (k+1) k i else 0) ⟨k,by omega,by simp[zz];omega⟩;have e:BF n f (fun i=>if i<k+1 then iJ f (k+1) k i else 0) (fun i=>if i<k+1 then iJ f (k+1) k i else 0)=BF (k+1) f (iJ f (k+1) k) (iJ f (k+1) k):=by
    have ext: ∀(F:Nat->Int) (m:Nat),cK (fun i=>if i<k+1 then F i else 0) (k+1+m)=cK F (k+1):=fun F m=>by
     induction m with
     |zero=>exact aY _ fun p hp=>if_pos hp
     |succ m ihm=>rw[<- Nat.add_assoc,cK,ihm,if_neg (by omega)];omega
    obtain⟨m,rfl⟩: ∃m,n=k+1+m:=⟨n-(k+1),by omega⟩;unfold BF;rw[<- ext (fun i=>iJ f (k+1) k i*cK (fun j=>f i j*iJ f (k+1) k j) (k+1)) m];refine aY _ fun i _=>?_
    show(if i<k+1 then iJ f (k+1) k i else 0)*cK (fun j=>f i j*(if j<k+1 then iJ f (k+1) k j else 0)) _=_;by_cases hi:i<k+1
    ·rw[if_pos hi,if_pos hi,<- ext (fun j=>f i j*iJ f (k+1) k j) m]
     congr 1
     exact aY _ fun j _=>by
      by_cases hj:j<k+1
      ·rw[if_pos hj,if_pos hj]
      rw[if_neg hj,if_neg hj,Int.mul_zero]
    rw[if_neg hi,if_neg hi,Int.zero_mul]
   rw[e,h1]at h2;rcases Int.lt_or_le 0 (dk f (k+1))with h|h
   ·exact h
   have:=Int.mul_nonpos_of_nonneg_of_nonpos (Int.le_of_lt h0) h;omega
 exact go (k+1) (by omega)
theorem Cc {t:FF} (hd:dk t n≠0) {x:Nat->Int} (h: ∀i,i<n->cK (fun j=>t i j*x j) n=0): ∀j,j<n->x j=0:=fun j hj=>by
 have h1:cK (fun i=>cK (fun l=>t i l*x l) n*iJ t n j i) n=0:=by
  rw[aY n (G:=fun _=>0) (fun i hi=>by rw[h i hi,Int.zero_mul]),fg]
 have h2:cK (fun i=>cK (fun l=>t i l*x l) n*iJ t n j i) n=cK (fun l=>cK (fun i=>t i l*x l*iJ t n j i) n) n:=by
  rw[<- qm];exact aY n fun i _=>by rw[<- vq]
 have h3:cK (fun l=>cK (fun i=>t i l*x l*iJ t n j i) n) n=cK (fun l=>x l*(if l=j then dk t n else 0)) n:=
  aY n fun l hl=>by
   rw[<- Ds hj hl,<- eF];exact aY n fun i _=>by grind
 rw[h2,h3,iD hj (fun p _ hne=>by rw[if_neg hne,Int.mul_zero]),if_pos rfl]at h1;rcases Int.mul_eq_zero.1 h1 with h|h
 ·exact h
 exact absurd h hd
/-! Bounds. -/
def y6 (r:Nat->Int):List Nat->Nat
 |[]=>0
 |c::cs=>(r c).natAbs+y6 r cs
theorem Ac {r:Nat->Int} {B:Nat}: ∀(cs:List Nat) (F:List Nat->Int),(∀l,l.Sublist cs->(F l).natAbs<=B)->(dw r F cs).natAbs<=y6 r cs*B
 |[],_,_=>by simp[dw]
 |c::cs,F,h=>by
  rw[dw,y6,Nat.add_mul];have h1:=Int.natAbs_sub_le (r c*F cs) (dw r (fun l=>F (c::l)) cs);have h2:=Ac (r:=r) cs (fun l=>F (c::l)) (fun l hl=>h (c::l) (List.Sublist.cons_cons c hl));rw[Int.natAbs_mul]at h1;have h3:=Nat.mul_le_mul_left (r c).natAbs (h cs (List.sublist_cons_self c cs));omega
theorem MO {r:Nat->Int} {l m:List Nat} (h:l.Sublist m):y6 r l<=y6 r m:=by
 induction h with
 |slnil=>exact ac _
 |cons a _ ih=>rw[y6];omega
 |cons_cons a _ ih=>rw[y6,y6];omega
def NU (R:FF) (cs:List Nat):Nat->Nat
 |0=>1
 |k+1=>y6 (R k) cs*NU R cs k
theorem Eo (R:FF) (cs:List Nat): ∀k (l:List Nat),l.Sublist cs->(om R k l).natAbs<=NU R cs k
 |0,l,_=>by simp[om,NU]
 |k+1,l,hl=>by
  rw[om,NU];have h:=Ac (r:=R k) (B:=NU R cs k) l (om R k) (fun m hm=>Eo R cs k m (hm.trans hl));exact ay h (Nat.mul_le_mul_right _ (MO hl))
theorem JD {R:FF} {cs:List Nat} {j A:Nat} (hr: ∀i,i<n->i≠j->y6 (R i) cs<=A) (h1:y6 (R j) cs<=1): ∀k,k<=n->NU R cs k<=if j<k then A^(k-1)else A^k
 |0,_=>by simp[NU]
 |k+1,hkn=>by
  have ih:=JD hr h1 k (by omega);rw[NU];by_cases h:k=j
  ·subst h;rw[if_neg (by omega)]at ih;rw[if_pos (by omega),Nat.add_sub_cancel];exact ay (Nat.mul_le_mul h1 ih) (by omega)
  have h2:=hr k (by omega) h;by_cases hk:j<k
  ·rw[if_pos hk]at ih;rw[if_pos (by omega),Nat.add_sub_cancel];obtain⟨m,rfl⟩: ∃m,k=m+1:=⟨k-1,by omega⟩;rw[Nat.add_sub_cancel]at ih;rw[Nat.pow_succ,Nat.mul_comm (A^m)];exact Nat.mul_le_mul h2 ih
  rw[if_neg hk]at ih;rw[if_neg (by omega),Nat.pow_succ,Nat.mul_comm (A^k)];exact Nat.mul_le_mul h2 ih
theorem JZ {r:Nat->Int} {B j:Nat} (h0:r j=0): ∀m,(∀c,c<m->(r c).natAbs<=B)->y6 r (jO m)<=if j<m then(m-1)*B else m*B
 |0,_=>by simp[jO,y6]
 |m+1,h=>by
  have ih:=JZ h0 m (fun c hc=>h c (by omega));rw[jO,y6];by_cases e:m=j
  ·subst e;rw[if_neg (by omega)]at ih;rw[if_pos (by omega),h0,Nat.add_sub_cancel];simpa using ih
  have h2:=h m (by omega);by_cases hk:j<m
  ·rw[if_pos hk]at ih;rw[if_pos (by omega),Nat.add_sub_cancel];have:m*B=(m-1)*B+B:=by
    obtain⟨q,rfl⟩: ∃q,m=q+1:=⟨m-1,by omega⟩;rw[Nat.add_sub_cancel,Nat.add_mul,Nat.one_mul]
   omega
  rw[if_neg hk]at ih;rw[if_neg (by omega),Nat.add_mul,Nat.one_mul];omega
theorem AI {r:Nat->Int} {j:Nat} (h1:r j=1): ∀m,(∀c,c<m->c≠j->r c=0)->y6 r (jO m)<=if j<m then 1 else 0
 |0,_=>by simp[jO,y6]
 |m+1,h0=>by
  have ih:=AI h1 m (fun c hc=>h0 c (by omega));rw[jO,y6];by_cases e:m=j
  ·subst e;rw[if_neg (by omega)]at ih;rw[if_pos (by omega),h1];have:(1:Int).natAbs=1:=rfl;omega
  rw[h0 m (by omega) e];by_cases hk:j<m
  ·rw[if_pos hk]at ih;rw[if_pos (by omega)];simpa using ih
  rw[if_neg hk]at ih;rw[if_neg (by omega)];simpa using ih
theorem Oi {f:FF} {j B:Nat} (hj:j<n) (hf: ∀a b,a<n->b<n->(f a b).natAbs<=B):(iJ f n j j).natAbs<=(n*B)^(n-1):=by
 rw[<- BI hj n (ac _)];have h1:=Eo (xT f j n) (jO n) n (jO n) (List.Sublist.refl _);have hrow: ∀i,i<n->i≠j->y6 (xT f j n i) (jO n)<=n*B:=fun i hi hij=>by
  have:=JZ (r:=xT f j n i) (B:=B) (j:=j) (by unfold xT eC;simp[hij]) n (fun c hc=>by
   unfold xT eC;split
   ·simp[hij]
   rw[if_neg (fun h=>hij h.1)];exact hf i c hi hc)
  rw[if_pos hj]at this;exact ay this (Nat.mul_le_mul_right _ (by omega))
 have hu:=AI (r:=xT f j n j) (j:=j) (by unfold xT eC;simp) n (fun c hc hne=>by
  unfold xT;rw[if_neg hne,if_pos ⟨rfl,hc⟩])
 rw[if_pos hj]at hu;have h2:=JD (n:=n) hrow hu n (ac _);rw[if_pos hj]at h2;exact ay h1 h2
theorem Id {f:FF} {j B:Nat} (hr:PD f n) (hj:j<n) (hf: ∀a b,a<n->b<n->(f a b).natAbs<=B) (x:Nat->Int) {N:Int} (hN:BF n f x x<=N):x j*x j<=N*((n*B)^(n-1):Nat):=by
 have h1:=hr.schwarz x (iJ f n j);rw[xr hr.1 hj,xr hr.1 hj]at h1;have hd:=hr.det;have h2:=Oi hj hf;have hx0:=(hr.pos x).1;have hy0:=(hr.pos (iJ f n j)).1;rw[xr hr.1 hj]at hy0;generalize iJ f n j j=a at*
 generalize dk f n=d at*
 generalize BF n f x x=M at*
 generalize(n*B)^(n-1)=A at*
 have ha:0<=a:=by
  rcases Int.lt_or_le a 0 with h|h
  ·have:=Int.mul_neg_of_neg_of_pos h hd;omega
  exact h
 have e1:x j*d*(x j*d)=(x j*x j*d)*d:=by grind
 have e2:M*(a*d)=(M*a)*d:=by grind
 rw[e1,e2]at h1;have h3:=Int.le_of_mul_le_mul_right h1 hd;have hsq:0<=x j*x j:=by
  rcases Int.le_total 0 (x j)with h|h
  ·exact Int.mul_nonneg h h
  exact Int.mul_nonneg_of_nonpos_of_nonpos h h
 have h4:x j*x j*1<=x j*x j*d:=Int.mul_le_mul_of_nonneg_left hd hsq;have h5:M*a<=N*a:=Int.mul_le_mul_of_nonneg_right hN ha;have h6:N*a<=N*(A:Int):=Int.mul_le_mul_of_nonneg_left (by omega) (by omega);omega
end
def dg (code j:Nat):Int:=((code/3^j%3:Nat):Int)-1
theorem DO (code j:Nat): -1<=dg code j/\dg code j<=1:=by
 have:=Nat.mod_lt (code/3^j) (show 0<3 by omega);unfold dg;omega
def cnd (i code:Nat):Nat->Int:=fun j=>if j<i then dg code j else if j=i then 1 else 0
def nrm (n:Nat) (f:FF) (x:Nat->Int):Int:=BF n f x x
theorem F4 {n:Nat} {f:FF} {x y:Nat->Int} (h: ∀i,i<n->x i=y i):nrm n f x=nrm n f y:=ea (fun _ _ _ _=>rfl) h h
theorem ux {n:Nat} {f:FF} {i:Nat} (hi:i<n):nrm n f (eC i)=f i i:=by
 have e: ∀F:Nat->Int,cK (fun j=>F j*eC i j) n=F i:=fun F=>by
  rw[iD hi (fun p _ hne=>by unfold eC;rw[if_neg hne,Int.mul_zero])];unfold eC;rw[if_pos rfl,Int.mul_one]
 unfold nrm BF;rw[aY n (G:=fun k=>f k i*eC i k) (fun k _=>by rw[e (f k)];exact Int.mul_comm _ _),e fun k=>f k i]
def lf (n:Nat) (f:FF) (i:Nat):Nat->Nat->Int
 |0=>eC i
 |k+1=>if nrm n f (cnd i k)<nrm n f (lf n f i k)then cnd i k else lf n f i k
theorem Kf {n:Nat} {f:FF} {i:Nat} (hi:i<n): ∀k,nrm n f (lf n f i k)<=f i i/\ ∀c,c<k->nrm n f (lf n f i k)<=nrm n f (cnd i c)
 |0=>⟨by rw[lf,ux hi];omega,fun c hc=>by omega⟩
 |k+1=>by
  obtain⟨h1,h2⟩:=Kf (f:=f) hi k;by_cases h:nrm n f (cnd i k)<nrm n f (lf n f i k)
  ·rw[show lf n f i (k+1)=cnd i k from if_pos h];refine⟨by omega,fun c hc=>?_⟩;by_cases e:c=k
   ·subst e;omega
   have:=h2 c (by omega);omega
  rw[show lf n f i (k+1)=lf n f i k from if_neg h];refine⟨h1,fun c hc=>?_⟩;by_cases e:c=k
  ·subst e;omega
  exact h2 c (by omega)
def VioP (n:Nat) (f:FF) (i:Nat):Prop:= ∃c,c<3^i/\nrm n f (cnd i c)<f i i
theorem AT {n:Nat} {f:FF} {i:Nat} (hi:i<n): ∀k,(∀c,c<k->f i i<=nrm n f (cnd i c))->lf n f i k=eC i
 |0,_=>rfl
 |k+1,h=>by
  have ih:=AT hi k fun c hc=>h c (by omega)
  have:=h k (by omega);rw[lf,ih,ux hi,if_neg (by omega)]
theorem Kg {n:Nat} {f:FF} {i:Nat} (hi:i<n) (h:VioP n f i):nrm n f (lf n f i (3^i))<f i i:=by
 obtain⟨c,h1,h2⟩:=h;have:=(Kf (f:=f) hi (3^i)).2 c h1;omega
theorem M1 {n:Nat} {f:FF} {i:Nat} (hi:i<n):(∀j,j<n->lf n f i (3^i) j=eC i j)↔ ¬VioP n f i:=by
 constructor
 ·intro h hv;have h1:=Kg hi hv;rw[F4 h,ux hi]at h1;omega
 intro h j _;rw[AT hi (3^i) fun c hc=>by
  rcases Int.lt_or_le (nrm n f (cnd i c)) (f i i)with hl|hl
  ·exact absurd ⟨c,hc,hl⟩ h
  exact hl]
theorem ED (n:Nat) (f:FF) (i:Nat): ∀k,lf n f i k=eC i\/ ∃c,c<k/\lf n f i k=cnd i c
 |0=> .inl rfl
 |k+1=>by
  rw[lf];split
  ·exact .inr ⟨k,by omega,rfl⟩
  rcases ED n f i k with h|⟨c,hc,h⟩
  ·exact .inl h
  exact .inr ⟨c,by omega,h⟩
theorem CX (n:Nat) (f:FF) (i k:Nat):lf n f i k i=1/\(∀j,i<j->lf n f i k j=0)/\ ∀j,-1<=lf n f i k j/\lf n f i k j<=1:=by
 rcases ED n f i k with h|⟨c,_,h⟩<;>rw[h]
 ·refine⟨by simp[eC],fun j hj=>by unfold eC;rw[if_neg (by omega)],fun j=>by unfold eC;split<;>omega⟩
 refine⟨by simp[cnd],fun j hj=>by unfold cnd;rw[if_neg (by omega),if_neg (by omega)],fun j=>?_⟩;unfold cnd;split
 ·exact DO c j
 split<;>omega
def MinkP (f:FF) (n:Nat):Prop:=(∀i,i+1<n->f i i<=f (i+1) (i+1)/\0<=f i (i+1))/\ ∀i,i<n-> ¬VioP n f i
def Re (s:Nat->Int) (f:FF):Nat->Nat->Int:=fun i j=>s i*s j*f i j
def a4 (c:Nat->Int):List AV:=[.p (.raw (.int .i64 (c 0))),.p (.raw (.int .i64 (c 1))),.p (.raw (.int .i64 (c 2))),.p (.raw (.int .i64 (c 3)))]
theorem eu (c:Nat->Int):(a4 c).length=4:=rfl
theorem my (c:Nat->Int):(a4 c).all gy=true:=rfl
theorem tf (c:Nat->Int) (d:Nat):(a4 c).map (fd d)=a4 c:=rfl
theorem gp (c:Nat->Int):(a4 c).all isPure=true:=rfl
theorem gP (c:Nat->Int):(a4 c).take 4=a4 c:=rfl
theorem mw (c:Nat->Int):(a4 c).drop 4=[]:=rfl
theorem Dq (c:Nat->Int) {i:Nat} (h:i<4):(a4 c).drop (i*1)= .p (.raw (.int .i64 (c i)))::(a4 c).drop (i+1):=by
 match i,h with
 |0,_=>rfl
 |1,_=>rfl
 |2,_=>rfl
 |3,_=>rfl
def PB (c:Nat->Int) (i:Nat) (v:Int):Nat->Int:=fun j=>if j=i then v else c j
theorem xE (c:Nat->Int) {i:Nat} (v:Int) (h:i<4):(a4 c).take (i*1)++[.p (.raw (.int .i64 v))]++(a4 c).drop (i*1+1)=a4 (PB c i v):=by
 match i,h with
 |0,_=>rfl
 |1,_=>rfl
 |2,_=>rfl
 |3,_=>rfl
theorem pz {c c':Nat->Int} (h: ∀j,j<4->c j=c' j):a4 c=a4 c':=by
 unfold a4;rw[h 0 (by omega),h 1 (by omega),h 2 (by omega),h 3 (by omega)]
abbrev Fd (c:Nat->Int):List OObj:=[⟨62,4,[a4 c]⟩]
abbrev tC (c:Nat->Int):TV:= .agg (a4 c)
structure Rw (i code:Nat) where
 j:Nat
 hj:j<=i
def Lv (code j:Nat):Nat->Int:=fun l=>if l<j then dg code l else 0
theorem H5 (code:Nat):a4 (Lv code 0)=a4 (fun _=>0):=pz fun j _=>if_neg (by omega)
theorem H4 (code j:Nat):a4 (PB (Lv code j) j (dg code j))=a4 (Lv code (j+1)):=pz fun l _=>by
 unfold PB Lv;by_cases h:l=j
 ·subst h;simp
 by_cases h2:l<j
 ·simp[h,h2,show l<j+1 by omega]
 simp[h,h2,show ¬l<j+1 by omega]
theorem Lw (code i:Nat):a4 (PB (Lv code i) i 1)=a4 (cnd i code):=pz fun l _=>by
 unfold PB Lv cnd;by_cases h:l=i
 ·subst h;simp
 by_cases h2:l<i<;>simp[h,h2]
theorem yf (i code:Nat) (hi:i<4) (hcode:code<1000):CallC Tryz.prog 120 [.raw (.int .i64 (i:Int)),.raw (.int .i64 (code:Int))] ⟨[],tC (cnd i code)⟩:=by
 refine aI Tryz.func120 rfl (by kernel_rfl) ?_;rw[Tryz.ntmps120];refine aC fun _ K=>?_;simp(disch:=omega) only[kd,aa,ae];apply K
 refine aC fun _ K=>?_;simp(disch:=omega) only[kd,aa,ab];apply K
 refine aD (aC fun _ K=>?_);simp only[kd];apply K;refine aT (G:=Rw i code) (fun g=>⟨(.raw (.int .i64 (i:Int))::.raw (.int .i64 ((code/3^g.j:Nat):Int))::jk::jk::.one (.ptr 4 0 0 0)::.one (.ptr 5 0 0 0)::jk::rN i::rN g.j::j4 (j4 (j4 (jk::[])))),Hm [(4,Fd fun _=>0),(5,Fd (Lv code g.j))]⟩) (fun g=>i-g.j) ⟨0,by omega⟩ ?_ ?_
 ·rw[Nat.pow_zero,Nat.div_one];refine aE ⟨rfl,?_,trivial⟩ ?_
  ·show _=[_];rw[H5];rfl
  simp[wk]
 rintro⟨j,hj⟩;simp only;by_cases hm:j<i
 ·have hj4:j<4:=by omega
  obtain⟨q,hq⟩: ∃q,q=code/3^j:=⟨_,rfl⟩;have hq3:code/3^(j+1)=q/3:=by rw[Nat.pow_succ,hq,Nat.div_div_eq_div_mul]
  have hdg:dg code j=((q%3:Nat):Int)-1:=by rw[hq];rfl
  have hqle:q<=code:=by rw[hq];exact Nat.div_le_self _ _
  rw[<- hq];have e1:Int.tmod (q:Int) 3=((q%3:Nat):Int):=(Int.ofNat_tmod q 3).symm;have e2:IntKind.i64.wrap (Int.tdiv (q:Int) 3)=((q/3:Nat):Int):=by
   rw[Int.tdiv_eq_ediv_of_nonneg (by omega),IntKind.wrap_i64];omega
  have e3:IntKind.i64.wrap (((q%3:Nat):Int)-1)=dg code j:=by rw[hdg,IntKind.wrap_i64];omega
  have a1:=xE (Lv code j) (dg code j) hj4;rw[H4]at a1;refine aC fun _ K=>?_;simp(disch:=omega) only[kd];apply K
  refine bu rfl ?_;refine aD (aJ ?_);refine aC fun _ K=>?_;simp only[kd];apply K
  refine aC fun _ K=>?_;simp(disch:=omega) only[kd,aa,e1,e3,hj4,ab,eu,Nat.reduceLeDiff,a1];apply K
  refine aL fun _ K=>?_;simp(disch:=omega) only[kd,aa,e2];apply K
  show bf _ _ _ _;refine aL fun _ K=>?_;simp(disch:=omega) only[kd,aO];apply K
  refine⟨⟨j+1,by omega⟩,by simp only;omega,aE ⟨rfl,rfl,trivial⟩ ?_⟩;rw[hq3];simp[wk]
 have hji:j=i:=by omega
 subst hji;have a1:=xE (Lv code j) 1 hi;rw[Lw]at a1;refine aC fun _ K=>?_;simp(disch:=omega) only[kd];apply K
 refine bD rfl ?_;show bf _ _ _ _;refine aC fun _ K=>?_;simp(disch:=omega) only[kd,aa,hi,ab,eu,Nat.reduceLeDiff,a1];apply K
 refine aC fun _ K=>?_;simp(disch:=omega) only[kd,ab,eu,gP,gp,mw];apply K
 (refine aH ⟨.inr rfl,aG rfl ?_ rfl⟩;simp(disch:=omega) only[kd,Tryz.results120,ab,eu,gP,tC])
def Md (f:FF) (c:Nat->Int) (a b:Nat):Int:=f a b*c a*c b
def nS (n:Nat) (f:FF) (c:Nat->Int) (i j:Nat):Int:=cK (fun a=>cK (Md f c a) n) i+cK (Md f c i) j
theorem I5 (n:Nat) (f:FF) (c:Nat->Int) (i:Nat):nS n f c i n=nS n f c (i+1) 0:=by
 unfold nS;rw[cK,cK,Int.add_zero]
theorem I4 (n:Nat) (f:FF) (c:Nat->Int):nS n f c n 0=nrm n f c:=by
 unfold nS nrm BF;rw[cK,Int.add_zero];refine aY n fun i _=>?_
 rw[<- eF];exact aY n fun j _=>by unfold Md;grind
theorem jL {x c B:Int} (hc: -1<=c/\c<=1) (hx: -B<=x/\x<=B): -B<=x*c/\x*c<=B:=by
 have:c= -1\/c=0\/c=1:=by omega
 rcases this with rfl|rfl|rfl
 ·rw[Int.mul_neg,Int.mul_one];omega
 ·rw[Int.mul_zero];omega
 rw[Int.mul_one];exact hx
theorem Ej {n:Nat} {f:FF} {c:Nat->Int} {B:Int} (hf: ∀i j,i<n->j<n-> -B<=f i j/\f i j<=B) (hc: ∀j,-1<=c j/\c j<=1) {i j:Nat} (hi:i<n) (hj:j<=n):
  -(((i:Int)+1)*((n:Int)*B))<=nS n f c i j/\nS n f c i j<=((i:Int)+1)*((n:Int)*B):=by
 have hB:0<=B:=by have:=hf i i hi hi;omega
 have ht: ∀a b,a<n->b<n-> -B<=Md f c a b/\Md f c a b<=B:=fun a b ha hb=>jL (hc b) (jL (hc a) (hf a b ha hb))
 have h1:=vp (F:=fun a=>cK (Md f c a) n) (B:=(n:Int)*B) i fun p hp=>vp n fun b hb=>ht p b (by omega) hb
 have h2:=vp (F:=Md f c i) (B:=B) j fun b hb=>ht i b hi (by omega)
 have h3:(j:Int)*B<=(n:Int)*B:=Int.mul_le_mul_of_nonneg_right (by omega) hB;unfold nS;rw[Int.add_mul,Int.one_mul];omega
theorem Ed (n:Nat) (f:FF) (c:Nat->Int) (hn1:1<=n) (hn:n<=4) (hf: ∀i j,i<n->j<n-> -1125899906842624<=f i j/\f i j<=1125899906842624) (hc: ∀j,-1<=c j/\c j<=1):
  CallC Tryz.prog 121 [slI (mat n n f),tC c] ⟨[],.raw (.int .i64 (nrm n f c))⟩:=by
 have hml:=aU n n f;refine aI Tryz.func121 rfl (by kernel_rfl) ?_;rw[Tryz.ntmps121];refine aC fun _ K=>?_;simp(disch:=omega) only[kd,slI,tC,aa,ae,gp,eu];apply K
 refine aC fun _ K=>?_;simp only[kd];apply K
 refine aD (aC fun _ K=>?_);simp only[kd,aa,hml];apply K;refine aT (G:=jP n) (fun g=>⟨(jk::jk::jk::.one (.ptr 3 0 0 0)::jk::.raw (.int .i64 (nS n f c g.i 0))::j4 (slI (mat n n f)::rN n::rN g.i::j16 (j4 (j4 (jk::[]))))),Hm [(3,Fd c)]⟩) (fun g=>n-g.i) ⟨0,by omega⟩ ?_ ?_
 ·refine aE ⟨rfl,trivial⟩ ?_;simp[wk,nS,cK]
 rintro⟨i,hi⟩;simp only;by_cases hm:i<n
 ·have hr:=bs n f hm;have hi4:i<4:=by omega
  have hrl:=bv n (f i);refine aC fun _ K=>?_;simp(disch:=omega) only[kd,slI];apply K
  refine bu rfl ?_;refine aD (aJ ?_);refine aC fun _ K=>?_;simp(disch:=omega) only[kd,aa,hr,fR];apply K
  refine aC fun _ K=>?_;simp only[kd,aa,hrl];apply K
  refine aT (G:=jP n) (fun g=>⟨(jk::jk::jk::.one (.ptr 3 0 0 0)::jk::.raw (.int .i64 (nS n f c i g.i))::rN i::jk::jk::jk::slI (mat n n f)::rN n::rN i::j4 (.one (.p (.sl (ls fI (bz n (f i)))))::rN n::rN g.i::j16 (jk::jk::[]))),Hm [(3,Fd c)]⟩) (fun g=>n-g.i) ⟨0,by omega⟩ ?_ ?_
  ·refine aE ⟨rfl,trivial⟩ ?_;simp[wk]
  rintro⟨j,hj⟩;simp only;by_cases hjn:j<n
  ·have hg:=aR (f i) hjn;have hj4:j<4:=by omega
   have b1:=hf i j hm hjn;have b2:=jL (hc i) b1;have b3:=jL (hc j) b2;have b4:=Ej hf hc hm hj;have b5:=Ej hf hc hm (j:=j+1) (by omega);have e1:IntKind.i64.wrap (f i j*c i)=f i j*c i:=aO (by omega) (by omega);have e2:IntKind.i64.wrap (f i j*c i*c j)=f i j*c i*c j:=aO (by omega) (by omega);have e4:nS n f c i j+f i j*c i*c j=nS n f c i (j+1):=by
    unfold nS;rw[cK,show Md f c i j=f i j*c i*c j from rfl,Int.add_assoc]
   have hb:((i:Int)+1)*((n:Int)*1125899906842624)<=18014398509481984:=by
    have:((i:Int)+1)*((n:Int)*1125899906842624)<=4*((n:Int)*1125899906842624):=Int.mul_le_mul_of_nonneg_right (by omega) (by omega);omega
   have e3:IntKind.i64.wrap (nS n f c i (j+1))=nS n f c i (j+1):=aO (by omega) (by omega);have d1:=Dq c hi4;have d2:=Dq c hj4;refine aC fun _ K=>?_;simp(disch:=omega) only[kd,slI];apply K
   refine bu rfl ?_;refine aD (aJ ?_);refine aC fun _ K=>?_;simp(disch:=omega) only[kd,aa,hg];apply K
   refine fH aW (by kernel_rfl) fun _ K=>?_;simp(disch:=omega) only[kd,aa,hi4,d1,e1,hj4,d2,e2,e4,e3];apply K
   show bf _ _ _ _;refine aL fun _ K=>?_;simp(disch:=omega) only[kd,aO];apply K
   refine⟨⟨j+1,by omega⟩,by simp only;omega,aE ⟨rfl,trivial⟩ ?_⟩;simp[wk]
  have hjn:j=n:=by omega
  subst hjn;refine aC fun _ K=>?_;simp(disch:=omega) only[kd,slI];apply K
  refine bD rfl ?_;show bf _ _ _ _;refine aL fun _ K=>?_;simp(disch:=omega) only[kd,aO];apply K
  refine⟨⟨i+1,by omega⟩,by simp only;omega,aE ⟨rfl,trivial⟩ ?_⟩;rw[I5];simp[wk]
 have hin:i=n:=by omega
 subst hin;refine aC fun _ K=>?_;simp(disch:=omega) only[kd,slI];apply K
 refine bD rfl ?_;show bf _ _ _ _;rw[I4];refine aC fun _ K=>?_;simp only[kd];apply K
 (refine aH ⟨.inr rfl,aG rfl ?_ rfl⟩;simp(disch:=omega) only[kd,Tryz.results121])
theorem Io {n:Nat} {f:FF} (hf: ∀i j,i<n->j<n->Sz (f i j) 1024): ∀k,k<n->(∀t,t<k->dk f (t+1)≠0)-> ∃s,s+1<=1025*2^k/\ ∀i j,i<n-k->j<n-k->Sz (elF f k i j) s
 |0,_,_=>⟨1024,by omega,fun i j hi hj=>by
  show Sz (bk f 0 (0+i) (0+j)) 1024;rw[dF,Nat.zero_add,Nat.zero_add];exact hf i j (by omega) (by omega)⟩
 |k+1,hk,nz=>by
  obtain⟨s,h1,h2⟩:=Io hf k (by omega) (fun t ht=>nz t (by omega));refine⟨2*s+1,by rw[Nat.pow_succ];omega,fun i j hi hj=>?_⟩;rw[<- tP (fun t ht=>nz t (by omega))];exact((((h2 0 0 (by omega) (by omega)).mul (h2 (i+1) (j+1) (by omega) (by omega))).sub ((h2 (i+1) 0 (by omega) (by omega)).mul (h2 0 (j+1) (by omega) (by omega)))).ediv _).mono (by omega)
theorem M6 {n k i:Nat} (f:FF) (h:i<k):(Bk n f k)[i]?=some (Ip n f i):=by
 unfold Bk;rw[List.getElem?_map,List.getElem?_range h];rfl
structure RI (n:Nat) (f:FF) where
 i:Nat
 hi:i<=n
 ok: ∀a,a<i->0<dk f (a+1)
theorem Ax (n:Nat) (f:FF) (hn1:1<=n) (hn:n<=16) (hf: ∀i j,i<n->j<n->Sz (f i j) 1024) (r:Bool) (hr:r=true↔PD f n):CallC Tryz.prog 76 [slM (mat n n f)] ⟨[],.raw (.bool r)⟩:=by
 have hQ:=w5 n f hn1 hn;have hS:=G9 n f hn1 hn hf;have hml:=aU n n f;refine aI Tryz.func76 rfl (by kernel_rfl) ?_;rw[Tryz.ntmps76];refine aC fun _ K=>?_;simp only[kd,slM,ae];apply K
 refine aF [⟨1,_,_,_,hQ⟩] [] fun _ K=>?_;simp only[kd,slM,aa];apply K
 refine aD (aC fun _ K=>?_);simp only[kd];apply K;refine aN rfl (aK ?_);show bf _ _ _ _;refine aD (aC fun _ K=>?_);simp only[kd];apply K;refine aT (G:=Rl n f) (fun g=>⟨(slM (mat n n f)::jk::.raw (.bool false)::j4 (j4 (j4 (jk::jk::rN n::rN g.i::j16 (j16 (j4 (j4 (j4 (jk::[]))))))))),Hm []⟩) (fun g=>n-g.i) ⟨0,by omega,fun a ha=>by omega⟩ ?_ ?_
 ·refine aE trivial ?_;simp[wk]
 rintro⟨i,hi,ok⟩;simp only;by_cases hm:i<n
 ·refine aC fun _ K=>?_;simp(disch:=omega) only[kd,slM];apply K
  refine bu rfl ?_;refine aD (aJ ?_);refine aC fun _ K=>?_;simp only[kd];apply K
  refine aC fun _ K=>?_;simp only[kd];apply K
  refine aT (G:=Rn n i f) (fun g=>⟨(slM (mat n n f)::jk::.raw (.bool false)::jk::jk::rN i::j4 (j4 (jk::jk::jk::rN n::rN i::jk::jk::rN i::rN g.j::j16 (j16 (j4 (j4 (jk::[]))))))),Hm []⟩) (fun g=>i-g.j) ⟨0,by omega,fun a ha=>by omega⟩ ?_ ?_
  ·refine aE trivial ?_;simp[wk]
  rintro⟨j,hj,okj⟩;simp only;by_cases hm2:j<i
  ·have a1:=bs n f hm;have a2:=bs n f (show j<n by omega);have a3:=aR (f i) (show j<n by omega);have a4:=aR (f j) hm;have c1:=ON (f i j) (f j i) ((hf i j hm (by omega)).mono (by omega)) ((hf j i (by omega) hm).mono (by omega));by_cases he:f i j=f j i
   ·rw[he,qO]at c1;rw[he]at a3;refine aC fun _ K=>?_;simp(disch:=omega) only[kd,slM];apply K
    refine bu rfl ?_;refine aD (aJ ?_);refine aC fun _ K=>?_;simp only[kd];apply K
    refine bo aW [⟨14,_,_,_,c1⟩] [] (by kernel_rfl) fun _ K=>?_;simp(disch:=omega) only[kd,tZ,aa,a1,fR,a3,fZ,a2,a4];apply K
    refine aN rfl (aK ?_);show bf _ _ _ _;refine aL fun _ K=>?_;simp(disch:=omega) only[kd,aO];apply K
    refine⟨⟨j+1,by omega,fun b hb=>?_⟩,by simp only;omega,aE trivial ?_⟩
    ·by_cases e:b=j
     ·subst e;exact he
     exact okj b (by omega)
    simp[wk]
   have hr0:r=false:=by
    cases r with
    |false=>rfl
    |true=>exact absurd ((hr.1 rfl).1 i hm j (by omega)) he
   subst hr0;have hne:=tE he;refine aC fun _ K=>?_;simp(disch:=omega) only[kd,slM];apply K
   refine bu rfl ?_;refine aD (aJ ?_);refine aC fun _ K=>?_;simp only[kd];apply K
   refine bo aW [⟨14,_,_,_,c1⟩] [] (by kernel_rfl) fun _ K=>?_;simp(disch:=omega) only[kd,tZ,aa,a1,fR,a3,fZ,a2,a4];apply K
   refine aS rfl ?_;refine aC fun _ K=>?_;simp only[kd];apply K
   (refine aH ⟨.inr rfl,aG rfl ?_ rfl⟩;simp(disch:=omega) only[kd,Tryz.results76])
  refine aC fun _ K=>?_;simp(disch:=omega) only[kd,slM];apply K
  refine bD rfl ?_;show bf _ _ _ _;refine aL fun _ K=>?_;simp(disch:=omega) only[kd,aO];apply K
  refine⟨⟨i+1,by omega,fun a ha b hb=>?_⟩,by simp only;omega,aE trivial ?_⟩
  ·by_cases e:a=i
   ·subst e;exact okj b (by omega)
   exact ok a (by omega) b hb
  simp[wk]
 have hsym:SymF f n:=fun a ha b hb=>by
  rcases Nat.lt_trichotomy a b with h|h|h
  ·exact(ok b (by omega) a h).symm
  ·rw[h]
  exact ok a (by omega) b h
 refine aC fun _ K=>?_;simp(disch:=omega) only[kd,slM];apply K
 refine bD rfl ?_;show bf _ _ _ _;by_cases hnz:PI n f
 ·rw[AZ hnz]at hS;have hln:=yN n f n;refine aF [⟨1,_,_,_,hS⟩] [] fun _ K=>?_;simp only[kd,slM,aa];apply K
  refine aD (aC fun _ K=>?_);simp only[kd];apply K;refine aN rfl (aK ?_);show bf _ _ _ _;refine aD (aC fun _ K=>?_);simp only[kd,aa,hln];apply K;refine aT (G:=RI n f) (fun g=>⟨(jk::jk::.raw (.bool false)::j16 (j16 (j4 (j4 (j4 (jk::jk::jk::.one (.p (.sl (ls fM (Bk n f n))))::rN n::rN g.i::j4 (j4 (jk::jk::jk::[])))))))),Hm []⟩) (fun g=>n-g.i) ⟨0,by omega,fun a ha=>by omega⟩ ?_ ?_
  ·refine aE trivial ?_;simp[wk]
  rintro⟨k,hk,okk⟩;simp only;by_cases hkn:k<n
  ·have g1:=M6 (n:=n) (k:=n) f hkn;have q1:=bs (n-k) (elF f k) (show 0<n-k by omega);have q2:=aR (elF f k 0) (show 0<n-k by omega);obtain⟨s,hs1,hs2⟩:=Io hf k hkn (fun t ht=>hnz t (by omega));have h2k:=ip (k:=k) (by omega);have hSg:=pL (elF f k 0 0) ((hs2 0 0 (by omega) (by omega)).mono (by omega));rw[mG]at hSg q2;refine aC fun _ K=>?_;simp(disch:=omega) only[kd];apply K
   refine bu rfl ?_;refine aD (aJ ?_);refine aC fun _ K=>?_;simp(disch:=omega) only[kd,aa,g1,fM];apply K
   by_cases hp:0<dk f (k+1)
   ·rw[CU hp]at hSg;refine aF [⟨5,_,_,_,hSg⟩] [] fun _ K=>?_;simp(disch:=omega) only[kd,tZ,aa,Int.reduceToNat,q1,fR,q2,fZ,Int.reduceLE];apply K
    refine aN rfl (aK ?_);show bf _ _ _ _;refine aL fun _ K=>?_;simp(disch:=omega) only[kd,aO];apply K
    refine⟨⟨k+1,by omega,fun a ha=>?_⟩,by simp only;omega,aE trivial ?_⟩
    ·by_cases e:a=k
     ·subst e;exact hp
     exact okk a (by omega)
    simp[wk]
   have hr0:r=false:=by
    cases r with
    |false=>rfl
    |true=>exact absurd ((hr.1 rfl).2 k hkn) hp
   subst hr0;have hle:=EB hp;refine aF [⟨5,_,_,_,hSg⟩] [] fun _ K=>?_;simp(disch:=omega) only[kd,tZ,aa,Int.reduceToNat,q1,fR,q2,fZ];apply K
   refine aS rfl ?_;refine aC fun _ K=>?_;simp only[kd];apply K
   (refine aH ⟨.inr rfl,aG rfl ?_ rfl⟩;simp(disch:=omega) only[kd,Tryz.results76])
  have hr1:r=true:=hr.2 ⟨hsym,fun a ha=>okk a (by omega)⟩;subst hr1;refine aC fun _ K=>?_;simp(disch:=omega) only[kd];apply K
  refine bD rfl ?_;show bf _ _ _ _;refine aC fun _ K=>?_;simp only[kd];apply K
  (refine aH ⟨.inr rfl,aG rfl ?_ rfl⟩;simp(disch:=omega) only[kd,Tryz.results76])
 rw[EI hnz]at hS;have hr0:r=false:=by
  cases r with
  |false=>rfl
  |true=>exact absurd (fun t ht=>by have:=(hr.1 rfl).2 t (by omega);omega) hnz
 subst hr0;refine aF [⟨1,_,_,_,hS⟩] [] fun _ K=>?_;simp only[kd,slM,aa];apply K
 refine aD (aC fun _ K=>?_);simp only[kd];apply K;refine aS rfl ?_;refine aC fun _ K=>?_;simp only[kd];apply K
 (refine aH ⟨.inr rfl,aG rfl ?_ rfl⟩;simp(disch:=omega) only[kd,Tryz.results76])
/-! isForm -/
def RwOk (n:Nat) (r:List Int):Prop:=r.length=n/\ ∀x∈r,-1125899906842624<=x/\x<=1125899906842624
def v7 (M:List (List Int)):Prop:=(1<=M.length/\M.length<=4)/\(∀r∈M,RwOk M.length r)/\PD (ent M) M.length
structure Rh (M:List (List Int)) where
 i:Nat
 hi:i<=M.length
 ok: ∀a,a<i-> ∀r,M[a]?=some r->RwOk M.length r
structure Ri (r:List Int) where
 j:Nat
 hj:j<=r.length
 ok: ∀b,b<j-> ∀x,r[b]?=some x-> -1125899906842624<=x/\x<=1125899906842624
theorem v7.entB {M:List (List Int)} (h:v7 M) {i j:Nat} (hi:i<M.length) (hj:j<M.length): -1125899906842624<=ent M i j/\ent M i j<=1125899906842624:=by
 have hr:=h.2.1 M[i] (List.getElem_mem hi);have e:ent M i j=M[i][j]'(by rw[hr.1];exact hj):=by
  unfold ent;simp[List.getD,hi,hr.1,hj]
 rw[e];exact hr.2 _ (List.getElem_mem _)
theorem Hz {x:Int} (h: -1125899906842624<=x/\x<=1125899906842624):Sz x 1024:=by
 have:Sz x 2:=by unfold Sz;omega
 exact this.mono (by omega)
theorem xb {M:List (List Int)} {i:Nat} {r:List Int} (h:M[i]?=some r):r∈M:=List.mem_of_getElem? h
theorem wN (M:List (List Int)) (r:Bool) (hr:r=true↔v7 M):CallC Tryz.prog 35 [slI M] ⟨[],.raw (.bool r)⟩:=by
 by_cases hlen:1<=M.length/\M.length<=4
 ·refine aI Tryz.func35 rfl (by kernel_rfl) ?_;rw[Tryz.ntmps35];refine aC fun _ K=>?_;simp only[kd,slI,ae];apply K
  refine aD (aC fun _ K=>?_);simp(disch:=omega) only[kd,aa];apply K;refine aN rfl (aK ?_);show bf _ _ _ _;refine aD (aC fun _ K=>?_);simp only[kd,aa];apply K;refine aT (G:=Rh M) (fun g=>⟨(slI M::jk::.raw (.bool false)::j4 (j4 (j4 (jk::jk::slI M::rN M.length::rN g.i::j16 (j4 (j4 (j4 (jk::[])))))))),Hm []⟩) (fun g=>M.length-g.i) ⟨0,by omega,fun a ha=>by omega⟩ ?_ ?_
  ·refine aE trivial ?_;simp[wk]
  rintro⟨i,hi,ok⟩;simp only;by_cases hm:i<M.length
  ·obtain⟨q,hq⟩: ∃q,M[i]?=some q:=⟨M[i],List.getElem?_eq_getElem hm⟩;have hqm:=xb hq;refine aC fun _ K=>?_;simp(disch:=omega) only[kd,slI];apply K
   refine bu rfl ?_;refine aD (aJ ?_);refine aC fun _ K=>?_;simp(disch:=omega) only[kd,aa,hq,fR];apply K
   by_cases hql:q.length=M.length
   ·refine aD (aC fun _ K=>?_);simp(disch:=omega) only[kd,aa,hql];apply K;refine aN rfl (aK ?_);show bf _ _ _ _;refine aC fun _ K=>?_;simp only[kd,aa,hql];apply K
    refine aT (G:=Ri q) (fun g=>⟨(slI M::jk::.raw (.bool false)::jk::.one (.p (.sl (ls fI q)))::j4 (j4 (j4 (slI M::rN M.length::rN i::j4 (j4 (.one (.p (.sl (ls fI q)))::rN M.length::rN g.j::j16 (jk::jk::[]))))))),Hm []⟩) (fun g=>q.length-g.j) ⟨0,by omega,fun a ha=>by omega⟩ ?_ ?_
    ·refine aE trivial ?_;simp[wk]
    rintro⟨j,hj,okj⟩;simp only;by_cases hm2:j<q.length
    ·obtain⟨x,hx⟩: ∃x,q[j]?=some x:=⟨q[j],List.getElem?_eq_getElem hm2⟩;refine aC fun _ K=>?_;simp(disch:=omega) only[kd,slI];apply K
     refine bu rfl ?_;refine aD (aJ ?_);refine aC fun _ K=>?_;simp(disch:=omega) only[kd,aa,hx];apply K
     by_cases hlo:x< -1125899906842624
     ·have hr0:r=false:=by
       cases r with
       |false=>rfl
       |true=>have:=((hr.1 rfl).2.1 q hqm).2 x (List.mem_of_getElem? hx);omega
      subst hr0;refine aC fun _ K=>?_;simp(disch:=omega) only[kd,aa,reduceCtorEq];apply K
      refine aS rfl ?_;refine aC fun _ K=>?_;simp only[kd];apply K
      (refine aH ⟨.inr rfl,aG rfl ?_ rfl⟩;simp(disch:=omega) only[kd,Tryz.results35])
     by_cases hhi:1125899906842624<x
     ·have hr0:r=false:=by
       cases r with
       |false=>rfl
       |true=>have:=((hr.1 rfl).2.1 q hqm).2 x (List.mem_of_getElem? hx);omega
      subst hr0;refine aC fun _ K=>?_;simp(disch:=omega) only[kd,aa];apply K
      refine aS rfl ?_;refine aC fun _ K=>?_;simp only[kd];apply K
      (refine aH ⟨.inr rfl,aG rfl ?_ rfl⟩;simp(disch:=omega) only[kd,Tryz.results35])
     refine aC fun _ K=>?_;simp(disch:=omega) only[kd,aa];apply K
     refine aN rfl (aK ?_);show bf _ _ _ _;refine aL fun _ K=>?_;simp(disch:=omega) only[kd,aO];apply K
     refine⟨⟨j+1,by omega,fun b hb y hy=>?_⟩,by simp only;omega,aE trivial ?_⟩
     ·by_cases e:b=j
      ·subst e;rw[hx]at hy;injection hy with hy
       omega
      exact okj b (by omega) y hy
     simp[wk]
    refine aC fun _ K=>?_;simp(disch:=omega) only[kd,slI];apply K
    refine bD rfl ?_;show bf _ _ _ _;refine aL fun _ K=>?_;simp(disch:=omega) only[kd,aO];apply K
    refine⟨⟨i+1,by omega,fun a ha q' hq'=>?_⟩,by simp only;omega,aE trivial ?_⟩
    ·by_cases e:a=i
     ·subst e;rw[hq]at hq';injection hq' with hq'
      subst hq';refine⟨hql,fun x hx=>?_⟩;obtain⟨b,hb⟩:=List.mem_iff_getElem?.1 hx;exact okj b (by have:=(List.getElem?_eq_some_iff.1 hb).1;omega) x hb
     exact ok a (by omega) q' hq'
    simp[wk]
   have hr0:r=false:=by
    cases r with
    |false=>rfl
    |true=>exact absurd ((hr.1 rfl).2.1 q hqm).1 hql
   subst hr0;refine aD (aC fun _ K=>?_);simp(disch:=omega) only[kd,aa];apply K;refine aS rfl ?_;refine aC fun _ K=>?_;simp only[kd];apply K
   (refine aH ⟨.inr rfl,aG rfl ?_ rfl⟩;simp(disch:=omega) only[kd,Tryz.results35])
  have hall: ∀q∈M,RwOk M.length q:=fun q hq=>by
   obtain⟨a,ha⟩:=List.mem_iff_getElem?.1 hq;exact ok a (by have:=(List.getElem?_eq_some_iff.1 ha).1;omega) q ha
  have eM:=j6 (M:=M) (m:=M.length) fun q hq=>(hall q hq).1
  have hb: ∀i j,i<M.length->j<M.length-> -1125899906842624<=ent M i j/\ent M i j<=1125899906842624:=fun i j hi hj=>by
   have hrw:=hall M[i] (List.getElem_mem hi);have e:ent M i j=M[i][j]'(by rw[hrw.1];exact hj):=by
    unfold ent;simp[List.getD,hi,hrw.1,hj]
   rw[e];exact hrw.2 _ (List.getElem_mem _)
  have hF:=rR M.length M.length (ent M) hlen.1 (by omega) hlen.1 (by omega) (fun i j hi hj=>by have:=hb i j hi hj;omega);have hD:=Ax M.length (ent M) hlen.1 (by omega) (fun i j hi hj=>Hz (hb i j hi hj)) r ⟨fun h=>(hr.1 h).2.2,fun h=>hr.2 ⟨hlen,hall,h⟩⟩;rw[<- eM]at hF hD;refine aC fun _ K=>?_;simp(disch:=omega) only[kd,slI];apply K
  refine bD rfl ?_;show bf _ _ _ _;refine aF [⟨1,_,_,_,hF⟩] [] fun _ K=>?_;simp only[kd,slI,yY,aa];apply K
  refine aF [⟨1,_,_,_,hD⟩] [] fun _ K=>?_;simp only[kd,slM,aa];apply K
  (refine aH ⟨.inr rfl,aG rfl ?_ rfl⟩;simp(disch:=omega) only[kd,Tryz.results35])
 have hr0:r=false:=by
  cases r with
  |false=>rfl
  |true=>exact absurd (hr.1 rfl).1 hlen
 subst hr0;by_cases h1:M.length<1
 ·refine aI Tryz.func35 rfl (by kernel_rfl) ?_;rw[Tryz.ntmps35];refine aC fun _ K=>?_;simp only[kd,slI,ae];apply K
  refine aD (aC fun _ K=>?_);simp(disch:=omega) only[kd,aa,reduceCtorEq];apply K;refine aS rfl ?_;refine aC fun _ K=>?_;simp only[kd];apply K
  (refine aH ⟨.inr rfl,aG rfl ?_ rfl⟩;simp(disch:=omega) only[kd,Tryz.results35])
 refine aI Tryz.func35 rfl (by kernel_rfl) ?_;rw[Tryz.ntmps35];refine aC fun _ K=>?_;simp only[kd,slI,ae];apply K
 refine aD (aC fun _ K=>?_);simp(disch:=omega) only[kd,aa];apply K;refine aS rfl ?_;refine aC fun _ K=>?_;simp only[kd];apply K
 (refine aH ⟨.inr rfl,aG rfl ?_ rfl⟩;simp(disch:=omega) only[kd,Tryz.results35])
theorem AL (k:Nat->Nat->Bool) (R:List (List Int)):(R.map i9).map (gS k)=R.map i9:=by
 rw[List.map_map];exact List.map_congr_left fun r _=>by simp[gS,i9,yb]
def LV (d n c:Nat) (f:FF) (i j:Nat):List OObj:=⟨27,1,fO d (ae i c)++[.sl d (i+1) 0 (j+1)]::ae (n-i-1) pb⟩::((mat i c f).map i9++[i9 (bz (j+1) (f i))])
def OM (d n c:Nat) (f:FF) (i:Nat):Nat->List OObj
 |0=>kI d n c i f
 |j+1=>LV d n c f i j
theorem IE {d n c i:Nat} (f:FF) (hc:1<=c) (hi:i<n):OM d n c f i c=kI d n c (i+1) f:=by
 obtain⟨j,rfl⟩: ∃j,c=j+1:=⟨c-1,by omega⟩;show LV d n (j+1) f i j=_;unfold LV kI;rw[uo,List.replicate_succ' (n:=i),ni,List.length_replicate];simp[Nat.sub_sub]
theorem D2 {d n c i:Nat} (f:FF) (hi:i<n):kI d n c i f=⟨27,1,fO d (ae i c)++pb::ae (n-i-1) pb⟩::(mat i c f).map i9:=by
 unfold kI;rw[show n-i=n-i-1+1 by omega,List.replicate_succ];rfl
structure QM (n:Nat) (p:Nat->Prop) where
 i:Nat
 hi:i<=n
 h: ∀a,a<i->p a
theorem x4 {l:List (List Int)} {i:Nat} (h:i<l.length):l[i]?=some (l.getD i []):=by
 obtain⟨x,hx⟩:=getElem?_of_lt h;rw[List.getD_eq_getElem?_getD,hx];rfl
def B8 (f:FF) (i j:Nat):Nat->Nat->Int:=fun a b=>if(a<i/\b<i)\/(a=i/\b<j)\/(b=i/\a<j)then f a b else 0
theorem IB {f:FF} {i j:Nat} {v:Int} (h1:f i j=v) (h2:f j i=v) (a b:Nat):upd (upd (B8 f i j) i j v) j i v a b=B8 f i (j+1) a b:=by
 by_cases c1:a=j/\b=i
 ·obtain⟨rfl,rfl⟩:=c1;rw[yT,<- h2];exact(if_pos (.inr (.inr ⟨rfl,by omega⟩))).symm
 rw[pm (by omega)];by_cases c2:a=i/\b=j
 ·obtain⟨rfl,rfl⟩:=c2;rw[yT,<- h1];exact(if_pos (.inr (.inl ⟨rfl,by omega⟩))).symm
 rw[pm (by omega)];unfold B8;have:((a<i/\b<i)\/(a=i/\b<j)\/(b=i/\a<j))↔((a<i/\b<i)\/(a=i/\b<j+1)\/(b=i/\a<j+1)):=by omega
 simp only[this]
theorem LU (f:FF) (i a b:Nat):B8 f i (i+1) a b=B8 f (i+1) 0 a b:=by
 unfold B8;have:((a<i/\b<i)\/(a=i/\b<i+1)\/(b=i/\a<i+1))↔((a<i+1/\b<i+1)\/(a=i+1/\b<0)\/(b=i+1/\a<0)):=by omega
 simp only[this]
theorem LT {f:FF} {n a b:Nat} (ha:a<n) (hb:b<n):B8 f n 0 a b=f a b:=if_pos (.inl ⟨ha,hb⟩)
theorem IC (f:FF) (a b:Nat):B8 f 0 0 a b=0:=if_neg (by omega)
theorem dK (n:Nat) (h t:FF) (a b:Nat):cngF n h t a b=BF n h (fun i=>t i a) (fun j=>t j b):=by
 unfold cngF BF;rw[gU,aY n (G:=fun p=>cK (fun q=>t q a*h q p*t p b) n) (fun p _=>by rw[gU,<- vq];rfl),
  aY n (F:=fun i=>t i a*_) (G:=fun q=>cK (fun p=>t q a*h q p*t p b) n) (fun q _=>by rw[<- eF];exact aY n fun p _=>by grind)]
 exact qm _ _ _
def mg (M:List (List Int)):Prop:=xz M/\(M.headD []).length=M.length/\M.length<=8/\(dk (ent M) M.length).natAbs=1
open Classical in
noncomputable def vH (M:List (List Int)):Bool:=decide (mg M)
theorem vI {M:List (List Int)} (h:mg M):vH M=true:=by simp[vH,h]
theorem l8 {M:List (List Int)} (h: ¬mg M):vH M=false:=by simp[vH,h]
theorem zj {n:Nat} (f:FF) (hn1:1<=n) (hn:n<=8):mg (mat n n f)↔(dk f n).natAbs=1:=by
 have hl:=aU n n f;have hh:=fb (n:=n) (c:=n) f hn1;have hd:dk (ent (mat n n f)) n=dk f n:=gR fun i j hi hj=>pG f hi hj
 unfold mg;rw[hl,hh,hd];exact⟨fun h=>h.2.2.2,fun h=>⟨iy f hn1 (by omega) hn1 (by omega),rfl,hn,h⟩⟩
theorem mg.eq {M:List (List Int)} (h:mg M):M=mat M.length M.length (ent M):=by
 have:=sh h.1;rwa[h.2.1]at this
def mb (M:List (List Int)):List (List Int):=mat M.length M.length (trF (ent M))
theorem jF {n c:Nat} (f:FF) {i:Nat} (hi:i<n):(mat n c f).getD i []=bz c (f i):=by
 rw[List.getD_eq_getElem?_getD,bs _ _ hi];rfl
theorem og {c:Nat} (f:Nat->Int) {j:Nat} (hj:j<c):(bz c f).getD j 0=f j:=by
 rw[List.getD_eq_getElem?_getD,aR _ hj];rfl
theorem EO {M:List (List Int)} {n:Nat} {g:FF} (hM:bF M=true) (hn:M.length=n) {a b:Nat} (ha:a<n) (hb:b<n)
  (h1:FitB n (bz n (trF g a))=true) (h2:FitB n (bz n (trF g b))=true):vG M (mat n n (trF g)) a b=cngF n (ent M) g a b:=by
 unfold vG;rw[jF _ ha,jF _ hb,x8 hM (by rw[hn];exact h1) (by rw[hn];exact h2),hn,dK];exact ea (fun i j _ _=>rfl) (fun i hi=>og _ hi) (fun i hi=>og _ hi)
section
variable {n:Nat}
def mV (n:Nat) (t:FF) (x:Nat->Int):Nat->Int:=fun i=>cK (fun a=>x a*t i a) n
theorem De (h t:FF) (x y:Nat->Int): ∀m,BF n h (fun i=>cK (fun a=>x a*t i a) m) y=cK (fun a=>x a*BF n h (fun i=>t i a) y) m
 |0=>se fun _ _=>rfl
 |m+1=>by
  have h1:=jR (n:=n) h (fun i=>cK (fun a=>x a*t i a) m) (fun i=>t i m) y (x m);rw[De h t x y m]at h1;exact h1
theorem Df (h t:FF) (x y:Nat->Int): ∀m,BF n h x (fun i=>cK (fun a=>y a*t i a) m)=cK (fun a=>y a*BF n h x (fun i=>t i a)) m
 |0=>by
  show BF n h x (fun _=>0)=0;unfold BF;rw[aY n (G:=fun _=>0) (fun i _=>by rw[aY n (G:=fun _=>0) (fun j _=>Int.mul_zero _),fg,Int.mul_zero]),fg]
 |m+1=>by
  have h1:=iw (n:=n) h x (fun i=>cK (fun a=>y a*t i a) m) (fun i=>t i m) (y m);rw[Df h t x y m]at h1;exact h1
theorem xt (h t:FF) (x y:Nat->Int):BF n h (mV n t x) (mV n t y)=BF n (cngF n h t) x y:=by
 unfold mV;rw[De];unfold BF;refine aY n fun a _=>?_
 congr 1
 have h1:=Df (n:=n) h t (fun i=>t i a) y n;unfold BF at h1;rw[h1];refine aY n fun b _=>?_
 have h2:=dK n h t a b;unfold BF at h2;rw[h2,Int.mul_comm]
theorem PD.cng {h t:FF} (hr:PD h n) (hd:dk t n≠0):PD (cngF n h t) n:=by
 refine Gg (fun i _ j _=>by rw[dK,dK];exact qA hr.1 _ _) fun x ⟨i,hi,hx⟩=>?_
 rw[<- xt];obtain⟨h1,h2⟩:=hr.pos (mV n t x);rcases Int.lt_or_le 0 (BF n h (mV n t x) (mV n t x))with hl|hl
 ·exact hl
 exfalso;have h3:=h2.1 (by omega);refine hx (Cc hd (fun i hi=>?_) i hi);have:=h3 i hi;unfold mV at this;rw[<- this];exact aY n fun j _=>Int.mul_comm _ _
theorem rI {t:FF} {i:Nat} (hi:i<n) (c:Nat->Int): ∀m,m<=n->dk (dz t i (fun r=>cK (fun j=>c j*t r j) m)) n=if i<m then c i*dk t n else 0
 |0,_=>by rw[if_neg (by omega)];exact sn hi fun _ _=>rfl
 |m+1,hm=>by
  have h:=mF (R:=t) hi 1 (c m) (fun r=>cK (fun j=>c j*t r j) m) (fun r=>t r m);rw[rI hi c m (by omega)]at h;have e:(fun r=>cK (fun j=>c j*t r j) (m+1))=fun r=>1*cK (fun j=>c j*t r j) m+c m*t r m:=by
   funext r;rw[cK,Int.one_mul]
  rw[e,h];by_cases hmi:m=i
  ·subst hmi;rw[kO,if_neg (by omega),if_pos (by omega)];omega
  rw[pF hi (show m<n by omega) (Ne.symm hmi),Int.mul_zero,Int.add_zero,Int.one_mul];have:i<m+1↔i<m:=by omega
  simp only[this]
theorem DQ {t:FF} {i:Nat} (hi:i<n) (c:Nat->Int):dk (dz t i (mV n t c)) n=c i*dk t n:=by
 have:=rI hi c n (ac n) (t:=t);rwa[if_pos hi]at this
theorem zJ {h t:FF} {i:Nat} (c:Nat->Int):cngF n h (dz t i (mV n t c)) i i=nrm n (cngF n h t) c:=by
 rw[dK];unfold nrm;rw[<- xt];exact ea (fun _ _ _ _=>rfl) (fun r _=>if_pos rfl) (fun r _=>if_pos rfl)
theorem rH {h t:FF} {i a b:Nat} (S:Nat->Int) (ha:a≠i) (hb:b≠i):cngF n h (dz t i S) a b=cngF n h t a b:=by
 rw[dK,dK];exact ea (fun _ _ _ _=>rfl) (fun r _=>if_neg ha) (fun r _=>if_neg hb)
theorem PD.ent {f:FF} (hr:PD f n) {i j:Nat} (hi:i<n) (hj:j<n):f i j*f i j<=f i i*f j j:=by
 have e: ∀a b,a<n->b<n->BF n f (eC a) (eC b)=f a b:=fun a b ha hb=>by
  have e1: ∀(F:Nat->Int) a,a<n->cK (fun j=>F j*eC a j) n=F a:=fun F a ha=>by
   rw[iD ha (fun p _ hne=>by unfold eC;rw[if_neg hne,Int.mul_zero])];unfold eC;rw[if_pos rfl,Int.mul_one]
  unfold BF;rw[aY n (G:=fun k=>f k b*eC a k) (fun k _=>by rw[e1 (f k) b hb];exact Int.mul_comm _ _),e1 (fun k=>f k b) a ha]
 have:=hr.schwarz (eC i) (eC j);rwa[e i j hi hj,e i i hi hi,e j j hj hj]at this
theorem PD.diag {f:FF} (hr:PD f n) {i:Nat} (hi:i<n):0<f i i:=by
 have h:=hr.pos (eC i);have e:=ux (f:=f) hi;unfold nrm at e;rw[e]at h;rcases Int.lt_or_le 0 (f i i)with hl|hl
 ·exact hl
 have:=h.2.1 (by omega) i hi;simp[eC]at this
end
section
variable {n:Nat}
def P3 (N:(Nat->Int)->Int) (B:FF) (i:Nat):Prop:= ∀a,a+1<i->N (B a)<=N (B (a+1))
theorem P3.le {N:(Nat->Int)->Int} {B:FF} {i:Nat} (h:P3 N B i) {b:Nat} (hb:b<i): ∀a,a<=b->N (B a)<=N (B b):=fun a ha=>by
 obtain⟨m,rfl⟩: ∃m,b=a+m:=⟨b-a,by omega⟩
 induction m with
 |zero=>exact Int.le_refl _
 |succ m ih=>
  have:=ih (by omega) (by omega);have h2:=h (a+m) (by omega);rw[<- Nat.add_assoc];omega
theorem EE (F:Nat->Int) {j:Nat}: ∀{m},j+1<m->cK F m=cK (fun a=>if a=j then F (j+1)else if a=j+1 then F j else F a) m
 |m+1,h=>by
  rw[cK,cK];by_cases e:j+1<m
  ·rw[EE F e,if_neg (by omega),if_neg (by omega)]
  obtain rfl:m=j+1:=by omega
  rw[if_neg (by omega),if_pos rfl,cK,cK,if_pos rfl,aY j (F:=fun a=>if a=j then _ else _) (G:=F) (fun p hp=>by rw[if_neg (by omega),if_neg (by omega)])];omega
end
section
variable {n:Nat}
def gmB (n:Nat) (h B:FF):Nat->Nat->Int:=fun a b=>BF n h (B a) (B b)
theorem x5 (h B:FF):gmB n h B=cngF n h (trF B):=by
 funext a b;rw[dK];rfl
open Classical in
noncomputable def rx (n:Nat) (f:FF):Nat->Nat->Option Nat
 |0,_=>none
 |m+1,i=>if VioP n f i then some i else rx n f m (i+1)
noncomputable def GR (n:Nat) (f:FF):Option Nat:=rx n f n 0
theorem xq {f:FF}: ∀m i r,rx n f m i=some r->i<=r/\r<i+m/\VioP n f r/\ ∀a,i<=a->a<r-> ¬VioP n f a
 |0,_,_,h=>by cases h
 |m+1,i,r,h=>by
  rw[rx]at h;split at h
  ·rename_i hv;injection h with h
   subst h;exact⟨ac _,by omega,hv,fun a h1 h2=>by omega⟩
  rename_i hv;obtain⟨h1,h2,h3,h4⟩:=xq m (i+1) r h;refine⟨by omega,by omega,h3,fun a ha hb=>?_⟩;by_cases e:a=i
  ·subst e;exact hv
  exact h4 a (by omega) hb
theorem xp {f:FF}: ∀m i,rx n f m i=none-> ∀a,i<=a->a<i+m-> ¬VioP n f a
 |0,_,_=>fun a h1 h2=>by omega
 |m+1,i,h=>by
  rw[rx]at h;split at h
  ·cases h
  rename_i hv;intro a h1 h2;by_cases e:a=i
  ·subst e;exact hv
  exact xp m (i+1) h a (by omega) (by omega)
def Gk (n:Nat) (h S:FF) (i:Nat):Nat->Nat->Int:=fun k=>if k=i then mV n (trF S) (lf n (gmB n h S) i (3^i))else S k
structure InB2 (n:Nat) (h:FF) (W:Int) (B:FF):Prop where
 nr: ∀a,a<n->nrm n h (B a)<=W
 dt:(dk (trF B) n).natAbs=1
theorem Kh {F G:Nat->Int} {i:Nat}: ∀{m},i<m->(∀a,a<m->a≠i->F a=G a)->F i<G i->cK F m<cK G m
 |m+1,hi,h,hl=>by
  rw[cK,cK];by_cases e:i=m
  ·subst e;rw[aY i fun p hp=>h p (by omega) (by omega)];omega
  have:=Kh (m:=m) (by omega) (fun a ha hne=>h a (by omega) hne) hl;rw[h m (by omega) (Ne.symm e)];omega
theorem pk {F:Nat->Int}: ∀m,(∀a,a<m->0<=F a)->0<=cK F m
 |0,_=>by simp[cK]
 |m+1,h=>by
  have:=pk m fun a ha=>h a (by omega)
  have:=h m (by omega);rw[cK];omega
theorem JS {h S:FF} {i:Nat}:nrm n h (Gk n h S i i)=nrm n (gmB n h S) (lf n (gmB n h S) i (3^i)):=by
 unfold Gk;rw[if_pos rfl];unfold nrm;rw[xt,<- x5]
theorem Pv {h S:FF} {i:Nat}:trF (Gk n h S i)=dz (trF S) i (mV n (trF S) (lf n (gmB n h S) i (3^i))):=by
 funext r c;unfold trF Gk dz;split<;>rfl
theorem InB2.rep {h S:FF} {W:Int} {i:Nat} (hS:InB2 n h W S) (hi:i<n) (hv:VioP n (gmB n h S) i):InB2 n h W (Gk n h S i):=by
 refine⟨fun a ha=>?_,?_⟩
 ·by_cases e:a=i
  ·subst e;rw[JS];have h1:=Kg hi hv;have h2:=hS.nr a hi;have h3:gmB n h S a a=nrm n h (S a):=rfl;omega
  unfold Gk;rw[if_neg e];exact hS.nr a ha
 rw[Pv,DQ hi,(CX n (gmB n h S) i (3^i)).1,Int.one_mul];exact hS.dt
/-! Signs. -/
def pp (g:FF):Nat->Int
 |0=>1
 |i+1=>if pp g i*g i (i+1)<0 then -1 else 1
theorem sM (g:FF): ∀i,pp g i=1\/pp g i= -1
 |0=> .inl rfl
 |i+1=>by rw[pp];split<;>simp
def Ez (g B:FF):Nat->Nat->Int:=fun k j=>pp g k*B k j
theorem OL (h g B:FF):gmB n h (Ez g B)=Re (pp g) (gmB n h B):=by
 funext a b;unfold gmB Ez Re BF;rw[<- eF];refine aY n fun i _=>?_
 rw[aY n (G:=fun j=>pp g b*(h i j*B b j)) (fun j _=>by grind),eF];grind
theorem Kc {g B:FF}: ∀m,m<=n->(dk (trF fun k j=>if k<m then pp g k*B k j else B k j) n).natAbs=(dk (trF B) n).natAbs
 |0,_=>by simp
 |m+1,hm=>by
  rw[<- Kc (g:=g) (B:=B) m (by omega)];have h1:=mF (R:=trF fun k j=>if k<m then pp g k*B k j else B k j) (n:=n) (a:=m) (by omega) (pp g m) 0 (fun i=>B m i) (fun i=>B m i);have e1:dz (trF fun k j=>if k<m then pp g k*B k j else B k j) m (fun i=>pp g m*B m i+0*B m i)=trF fun k j=>if k<m+1 then pp g k*B k j else B k j:=by
   funext r c;unfold dz trF;by_cases e:c=m
   ·subst e;rw[if_pos rfl];show pp g c*B c r+0*B c r=if c<c+1 then pp g c*B c r else B c r
    rw[if_pos (by omega)];omega
   have:c<m+1↔c<m:=by omega
   rw[if_neg e];simp only[this]
  have e2:dz (trF fun k j=>if k<m then pp g k*B k j else B k j) m (fun i=>B m i)=trF fun k j=>if k<m then pp g k*B k j else B k j:=by
   funext r c;unfold dz trF;by_cases e:c=m
   ·subst e;rw[if_pos rfl];show B c r=if c<c then pp g c*B c r else B c r
    rw[if_neg (by omega)]
   rw[if_neg e]
  rw[e1,e2]at h1;rw[h1];rcases sM g m with e|e<;>rw[e]<;>simp
end
end Go.Proofs.YtfgeomlagfomgaaGreatDoor
