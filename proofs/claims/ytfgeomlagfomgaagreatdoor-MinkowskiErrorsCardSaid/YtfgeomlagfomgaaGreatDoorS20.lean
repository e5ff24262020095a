/-
  Part 21 of a proof (walks and plain facts).
-/
import Derived.Test.YtfgeomlagfomgaaGreatDoorS19
set_option linter.all false
set_option maxRecDepth 100000
set_option maxHeartbeats 64000000
open Nat renaming reduceAdd → aa
open Nat renaming reduceEqDiff → ab
open Nat renaming le_refl → ac
open List renaming replicate → ae
open Nat renaming le_trans → az
namespace Go.Proofs.YtfgeomlagfomgaaGreatDoor
open Go.RowKit
theorem x7 (M:List (List Int)) (hM: ¬xe M):CallC Tryz.prog 75 [bi M] ⟨[],Im⟩:=by
 have hS:=AJ M;rw[fH hM]at hS;unfold Im;refine aJ Tryz.func75 rfl (by kernel_rfl) ?_;rw[Tryz.ntmps75];refine aD fun _ K=>?_;simp(disch:=omega) only[kd,aa,bi,ae];apply K
 refine aG [⟨1,_,_,_,hS⟩] [] fun _ K=>?_;simp only[kd,bi,aa];apply K
 refine aE (aD fun _ K=>?_);simp only[kd];apply K;refine aS rfl ?_;refine aD fun _ K=>?_;simp only[kd];apply K
 (refine aI ⟨.inr rfl,aH rfl ?_ rfl⟩;simp(disch:=omega) only[kd,Tryz.results75])
theorem rJ (n c:Nat) (f:FF) (hn1:1<=n) (hn:n<=16) (hc1:1<=c) (hc:c<=16) (hf: ∀i j,i<n->j<c-> -9223372036854775808<=f i j/\f i j<=9223372036854775807):
  CallC Tryz.prog 75 [bi (bu n c f)] ⟨[],yK (bu n c f)⟩:=by
 have hml:=aV n c f;have h0:=gk (M:=bu n c f) (by omega);have h1:=bD (n:=n) c f (i:=0) (by omega);have hhd:(bu n c f).headD []=bG c (f 0):=by rw[h1]at h0;injection h0 with h0;exact h0.symm
 have hsh:xe (bu n c f):=⟨by omega,by omega,fun r hr=>by
  obtain⟨i,_,rfl⟩:=List.mem_map.1 hr;rw[hhd];simp[rOk,bz];omega⟩
 have hS:=AJ (bu n c f);rw[fP hsh,hml,hhd,bz]at hS;have hB:=Lb n c f hn1 hn hc1 hc hf;unfold yK;refine aJ Tryz.func75 rfl (by kernel_rfl) ?_;rw[Tryz.ntmps75];refine aD fun _ K=>?_;simp(disch:=omega) only[kd,aa,bi,ae];apply K
 refine aG [⟨1,_,_,_,hS⟩] [] fun _ K=>?_;simp only[kd,bi,aa];apply K
 refine aE (aD fun _ K=>?_);simp only[kd];apply K;refine aO rfl (aL ?_);show bs _ _ _ _;refine bs.weak ((mq 1 1 (cs:=[.sl (ls (fR fI) (bu n c f))]) rfl rfl).trans (aF (tm:=(jk::.one (oG (bu n c f))::jk::jk::rN n::rN c::j4 (j4 (j4 (jk::[]))))) (l:=[]) trivial (by simp[wk,gW,fD,bj,Hm]))) ?_;refine aG [⟨3,_,_,_,hB⟩] [] fun _ K=>?_;simp only[kd,oG,aa,jo];apply K
 refine bs.weak (aF (tm:=(jk::jk::.one (.sl 18 0 0 n)::.raw (.bool true)::j4 (j4 (j4 (jk::jk::jk::[]))))) (l:=[(18,gI 18 n c f)]) ⟨gy 0 18 n c f,trivial⟩ (by simp[wk])) ?_;refine bs.weak ((bW 18 (jO rfl)).trans (aF (tm:=(jk::jk::bE (bu n c f)::.raw (.bool true)::j4 (j4 (j4 (jk::jk::jk::[]))))) (l:=[]) trivial (by simp[wk];exact⟨(Nv (H:=Hm [(18,gI 18 n c f)]) (d:=18) (n:=n) (c:=c) (f:=f) rfl).symm,rfl⟩))) ?_
 (refine aI ⟨.inr rfl,aH rfl ?_ rfl⟩;simp(disch:=omega) only[kd,Tryz.results75,bE])
section
def PD (f:FF) (n:Nat):Prop:=SymF f n/\ ∀k,k<n->0<dk f (k+1)
theorem RedR.pd {f:FF} {n:Nat} (h:RedR f n):PD f n:=⟨h.1,h.2.1⟩
theorem PD.det {f:FF} {n:Nat} (h:PD f n):0<dk f n:=by
 cases n with
 |zero=>rw[dv];omega
 |succ n=>exact h.2 n (by omega)
variable {n:Nat}
theorem rY {f:FF} {x y:Nat->Int} (h0: ∀i,i<n->x i=0):BF n f x y=0:=by
 unfold BF;rw[bf n (G:=fun _=>0) (fun i hi=>by rw[h0 i hi,Int.zero_mul]),eQ]
theorem PD.pos {f:FF} (hr:PD f n) (x:Nat->Int):0<=BF n f x x/\(BF n f x x=0↔ ∀i,i<n->x i=0):=by
 have h:=n9 hr.1 hr.2 x n 0 rfl;have e:BF n (bk f 0) x x=BF n f x x:=eG (fun i j _ _=>dG f i j) (fun _ _=>rfl) (fun _ _=>rfl);rw[e]at h;exact⟨h.1,fun hz i hi=>h.2 hz i (by omega) hi,fun h0=>rY h0⟩
theorem PD.schwarz {f:FF} (hr:PD f n) (x y:Nat->Int):BF n f x y*BF n f x y<=BF n f x x*BF n f y y:=by
 have hs:=qr hr.1 x y;obtain⟨h1,h2⟩:=hr.pos y;obtain⟨q,hq⟩: ∃q,q=BF n f x y:=⟨_,rfl⟩;obtain⟨o,ho⟩: ∃o,o=BF n f y y:=⟨_,rfl⟩;obtain⟨N,hN⟩: ∃N,N=BF n f x x:=⟨_,rfl⟩;have hpos:=(hr.pos (fun i=>(0+o*x i)+(-q)*y i)).1;have e:BF n f (fun i=>(0+o*x i)+(-q)*y i) (fun i=>(0+o*x i)+(-q)*y i)=o*(o*N-q*q):=by
  have ez: ∀u,BF n f (fun _=>0) u=0:=fun u=>rY fun _ _=>rfl
  have ez': ∀u,BF n f u (fun _=>0)=0:=fun u=>by rw[qr hr.1,ez]
  rw[jG f (fun i=>0+o*x i) y,ir f (fun i=>0+o*x i) (fun i=>0+o*x i) y,ir f y (fun i=>0+o*x i) y,
   jG f (fun _=>0) x,jG f (fun _=>0) x,ir f x (fun _=>0) x,ir f y (fun _=>0) x,ez,ez,ez',ez',<- hs,<- hq,<- ho,<- hN]
  grind
 rw[e]at hpos;rw[<- hq,<- ho,<- hN];rw[<- ho]at h1 h2;rcases Int.lt_or_le 0 o with h|h
 ·rcases Int.lt_or_le (o*N-q*q) 0 with hl|hl
  ·have:=Int.mul_neg_of_pos_of_neg h hl;omega
  have e2:N*o=o*N:=Int.mul_comm _ _;omega
 have ho0:o=0:=by omega
 have hy:=h2.1 ho0;have hq0:q=0:=by rw[hq,hs];exact rY hy
 rw[hq0,ho0];simp
/-! The column of cofactors. -/
def eC (i:Nat):Nat->Int:=fun r=>if r=i then 1 else 0
def iz (f:FF) (n j:Nat):Nat->Int:=fun i=>dk (dU f j (eC i)) n
theorem OX (S:Nat->Int) (m r:Nat):cP (fun i=>S i*eC i r) m=if r<m then S r else 0:=by
 induction m with
 |zero=>simp[cP]
 |succ m ih=>
  rw[cP,ih];unfold eC;by_cases h:r=m
  ·subst h;simp
  have:r<m+1↔r<m:=by omega
  simp[h,this]
theorem rB {f:FF} {j:Nat} (hj:j<n) (S:Nat->Int): ∀m,dk (dU f j (fun r=>cP (fun i=>S i*eC i r) m)) n=cP (fun i=>S i*iz f n j i) m
 |0=>r9 hj fun i _=>rfl
 |m+1=>by
  have h:=mz (R:=f) hj 1 (S m) (fun r=>cP (fun i=>S i*eC i r) m) (eC m);rw[rB hj S m]at h;have e:(fun r=>cP (fun i=>S i*eC i r) (m+1))=fun r=>1*cP (fun i=>S i*eC i r) m+S m*eC m r:=by
   funext r;rw[cP,Int.one_mul]
  rw[e,h,cP,Int.one_mul];rfl
theorem Lv {f:FF} {j:Nat} (hj:j<n) (S:Nat->Int):dk (dU f j S) n=cP (fun i=>S i*iz f n j i) n:=by
 rw[<- rB hj S n];refine gN fun r c hr _=>?_
 unfold dU;split
 ·show S r=cP (fun i=>S i*eC i r) n;rw[OX,if_pos hr]
 rfl
theorem Dg {f:FF} {j k:Nat} (hj:j<n) (hk:k<n):cP (fun i=>f i k*iz f n j i) n=if k=j then dk f n else 0:=by
 rw[<- Lv hj fun i=>f i k];split
 ·rename_i h;subst h;rw[kw]
 rename_i h;exact pr hj hk (Ne.symm h)
theorem w9 {f:FF} (hs:SymF f n) {j:Nat} (hj:j<n) (x:Nat->Int):BF n f x (iz f n j)=x j*dk f n:=by
 unfold BF;rw[bf n (G:=fun i=>x i*(if i=j then dk f n else 0)) (fun i hi=>by
  rw[<- Dg hj hi]
  congr 1
  exact bf n fun l hl=>by rw[hs i hi l hl])]
 rw[i6 hj (fun p _ hne=>by rw[if_neg hne,Int.mul_zero]),if_pos rfl]
def xA (f:FF) (j m:Nat):Nat->Nat->Int:=fun i l=>if l=j then eC j i else if i=j/\l<m then 0 else f i l
theorem BB {f:FF} {j:Nat} (hj:j<n): ∀m,m<=n->dk (xA f j m) n=iz f n j j
 |0,_=>by
  unfold iz
  congr 1
  funext i l;unfold xA dU;split
  ·rfl
  rw[if_neg (by omega)]
 |m+1,hm=>by
  rw[<- BB hj m (by omega)];by_cases h:m=j
  ·congr 1
   funext i l;unfold xA;by_cases hl:l=j
   ·rw[if_pos hl,if_pos hl]
   rw[if_neg hl,if_neg hl];have:(i=j/\l<m+1)↔(i=j/\l<m):=by omega
   simp only[this]
  have h1:=nw (R:=xA f j m) (n:=n) (a:=m) (b:=j) (by omega) hj h (-(xA f j m j m));rw[<- h1]
  congr 1
  funext i l;unfold dU;by_cases hl:l=m
  ·subst hl;rw[if_pos rfl];unfold xA eC;by_cases hi:i=j
   ·subst hi;simp[h]<;>omega
   simp[h,hi]
  rw[if_neg hl];unfold xA;split
  ·rfl
  have:(i=j/\l<m+1)↔(i=j/\l<m):=by omega
  simp only[this]
theorem zg (f:FF) (k:Nat):iz f (k+1) k k=dk f k:=by
 rw[<- BB (by omega) (k+1) (ac _),b8,bk,du,nC (jE k) _ (fun c hc=>by
  have:=ij hc;unfold xA;rw[if_neg (by omega),if_pos ⟨rfl,by omega⟩])]
 have e:om (xA f k (k+1)) k (jE k)=dk f k:=nM fun i hi c hc=>by
  have:=ij hc;unfold xA;rw[if_neg (by omega),if_neg (by omega)]
 rw[e];unfold xA eC
 simp
theorem F6 {f:FF} (hs:SymF f n) (hp: ∀x:Nat->Int,(∃i,i<n/\x i≠0)->0<BF n f x x):PD f n:=by
 refine⟨hs,fun k hk=>?_⟩;have go: ∀k,k<=n->0<dk f k:=fun k=>by
  induction k with
  |zero=>intro _;rw[dv];omega
  |succ k ih=>
   intro hk;have h0:=ih (by omega);have hsk:SymF f (k+1):=fun i hi j hj=>hs i (by omega) j (by omega)
   have h1:=w9 (n:=k+1) hsk (j:=k) (by omega) (iz f (k+1) k);rw[zg]at h1;have h2:=hp (fun i=>if i<k+1 then iz f (k+1) k i else 0) ⟨k,by omega,by simp[zg];omega⟩;have e:BF n f (fun i=>if i<k+1 then iz f (k+1) k i else 0) (fun i=>if i<k+1 then iz f (k+1) k i else 0)=BF (k+1) f (iz f (k+1) k) (iz f (k+1) k):=by
    have ext: ∀(F:Nat->Int) (m:Nat),cP (fun i=>if i<k+1 then F i else 0) (k+1+m)=cP F (k+1):=fun F m=>by
     induction m with
     |zero=>exact bf _ fun p hp=>if_pos hp
     |succ m ihm=>rw[<- Nat.add_assoc,cP,ihm,if_neg (by omega)];omega
    obtain⟨m,rfl⟩: ∃m,n=k+1+m:=⟨n-(k+1),by omega⟩;unfold BF;rw[<- ext (fun i=>iz f (k+1) k i*cP (fun j=>f i j*iz f (k+1) k j) (k+1)) m];refine bf _ fun i _=>?_
    show(if i<k+1 then iz f (k+1) k i else 0)*cP (fun j=>f i j*(if j<k+1 then iz f (k+1) k j else 0)) _=_;by_cases hi:i<k+1
    ·rw[if_pos hi,if_pos hi,<- ext (fun j=>f i j*iz f (k+1) k j) m]
     congr 1
     exact bf _ fun j _=>by
      by_cases hj:j<k+1
      ·rw[if_pos hj,if_pos hj]
      rw[if_neg hj,if_neg hj,Int.mul_zero]
    rw[if_neg hi,if_neg hi,Int.zero_mul]
   rw[e,h1]at h2;rcases Int.lt_or_le 0 (dk f (k+1))with h|h
   ·exact h
   have:=Int.mul_nonpos_of_nonneg_of_nonpos (Int.le_of_lt h0) h;omega
 exact go (k+1) (by omega)
theorem B5 {t:FF} (hd:dk t n≠0) {x:Nat->Int} (h: ∀i,i<n->cP (fun j=>t i j*x j) n=0): ∀j,j<n->x j=0:=fun j hj=>by
 have h1:cP (fun i=>cP (fun l=>t i l*x l) n*iz t n j i) n=0:=by
  rw[bf n (G:=fun _=>0) (fun i hi=>by rw[h i hi,Int.zero_mul]),eQ]
 have h2:cP (fun i=>cP (fun l=>t i l*x l) n*iz t n j i) n=cP (fun l=>cP (fun i=>t i l*x l*iz t n j i) n) n:=by
  rw[<- qa];exact bf n fun i _=>by rw[<- u6]
 have h3:cP (fun l=>cP (fun i=>t i l*x l*iz t n j i) n) n=cP (fun l=>x l*(if l=j then dk t n else 0)) n:=
  bf n fun l hl=>by
   rw[<- Dg hj hl,<- dI];exact bf n fun i _=>by grind
 rw[h2,h3,i6 hj (fun p _ hne=>by rw[if_neg hne,Int.mul_zero]),if_pos rfl]at h1;rcases Int.mul_eq_zero.1 h1 with h|h
 ·exact h
 exact absurd h hd
/-! Bounds. -/
def yN (r:Nat->Int):List Nat->Nat
 |[]=>0
 |c::cs=>(r c).natAbs+yN r cs
theorem zP {r:Nat->Int} {B:Nat}: ∀(cs:List Nat) (F:List Nat->Int),(∀l,l.Sublist cs->(F l).natAbs<=B)->(du r F cs).natAbs<=yN r cs*B
 |[],_,_=>by simp[du]
 |c::cs,F,h=>by
  rw[du,yN,Nat.add_mul];have h1:=Int.natAbs_sub_le (r c*F cs) (du r (fun l=>F (c::l)) cs);have h2:=zP (r:=r) cs (fun l=>F (c::l)) (fun l hl=>h (c::l) (List.Sublist.cons_cons c hl));rw[Int.natAbs_mul]at h1;have h3:=Nat.mul_le_mul_left (r c).natAbs (h cs (List.sublist_cons_self c cs));omega
theorem Mt {r:Nat->Int} {l m:List Nat} (h:l.Sublist m):yN r l<=yN r m:=by
 induction h with
 |slnil=>exact ac _
 |cons a _ ih=>rw[yN];omega
 |cons_cons a _ ih=>rw[yN,yN];omega
def NA (R:FF) (cs:List Nat):Nat->Nat
 |0=>1
 |k+1=>yN (R k) cs*NA R cs k
theorem Ec (R:FF) (cs:List Nat): ∀k (l:List Nat),l.Sublist cs->(om R k l).natAbs<=NA R cs k
 |0,l,_=>by simp[om,NA]
 |k+1,l,hl=>by
  rw[om,NA];have h:=zP (r:=R k) (B:=NA R cs k) l (om R k) (fun m hm=>Ec R cs k m (hm.trans hl));exact az h (Nat.mul_le_mul_right _ (Mt hl))
theorem Jp {R:FF} {cs:List Nat} {j A:Nat} (hr: ∀i,i<n->i≠j->yN (R i) cs<=A) (h1:yN (R j) cs<=1): ∀k,k<=n->NA R cs k<=if j<k then A^(k-1)else A^k
 |0,_=>by simp[NA]
 |k+1,hkn=>by
  have ih:=Jp hr h1 k (by omega);rw[NA];by_cases h:k=j
  ·subst h;rw[if_neg (by omega)]at ih;rw[if_pos (by omega),Nat.add_sub_cancel];exact az (Nat.mul_le_mul h1 ih) (by omega)
  have h2:=hr k (by omega) h;by_cases hk:j<k
  ·rw[if_pos hk]at ih;rw[if_pos (by omega),Nat.add_sub_cancel];obtain⟨m,rfl⟩: ∃m,k=m+1:=⟨k-1,by omega⟩;rw[Nat.add_sub_cancel]at ih;rw[Nat.pow_succ,Nat.mul_comm (A^m)];exact Nat.mul_le_mul h2 ih
  rw[if_neg hk]at ih;rw[if_neg (by omega),Nat.pow_succ,Nat.mul_comm (A^k)];exact Nat.mul_le_mul h2 ih
theorem JH {r:Nat->Int} {B j:Nat} (h0:r j=0): ∀m,(∀c,c<m->(r c).natAbs<=B)->yN r (jE m)<=if j<m then(m-1)*B else m*B
 |0,_=>by simp[jE,yN]
 |m+1,h=>by
  have ih:=JH h0 m (fun c hc=>h c (by omega));rw[jE,yN];by_cases e:m=j
  ·subst e;rw[if_neg (by omega)]at ih;rw[if_pos (by omega),h0,Nat.add_sub_cancel];simpa using ih
  have h2:=h m (by omega);by_cases hk:j<m
  ·rw[if_pos hk]at ih;rw[if_pos (by omega),Nat.add_sub_cancel];have:m*B=(m-1)*B+B:=by
    obtain⟨q,rfl⟩: ∃q,m=q+1:=⟨m-1,by omega⟩;rw[Nat.add_sub_cancel,Nat.add_mul,Nat.one_mul]
   omega
  rw[if_neg hk]at ih;rw[if_neg (by omega),Nat.add_mul,Nat.one_mul];omega
theorem Ay {r:Nat->Int} {j:Nat} (h1:r j=1): ∀m,(∀c,c<m->c≠j->r c=0)->yN r (jE m)<=if j<m then 1 else 0
 |0,_=>by simp[jE,yN]
 |m+1,h0=>by
  have ih:=Ay h1 m (fun c hc=>h0 c (by omega));rw[jE,yN];by_cases e:m=j
  ·subst e;rw[if_neg (by omega)]at ih;rw[if_pos (by omega),h1];have:(1:Int).natAbs=1:=rfl;omega
  rw[h0 m (by omega) e];by_cases hk:j<m
  ·rw[if_pos hk]at ih;rw[if_pos (by omega)];simpa using ih
  rw[if_neg hk]at ih;rw[if_neg (by omega)];simpa using ih
theorem NZ {f:FF} {j B:Nat} (hj:j<n) (hf: ∀a b,a<n->b<n->(f a b).natAbs<=B):(iz f n j j).natAbs<=(n*B)^(n-1):=by
 rw[<- BB hj n (ac _)];have h1:=Ec (xA f j n) (jE n) n (jE n) (List.Sublist.refl _);have hrow: ∀i,i<n->i≠j->yN (xA f j n i) (jE n)<=n*B:=fun i hi hij=>by
  have:=JH (r:=xA f j n i) (B:=B) (j:=j) (by unfold xA eC;simp[hij]) n (fun c hc=>by
   unfold xA eC;split
   ·simp[hij]
   rw[if_neg (fun h=>hij h.1)];exact hf i c hi hc)
  rw[if_pos hj]at this;exact az this (Nat.mul_le_mul_right _ (by omega))
 have hu:=Ay (r:=xA f j n j) (j:=j) (by unfold xA eC;simp) n (fun c hc hne=>by
  unfold xA;rw[if_neg hne,if_pos ⟨rfl,hc⟩])
 rw[if_pos hj]at hu;have h2:=Jp (n:=n) hrow hu n (ac _);rw[if_pos hj]at h2;exact az h1 h2
theorem HW {f:FF} {j B:Nat} (hr:PD f n) (hj:j<n) (hf: ∀a b,a<n->b<n->(f a b).natAbs<=B) (x:Nat->Int) {N:Int} (hN:BF n f x x<=N):x j*x j<=N*((n*B)^(n-1):Nat):=by
 have h1:=hr.schwarz x (iz f n j);rw[w9 hr.1 hj,w9 hr.1 hj]at h1;have hd:=hr.det;have h2:=NZ hj hf;have hx0:=(hr.pos x).1;have hy0:=(hr.pos (iz f n j)).1;rw[w9 hr.1 hj]at hy0;generalize iz f n j j=a at*
 generalize dk f n=d at*
 generalize BF n f x x=M at*
 generalize(n*B)^(n-1)=A at*
 have ha:0<=a:=by
  rcases Int.lt_or_le a 0 with h|h
  ·have:=Int.mul_neg_of_neg_of_pos h hd;omega
  exact h
 have e1:x j*d*(x j*d)=(x j*x j*d)*d:=by grind
 have e2:M*(a*d)=(M*a)*d:=by grind
 rw[e1,e2]at h1;have h3:=Int.le_of_mul_le_mul_right h1 hd;have hsq:0<=x j*x j:=by
  rcases Int.le_total 0 (x j)with h|h
  ·exact Int.mul_nonneg h h
  exact Int.mul_nonneg_of_nonpos_of_nonpos h h
 have h4:x j*x j*1<=x j*x j*d:=Int.mul_le_mul_of_nonneg_left hd hsq;have h5:M*a<=N*a:=Int.mul_le_mul_of_nonneg_right hN ha;have h6:N*a<=N*(A:Int):=Int.mul_le_mul_of_nonneg_left (by omega) (by omega);omega
end
def dg (code j:Nat):Int:=((code/3^j%3:Nat):Int)-1
theorem DC (code j:Nat): -1<=dg code j/\dg code j<=1:=by
 have:=Nat.mod_lt (code/3^j) (show 0<3 by omega);unfold dg;omega
def cnd (i code:Nat):Nat->Int:=fun j=>if j<i then dg code j else if j=i then 1 else 0
def nrm (n:Nat) (f:FF) (x:Nat->Int):Int:=BF n f x x
theorem qP {n:Nat} {f:FF} {x y:Nat->Int} (h: ∀i,i<n->x i=y i):nrm n f x=nrm n f y:=eG (fun _ _ _ _=>rfl) h h
theorem un {n:Nat} {f:FF} {i:Nat} (hi:i<n):nrm n f (eC i)=f i i:=by
 have e: ∀F:Nat->Int,cP (fun j=>F j*eC i j) n=F i:=fun F=>by
  rw[i6 hi (fun p _ hne=>by unfold eC;rw[if_neg hne,Int.mul_zero])];unfold eC;rw[if_pos rfl,Int.mul_one]
 unfold nrm BF;rw[bf n (G:=fun k=>f k i*eC i k) (fun k _=>by rw[e (f k)];exact Int.mul_comm _ _),e fun k=>f k i]
def kj (n:Nat) (f:FF) (i:Nat):Nat->Nat->Int
 |0=>eC i
 |k+1=>if nrm n f (cnd i k)<nrm n f (kj n f i k)then cnd i k else kj n f i k
theorem J1 {n:Nat} {f:FF} {i:Nat} (hi:i<n): ∀k,nrm n f (kj n f i k)<=f i i/\ ∀c,c<k->nrm n f (kj n f i k)<=nrm n f (cnd i c)
 |0=>⟨by rw[kj,un hi];omega,fun c hc=>by omega⟩
 |k+1=>by
  obtain⟨h1,h2⟩:=J1 (f:=f) hi k;by_cases h:nrm n f (cnd i k)<nrm n f (kj n f i k)
  ·rw[show kj n f i (k+1)=cnd i k from if_pos h];refine⟨by omega,fun c hc=>?_⟩;by_cases e:c=k
   ·subst e;omega
   have:=h2 c (by omega);omega
  rw[show kj n f i (k+1)=kj n f i k from if_neg h];refine⟨h1,fun c hc=>?_⟩;by_cases e:c=k
  ·subst e;omega
  exact h2 c (by omega)
def VioP (n:Nat) (f:FF) (i:Nat):Prop:= ∃c,c<3^i/\nrm n f (cnd i c)<f i i
theorem AI {n:Nat} {f:FF} {i:Nat} (hi:i<n): ∀k,(∀c,c<k->f i i<=nrm n f (cnd i c))->kj n f i k=eC i
 |0,_=>rfl
 |k+1,h=>by
  have ih:=AI hi k fun c hc=>h c (by omega)
  have:=h k (by omega);rw[kj,ih,un hi,if_neg (by omega)]
theorem CN {n:Nat} {f:FF} {i:Nat} (hi:i<n) (h:VioP n f i):nrm n f (kj n f i (3^i))<f i i:=by
 obtain⟨c,h1,h2⟩:=h;have:=(J1 (f:=f) hi (3^i)).2 c h1;omega
theorem MG {n:Nat} {f:FF} {i:Nat} (hi:i<n):(∀j,j<n->kj n f i (3^i) j=eC i j)↔ ¬VioP n f i:=by
 constructor
 ·intro h hv;have h1:=CN hi hv;rw[qP h,un hi]at h1;omega
 intro h j _;rw[AI hi (3^i) fun c hc=>by
  rcases Int.lt_or_le (nrm n f (cnd i c)) (f i i)with hl|hl
  ·exact absurd ⟨c,hc,hl⟩ h
  exact hl]
theorem Eo (n:Nat) (f:FF) (i:Nat): ∀k,kj n f i k=eC i\/ ∃c,c<k/\kj n f i k=cnd i c
 |0=> .inl rfl
 |k+1=>by
  rw[kj];split
  ·exact .inr ⟨k,by omega,rfl⟩
  rcases Eo n f i k with h|⟨c,hc,h⟩
  ·exact .inl h
  exact .inr ⟨c,by omega,h⟩
theorem yp (n:Nat) (f:FF) (i k:Nat):kj n f i k i=1/\(∀j,i<j->kj n f i k j=0)/\ ∀j,-1<=kj n f i k j/\kj n f i k j<=1:=by
 rcases Eo n f i k with h|⟨c,_,h⟩<;>rw[h]
 ·refine⟨by simp[eC],fun j hj=>by unfold eC;rw[if_neg (by omega)],fun j=>by unfold eC;split<;>omega⟩
 refine⟨by simp[cnd],fun j hj=>by unfold cnd;rw[if_neg (by omega),if_neg (by omega)],fun j=>?_⟩;unfold cnd;split
 ·exact DC c j
 split<;>omega
def MinkP (f:FF) (n:Nat):Prop:=(∀i,i+1<n->f i i<=f (i+1) (i+1)/\0<=f i (i+1))/\ ∀i,i<n-> ¬VioP n f i
theorem Dx {d:Nat->Int} (h: ∀j,-1<=d j/\d j<=1): ∀i,∃c,c<3^i/\ ∀j,j<i->dg c j=d j
 |0=>⟨0,by simp,fun j hj=>by omega⟩
 |i+1=>by
  obtain⟨c,h1,h2⟩:=Dx h i;have hd:=h i;refine⟨c+3^i*(d i+1).toNat,?_,fun j hj=>?_⟩
  ·have:(d i+1).toNat<=2:=by omega
   have:=Nat.mul_le_mul_left (3^i) this;rw[Nat.pow_succ];omega
  by_cases e:j=i
  ·subst e;unfold dg;rw[Nat.add_mul_div_left _ _ (Nat.pow_pos (by omega)),Nat.div_eq_of_lt h1,Nat.zero_add,Nat.mod_eq_of_lt (by omega)];omega
  rw[<- h2 j (by omega)];unfold dg
  congr 2
  obtain⟨m,hm⟩: ∃m,i=j+1+m:=⟨i-(j+1),by omega⟩;have e1:3^i*(d i+1).toNat=3^j*(3*(3^m*(d i+1).toNat)):=by
   rw[hm,Nat.pow_add,Nat.pow_succ];simp[Nat.mul_assoc]
  rw[e1,Nat.add_mul_div_left _ _ (Nat.pow_pos (by omega)),Nat.add_mul_mod_self_left]
theorem Pg {n:Nat} {f:FF} {i:Nat} (hi:i<n) {x:Nat->Int} (hb: ∀j,j<i-> -1<=x j/\x j<=1) (h1:x i=1) (h0: ∀j,i<j->j<n->x j=0) (hl:nrm n f x<f i i):VioP n f i:=by
 obtain⟨c,hc,hd⟩:=Dx (d:=fun j=>if j<i then x j else 0) (fun j=>by
  split
  ·rename_i h;exact hb j h
  omega) i
 refine⟨c,hc,?_⟩;rw[qP (y:=x)]
 ·exact hl
 intro j hj;unfold cnd;split
 ·rename_i h;rw[hd j h,if_pos h]
 split
 ·rename_i h;rw[h,h1]
 rw[h0 j (by omega) hj]
def KT (s:Nat->Int) (f:FF):Nat->Nat->Int:=fun i j=>s i*s j*f i j
theorem LW {n:Nat} {s:Nat->Int} {f:FF} (x:Nat->Int):nrm n (KT s f) x=nrm n f (fun i=>s i*x i):=by
 unfold nrm BF KT;refine bf n fun i _=>?_
 rw[<- dI,<- dI];exact bf n fun j _=>by grind
theorem Nc {n:Nat} {s:Nat->Int} {f:FF} (hs: ∀i,s i=1\/s i= -1) {i:Nat} (hi:i<n) (h:VioP n (KT s f) i):VioP n f i:=by
 obtain⟨c,hc,hl⟩:=h;rw[LW]at hl;have hii:KT s f i i=f i i:=by unfold KT;rcases hs i with e|e<;>rw[e]<;>omega
 rw[hii]at hl;have hneg: ∀y:Nat->Int,nrm n f (fun j=>s i*y j)=nrm n f y:=fun y=>by
  rcases hs i with e|e
  ·exact qP fun j _=>by simp only[e];omega
  unfold nrm BF;refine bf n fun k _=>?_
  simp only[e];rw[<- dI,<- dI];exact bf n fun j _=>by grind
 rw[<- hneg]at hl;refine Pg hi (x:=fun j=>s i*(s j*cnd i c j)) (fun j hj=>?_) ?_ (fun j hj _=>?_) hl
 ·have:=DC c j;simp only[cnd,if_pos hj];rcases hs i with e|e<;>rcases hs j with e'|e'<;>rw[e,e']<;>omega
 ·simp only[cnd,Nat.lt_irrefl,if_false,if_true];rcases hs i with e|e<;>rw[e]<;>omega
 simp only[cnd];rw[if_neg (by omega),if_neg (by omega)];simp
def a4 (c:Nat->Int):List AV:=[.p (.raw (.int .i64 (c 0))),.p (.raw (.int .i64 (c 1))),.p (.raw (.int .i64 (c 2))),.p (.raw (.int .i64 (c 3)))]
theorem dS (c:Nat->Int):(a4 c).length=4:=rfl
theorem jj (c:Nat->Int):(a4 c).all fz=true:=rfl
theorem oB (c:Nat->Int) (d:Nat):(a4 c).map (eg d)=a4 c:=rfl
theorem fw (c:Nat->Int):(a4 c).all isPure=true:=rfl
theorem gM (c:Nat->Int):(a4 c).take 4=a4 c:=rfl
theorem mt (c:Nat->Int):(a4 c).drop 4=[]:=rfl
theorem xj (c:Nat->Int) {i:Nat} (h:i<4):(a4 c).drop (i*1)= .p (.raw (.int .i64 (c i)))::(a4 c).drop (i+1):=by
 match i,h with
 |0,_=>rfl
 |1,_=>rfl
 |2,_=>rfl
 |3,_=>rfl
def Pe (c:Nat->Int) (i:Nat) (v:Int):Nat->Int:=fun j=>if j=i then v else c j
theorem xk (c:Nat->Int) {i:Nat} (v:Int) (h:i<4):(a4 c).take (i*1)++[.p (.raw (.int .i64 v))]++(a4 c).drop (i*1+1)=a4 (Pe c i v):=by
 match i,h with
 |0,_=>rfl
 |1,_=>rfl
 |2,_=>rfl
 |3,_=>rfl
theorem pj {c c':Nat->Int} (h: ∀j,j<4->c j=c' j):a4 c=a4 c':=by
 unfold a4;rw[h 0 (by omega),h 1 (by omega),h 2 (by omega),h 3 (by omega)]
abbrev A6 (c:Nat->Int):List OObj:=[⟨62,4,[a4 c]⟩]
abbrev tC (c:Nat->Int):TV:= .agg (a4 c)
structure QW (i code:Nat) where
 j:Nat
 hj:j<=i
def Le (code j:Nat):Nat->Int:=fun l=>if l<j then dg code l else 0
theorem Ht (code:Nat):a4 (Le code 0)=a4 (fun _=>0):=pj fun j _=>if_neg (by omega)
theorem Hs (code j:Nat):a4 (Pe (Le code j) j (dg code j))=a4 (Le code (j+1)):=pj fun l _=>by
 unfold Pe Le;by_cases h:l=j
 ·subst h;simp
 by_cases h2:l<j
 ·simp[h,h2,show l<j+1 by omega]
 simp[h,h2,show ¬l<j+1 by omega]
theorem Lf (code i:Nat):a4 (Pe (Le code i) i 1)=a4 (cnd i code):=pj fun l _=>by
 unfold Pe Le cnd;by_cases h:l=i
 ·subst h;simp
 by_cases h2:l<i<;>simp[h,h2]
theorem xT (i code:Nat) (hi:i<4) (hcode:code<1000):CallC Tryz.prog 120 [.raw (.int .i64 (i:Int)),.raw (.int .i64 (code:Int))] ⟨[],tC (cnd i code)⟩:=by
 refine aJ Tryz.func120 rfl (by kernel_rfl) ?_;rw[Tryz.ntmps120];refine aD fun _ K=>?_;simp(disch:=omega) only[kd,aa,ae];apply K
 refine aD fun _ K=>?_;simp(disch:=omega) only[kd,aa,ab];apply K
 refine aE (aD fun _ K=>?_);simp only[kd];apply K;refine aT (G:=QW i code) (fun g=>⟨(.raw (.int .i64 (i:Int))::.raw (.int .i64 ((code/3^g.j:Nat):Int))::jk::jk::.one (.ptr 4 0 0 0)::.one (.ptr 5 0 0 0)::jk::rN i::rN g.j::j4 (j4 (j4 (jk::[])))),Hm [(4,A6 fun _=>0),(5,A6 (Le code g.j))]⟩) (fun g=>i-g.j) ⟨0,by omega⟩ ?_ ?_
 ·rw[Nat.pow_zero,Nat.div_one];refine aF ⟨rfl,?_,trivial⟩ ?_
  ·show _=[_];rw[Ht];rfl
  simp[wk]
 rintro⟨j,hj⟩;simp only;by_cases hm:j<i
 ·have hj4:j<4:=by omega
  obtain⟨q,hq⟩: ∃q,q=code/3^j:=⟨_,rfl⟩;have hq3:code/3^(j+1)=q/3:=by rw[Nat.pow_succ,hq,Nat.div_div_eq_div_mul]
  have hdg:dg code j=((q%3:Nat):Int)-1:=by rw[hq];rfl
  have hqle:q<=code:=by rw[hq];exact Nat.div_le_self _ _
  rw[<- hq];have e1:Int.tmod (q:Int) 3=((q%3:Nat):Int):=(Int.ofNat_tmod q 3).symm;have e2:IntKind.i64.wrap (Int.tdiv (q:Int) 3)=((q/3:Nat):Int):=by
   rw[Int.tdiv_eq_ediv_of_nonneg (by omega),IntKind.wrap_i64];omega
  have e3:IntKind.i64.wrap (((q%3:Nat):Int)-1)=dg code j:=by rw[hdg,IntKind.wrap_i64];omega
  have a1:=xk (Le code j) (dg code j) hj4;rw[Hs]at a1;refine aD fun _ K=>?_;simp(disch:=omega) only[kd];apply K
  refine bC rfl ?_;refine aE (aK ?_);refine aD fun _ K=>?_;simp only[kd];apply K
  refine aD fun _ K=>?_;simp(disch:=omega) only[kd,aa,e1,e3,hj4,ab,dS,Nat.reduceLeDiff,a1];apply K
  refine aM fun _ K=>?_;simp(disch:=omega) only[kd,aa,e2];apply K
  show bs _ _ _ _;refine aM fun _ K=>?_;simp(disch:=omega) only[kd,aP];apply K
  refine⟨⟨j+1,by omega⟩,by simp only;omega,aF ⟨rfl,rfl,trivial⟩ ?_⟩;rw[hq3];simp[wk]
 have hji:j=i:=by omega
 subst hji;have a1:=xk (Le code j) 1 hi;rw[Lf]at a1;refine aD fun _ K=>?_;simp(disch:=omega) only[kd];apply K
 refine bJ rfl ?_;show bs _ _ _ _;refine aD fun _ K=>?_;simp(disch:=omega) only[kd,aa,hi,ab,dS,Nat.reduceLeDiff,a1];apply K
 refine aD fun _ K=>?_;simp(disch:=omega) only[kd,ab,dS,gM,fw,mt];apply K
 (refine aI ⟨.inr rfl,aH rfl ?_ rfl⟩;simp(disch:=omega) only[kd,Tryz.results120,ab,dS,gM,tC])
def LU (f:FF) (c:Nat->Int) (a b:Nat):Int:=f a b*c a*c b
def nS (n:Nat) (f:FF) (c:Nat->Int) (i j:Nat):Int:=cP (fun a=>cP (LU f c a) n) i+cP (LU f c i) j
theorem IV (n:Nat) (f:FF) (c:Nat->Int) (i:Nat):nS n f c i n=nS n f c (i+1) 0:=by
 unfold nS;rw[cP,cP,Int.add_zero]
theorem IU (n:Nat) (f:FF) (c:Nat->Int):nS n f c n 0=nrm n f c:=by
 unfold nS nrm BF;rw[cP,Int.add_zero];refine bf n fun i _=>?_
 rw[<- dI];exact bf n fun j _=>by unfold LU;grind
theorem jB {x c B:Int} (hc: -1<=c/\c<=1) (hx: -B<=x/\x<=B): -B<=x*c/\x*c<=B:=by
 have:c= -1\/c=0\/c=1:=by omega
 rcases this with rfl|rfl|rfl
 ·rw[Int.mul_neg,Int.mul_one];omega
 ·rw[Int.mul_zero];omega
 rw[Int.mul_one];exact hx
theorem D7 {n:Nat} {f:FF} {c:Nat->Int} {B:Int} (hf: ∀i j,i<n->j<n-> -B<=f i j/\f i j<=B) (hc: ∀j,-1<=c j/\c j<=1) {i j:Nat} (hi:i<n) (hj:j<=n):
  -(((i:Int)+1)*((n:Int)*B))<=nS n f c i j/\nS n f c i j<=((i:Int)+1)*((n:Int)*B):=by
 have hB:0<=B:=by have:=hf i i hi hi;omega
 have ht: ∀a b,a<n->b<n-> -B<=LU f c a b/\LU f c a b<=B:=fun a b ha hb=>jB (hc b) (jB (hc a) (hf a b ha hb))
 have h1:=yr (F:=fun a=>cP (LU f c a) n) (B:=(n:Int)*B) i fun p hp=>yr n fun b hb=>ht p b (by omega) hb
 have h2:=yr (F:=LU f c i) (B:=B) j fun b hb=>ht i b hi (by omega)
 have h3:(j:Int)*B<=(n:Int)*B:=Int.mul_le_mul_of_nonneg_right (by omega) hB;unfold nS;rw[Int.add_mul,Int.one_mul];omega
theorem D3 (n:Nat) (f:FF) (c:Nat->Int) (hn1:1<=n) (hn:n<=4) (hf: ∀i j,i<n->j<n-> -1125899906842624<=f i j/\f i j<=1125899906842624) (hc: ∀j,-1<=c j/\c j<=1):
  CallC Tryz.prog 121 [bi (bu n n f),tC c] ⟨[],.raw (.int .i64 (nrm n f c))⟩:=by
 have hml:=aV n n f;refine aJ Tryz.func121 rfl (by kernel_rfl) ?_;rw[Tryz.ntmps121];refine aD fun _ K=>?_;simp(disch:=omega) only[kd,bi,tC,aa,ae,fw,dS];apply K
 refine aD fun _ K=>?_;simp only[kd];apply K
 refine aE (aD fun _ K=>?_);simp only[kd,aa,hml];apply K;refine aT (G:=jD n) (fun g=>⟨(jk::jk::jk::.one (.ptr 3 0 0 0)::jk::.raw (.int .i64 (nS n f c g.i 0))::j4 (bi (bu n n f)::rN n::rN g.i::j16 (j4 (j4 (jk::[]))))),Hm [(3,A6 c)]⟩) (fun g=>n-g.i) ⟨0,by omega⟩ ?_ ?_
 ·refine aF ⟨rfl,trivial⟩ ?_;simp[wk,nS,cP]
 rintro⟨i,hi⟩;simp only;by_cases hm:i<n
 ·have hr:=bD n f hm;have hi4:i<4:=by omega
  have hrl:=bz n (f i);refine aD fun _ K=>?_;simp(disch:=omega) only[kd,bi];apply K
  refine bC rfl ?_;refine aE (aK ?_);refine aD fun _ K=>?_;simp(disch:=omega) only[kd,aa,hr,fR];apply K
  refine aD fun _ K=>?_;simp only[kd,aa,hrl];apply K
  refine aT (G:=jD n) (fun g=>⟨(jk::jk::jk::.one (.ptr 3 0 0 0)::jk::.raw (.int .i64 (nS n f c i g.i))::rN i::jk::jk::jk::bi (bu n n f)::rN n::rN i::j4 (.one (.p (.sl (ls fI (bG n (f i)))))::rN n::rN g.i::j16 (jk::jk::[]))),Hm [(3,A6 c)]⟩) (fun g=>n-g.i) ⟨0,by omega⟩ ?_ ?_
  ·refine aF ⟨rfl,trivial⟩ ?_;simp[wk]
  rintro⟨j,hj⟩;simp only;by_cases hjn:j<n
  ·have hg:=aU (f i) hjn;have hj4:j<4:=by omega
   have b1:=hf i j hm hjn;have b2:=jB (hc i) b1;have b3:=jB (hc j) b2;have b4:=D7 hf hc hm hj;have b5:=D7 hf hc hm (j:=j+1) (by omega);have e1:IntKind.i64.wrap (f i j*c i)=f i j*c i:=aP (by omega) (by omega);have e2:IntKind.i64.wrap (f i j*c i*c j)=f i j*c i*c j:=aP (by omega) (by omega);have e4:nS n f c i j+f i j*c i*c j=nS n f c i (j+1):=by
    unfold nS;rw[cP,show LU f c i j=f i j*c i*c j from rfl,Int.add_assoc]
   have hb:((i:Int)+1)*((n:Int)*1125899906842624)<=18014398509481984:=by
    have:((i:Int)+1)*((n:Int)*1125899906842624)<=4*((n:Int)*1125899906842624):=Int.mul_le_mul_of_nonneg_right (by omega) (by omega);omega
   have e3:IntKind.i64.wrap (nS n f c i (j+1))=nS n f c i (j+1):=aP (by omega) (by omega);have d1:=xj c hi4;have d2:=xj c hj4;refine aD fun _ K=>?_;simp(disch:=omega) only[kd,bi];apply K
   refine bC rfl ?_;refine aE (aK ?_);refine aD fun _ K=>?_;simp(disch:=omega) only[kd,aa,hg];apply K
   refine gz aZ (by kernel_rfl) fun _ K=>?_;simp(disch:=omega) only[kd,aa,hi4,d1,e1,hj4,d2,e2,e4,e3];apply K
   show bs _ _ _ _;refine aM fun _ K=>?_;simp(disch:=omega) only[kd,aP];apply K
   refine⟨⟨j+1,by omega⟩,by simp only;omega,aF ⟨rfl,trivial⟩ ?_⟩;simp[wk]
  have hjn:j=n:=by omega
  subst hjn;refine aD fun _ K=>?_;simp(disch:=omega) only[kd,bi];apply K
  refine bJ rfl ?_;show bs _ _ _ _;refine aM fun _ K=>?_;simp(disch:=omega) only[kd,aP];apply K
  refine⟨⟨i+1,by omega⟩,by simp only;omega,aF ⟨rfl,trivial⟩ ?_⟩;rw[IV];simp[wk]
 have hin:i=n:=by omega
 subst hin;refine aD fun _ K=>?_;simp(disch:=omega) only[kd,bi];apply K
 refine bJ rfl ?_;show bs _ _ _ _;rw[IU];refine aD fun _ K=>?_;simp only[kd];apply K
 (refine aI ⟨.inr rfl,aH rfl ?_ rfl⟩;simp(disch:=omega) only[kd,Tryz.results121])
theorem Ie {n:Nat} {f:FF} (hf: ∀i j,i<n->j<n->Sz (f i j) 1024): ∀k,k<n->(∀t,t<k->dk f (t+1)≠0)-> ∃s,s+1<=1025*2^k/\ ∀i j,i<n-k->j<n-k->Sz (elF f k i j) s
 |0,_,_=>⟨1024,by omega,fun i j hi hj=>by
  show Sz (bk f 0 (0+i) (0+j)) 1024;rw[dG,Nat.zero_add,Nat.zero_add];exact hf i j (by omega) (by omega)⟩
 |k+1,hk,nz=>by
  obtain⟨s,h1,h2⟩:=Ie hf k (by omega) (fun t ht=>nz t (by omega));refine⟨2*s+1,by rw[Nat.pow_succ];omega,fun i j hi hj=>?_⟩;rw[<- tE (fun t ht=>nz t (by omega))];exact((((h2 0 0 (by omega) (by omega)).mul (h2 (i+1) (j+1) (by omega) (by omega))).sub ((h2 (i+1) 0 (by omega) (by omega)).mul (h2 0 (j+1) (by omega) (by omega)))).ediv _).mono (by omega)
theorem ML {n k i:Nat} (f:FF) (h:i<k):(A8 n f k)[i]?=some (If n f i):=by
 unfold A8;rw[List.getElem?_map,List.getElem?_range h];rfl
structure Rb (n:Nat) (f:FF) where
 i:Nat
 hi:i<=n
 ok: ∀a,a<i->0<dk f (a+1)
theorem Ak (n:Nat) (f:FF) (hn1:1<=n) (hn:n<=16) (hf: ∀i j,i<n->j<n->Sz (f i j) 1024) (r:Bool) (hr:r=true↔PD f n):CallC Tryz.prog 76 [bE (bu n n f)] ⟨[],.raw (.bool r)⟩:=by
 have hQ:=wK n f hn1 hn;have hS:=GY n f hn1 hn hf;have hml:=aV n n f;refine aJ Tryz.func76 rfl (by kernel_rfl) ?_;rw[Tryz.ntmps76];refine aD fun _ K=>?_;simp only[kd,bE,ae];apply K
 refine aG [⟨1,_,_,_,hQ⟩] [] fun _ K=>?_;simp only[kd,bE,aa];apply K
 refine aE (aD fun _ K=>?_);simp only[kd];apply K;refine aO rfl (aL ?_);show bs _ _ _ _;refine aE (aD fun _ K=>?_);simp only[kd];apply K;refine aT (G:=QR n f) (fun g=>⟨(bE (bu n n f)::jk::.raw (.bool false)::j4 (j4 (j4 (jk::jk::rN n::rN g.i::j16 (j16 (j4 (j4 (j4 (jk::[]))))))))),Hm []⟩) (fun g=>n-g.i) ⟨0,by omega,fun a ha=>by omega⟩ ?_ ?_
 ·refine aF trivial ?_;simp[wk]
 rintro⟨i,hi,ok⟩;simp only;by_cases hm:i<n
 ·refine aD fun _ K=>?_;simp(disch:=omega) only[kd,bE];apply K
  refine bC rfl ?_;refine aE (aK ?_);refine aD fun _ K=>?_;simp only[kd];apply K
  refine aD fun _ K=>?_;simp only[kd];apply K
  refine aT (G:=QS n i f) (fun g=>⟨(bE (bu n n f)::jk::.raw (.bool false)::jk::jk::rN i::j4 (j4 (jk::jk::jk::rN n::rN i::jk::jk::rN i::rN g.j::j16 (j16 (j4 (j4 (jk::[]))))))),Hm []⟩) (fun g=>i-g.j) ⟨0,by omega,fun a ha=>by omega⟩ ?_ ?_
  ·refine aF trivial ?_;simp[wk]
  rintro⟨j,hj,okj⟩;simp only;by_cases hm2:j<i
  ·have a1:=bD n f hm;have a2:=bD n f (show j<n by omega);have a3:=aU (f i) (show j<n by omega);have a4:=aU (f j) hm;have c1:=Ot (f i j) (f j i) ((hf i j hm (by omega)).mono (by omega)) ((hf j i (by omega) hm).mono (by omega));by_cases he:f i j=f j i
   ·rw[he,qC]at c1;rw[he]at a3;refine aD fun _ K=>?_;simp(disch:=omega) only[kd,bE];apply K
    refine bC rfl ?_;refine aE (aK ?_);refine aD fun _ K=>?_;simp only[kd];apply K
    refine bv aZ [⟨14,_,_,_,c1⟩] [] (by kernel_rfl) fun _ K=>?_;simp(disch:=omega) only[kd,tZ,aa,a1,fR,a3,fZ,a2,a4];apply K
    refine aO rfl (aL ?_);show bs _ _ _ _;refine aM fun _ K=>?_;simp(disch:=omega) only[kd,aP];apply K
    refine⟨⟨j+1,by omega,fun b hb=>?_⟩,by simp only;omega,aF trivial ?_⟩
    ·by_cases e:b=j
     ·subst e;exact he
     exact okj b (by omega)
    simp[wk]
   have hr0:r=false:=by
    cases r with
    |false=>rfl
    |true=>exact absurd ((hr.1 rfl).1 i hm j (by omega)) he
   subst hr0;have hne:=tj he;refine aD fun _ K=>?_;simp(disch:=omega) only[kd,bE];apply K
   refine bC rfl ?_;refine aE (aK ?_);refine aD fun _ K=>?_;simp only[kd];apply K
   refine bv aZ [⟨14,_,_,_,c1⟩] [] (by kernel_rfl) fun _ K=>?_;simp(disch:=omega) only[kd,tZ,aa,a1,fR,a3,fZ,a2,a4];apply K
   refine aS rfl ?_;refine aD fun _ K=>?_;simp only[kd];apply K
   (refine aI ⟨.inr rfl,aH rfl ?_ rfl⟩;simp(disch:=omega) only[kd,Tryz.results76])
  refine aD fun _ K=>?_;simp(disch:=omega) only[kd,bE];apply K
  refine bJ rfl ?_;show bs _ _ _ _;refine aM fun _ K=>?_;simp(disch:=omega) only[kd,aP];apply K
  refine⟨⟨i+1,by omega,fun a ha b hb=>?_⟩,by simp only;omega,aF trivial ?_⟩
  ·by_cases e:a=i
   ·subst e;exact okj b (by omega)
   exact ok a (by omega) b hb
  simp[wk]
 have hsym:SymF f n:=fun a ha b hb=>by
  rcases Nat.lt_trichotomy a b with h|h|h
  ·exact(ok b (by omega) a h).symm
  ·rw[h]
  exact ok a (by omega) b h
 refine aD fun _ K=>?_;simp(disch:=omega) only[kd,bE];apply K
 refine bJ rfl ?_;show bs _ _ _ _;by_cases hnz:Pk n f
 ·rw[AO hnz]at hS;have hln:=yy n f n;refine aG [⟨1,_,_,_,hS⟩] [] fun _ K=>?_;simp only[kd,bE,aa];apply K
  refine aE (aD fun _ K=>?_);simp only[kd];apply K;refine aO rfl (aL ?_);show bs _ _ _ _;refine aE (aD fun _ K=>?_);simp only[kd,aa,hln];apply K;refine aT (G:=Rb n f) (fun g=>⟨(jk::jk::.raw (.bool false)::j16 (j16 (j4 (j4 (j4 (jk::jk::jk::.one (.p (.sl (ls fM (A8 n f n))))::rN n::rN g.i::j4 (j4 (jk::jk::jk::[])))))))),Hm []⟩) (fun g=>n-g.i) ⟨0,by omega,fun a ha=>by omega⟩ ?_ ?_
  ·refine aF trivial ?_;simp[wk]
  rintro⟨k,hk,okk⟩;simp only;by_cases hkn:k<n
  ·have g1:=ML (n:=n) (k:=n) f hkn;have q1:=bD (n-k) (elF f k) (show 0<n-k by omega);have q2:=aU (elF f k 0) (show 0<n-k by omega);obtain⟨s,hs1,hs2⟩:=Ie hf k hkn (fun t ht=>hnz t (by omega));have h2k:=il (k:=k) (by omega);have hSg:=pA (elF f k 0 0) ((hs2 0 0 (by omega) (by omega)).mono (by omega));rw[mA]at hSg q2;refine aD fun _ K=>?_;simp(disch:=omega) only[kd];apply K
   refine bC rfl ?_;refine aE (aK ?_);refine aD fun _ K=>?_;simp(disch:=omega) only[kd,aa,g1,fM];apply K
   by_cases hp:0<dk f (k+1)
   ·rw[CK hp]at hSg;refine aG [⟨5,_,_,_,hSg⟩] [] fun _ K=>?_;simp(disch:=omega) only[kd,tZ,aa,Int.reduceToNat,q1,fR,q2,fZ,Int.reduceLE];apply K
    refine aO rfl (aL ?_);show bs _ _ _ _;refine aM fun _ K=>?_;simp(disch:=omega) only[kd,aP];apply K
    refine⟨⟨k+1,by omega,fun a ha=>?_⟩,by simp only;omega,aF trivial ?_⟩
    ·by_cases e:a=k
     ·subst e;exact hp
     exact okk a (by omega)
    simp[wk]
   have hr0:r=false:=by
    cases r with
    |false=>rfl
    |true=>exact absurd ((hr.1 rfl).2 k hkn) hp
   subst hr0;have hle:=Em hp;refine aG [⟨5,_,_,_,hSg⟩] [] fun _ K=>?_;simp(disch:=omega) only[kd,tZ,aa,Int.reduceToNat,q1,fR,q2,fZ];apply K
   refine aS rfl ?_;refine aD fun _ K=>?_;simp only[kd];apply K
   (refine aI ⟨.inr rfl,aH rfl ?_ rfl⟩;simp(disch:=omega) only[kd,Tryz.results76])
  have hr1:r=true:=hr.2 ⟨hsym,fun a ha=>okk a (by omega)⟩;subst hr1;refine aD fun _ K=>?_;simp(disch:=omega) only[kd];apply K
  refine bJ rfl ?_;show bs _ _ _ _;refine aD fun _ K=>?_;simp only[kd];apply K
  (refine aI ⟨.inr rfl,aH rfl ?_ rfl⟩;simp(disch:=omega) only[kd,Tryz.results76])
 rw[Ew hnz]at hS;have hr0:r=false:=by
  cases r with
  |false=>rfl
  |true=>exact absurd (fun t ht=>by have:=(hr.1 rfl).2 t (by omega);omega) hnz
 subst hr0;refine aG [⟨1,_,_,_,hS⟩] [] fun _ K=>?_;simp only[kd,bE,aa];apply K
 refine aE (aD fun _ K=>?_);simp only[kd];apply K;refine aS rfl ?_;refine aD fun _ K=>?_;simp only[kd];apply K
 (refine aI ⟨.inr rfl,aH rfl ?_ rfl⟩;simp(disch:=omega) only[kd,Tryz.results76])
/-! isForm -/
def RwOk (n:Nat) (r:List Int):Prop:=r.length=n/\ ∀x∈r,-1125899906842624<=x/\x<=1125899906842624
def vM (M:List (List Int)):Prop:=(1<=M.length/\M.length<=4)/\(∀r∈M,RwOk M.length r)/\PD (ent M) M.length
structure QN (M:List (List Int)) where
 i:Nat
 hi:i<=M.length
 ok: ∀a,a<i-> ∀r,M[a]?=some r->RwOk M.length r
structure QO (r:List Int) where
 j:Nat
 hj:j<=r.length
 ok: ∀b,b<j-> ∀x,r[b]?=some x-> -1125899906842624<=x/\x<=1125899906842624
theorem vM.entB {M:List (List Int)} (h:vM M) {i j:Nat} (hi:i<M.length) (hj:j<M.length): -1125899906842624<=ent M i j/\ent M i j<=1125899906842624:=by
 have hr:=h.2.1 M[i] (List.getElem_mem hi);have e:ent M i j=M[i][j]'(by rw[hr.1];exact hj):=by
  unfold ent;simp[List.getD,hi,hr.1,hj]
 rw[e];exact hr.2 _ (List.getElem_mem _)
theorem Ho {x:Int} (h: -1125899906842624<=x/\x<=1125899906842624):Sz x 1024:=by
 have:Sz x 2:=by unfold Sz;omega
 exact this.mono (by omega)
theorem wR {M:List (List Int)} {i:Nat} {r:List Int} (h:M[i]?=some r):r∈M:=List.mem_of_getElem? h
theorem ww (M:List (List Int)) (r:Bool) (hr:r=true↔vM M):CallC Tryz.prog 35 [bi M] ⟨[],.raw (.bool r)⟩:=by
 by_cases hlen:1<=M.length/\M.length<=4
 ·refine aJ Tryz.func35 rfl (by kernel_rfl) ?_;rw[Tryz.ntmps35];refine aD fun _ K=>?_;simp only[kd,bi,ae];apply K
  refine aE (aD fun _ K=>?_);simp(disch:=omega) only[kd,aa];apply K;refine aO rfl (aL ?_);show bs _ _ _ _;refine aE (aD fun _ K=>?_);simp only[kd,aa];apply K;refine aT (G:=QN M) (fun g=>⟨(bi M::jk::.raw (.bool false)::j4 (j4 (j4 (jk::jk::bi M::rN M.length::rN g.i::j16 (j4 (j4 (j4 (jk::[])))))))),Hm []⟩) (fun g=>M.length-g.i) ⟨0,by omega,fun a ha=>by omega⟩ ?_ ?_
  ·refine aF trivial ?_;simp[wk]
  rintro⟨i,hi,ok⟩;simp only;by_cases hm:i<M.length
  ·obtain⟨q,hq⟩: ∃q,M[i]?=some q:=⟨M[i],List.getElem?_eq_getElem hm⟩;have hqm:=wR hq;refine aD fun _ K=>?_;simp(disch:=omega) only[kd,bi];apply K
   refine bC rfl ?_;refine aE (aK ?_);refine aD fun _ K=>?_;simp(disch:=omega) only[kd,aa,hq,fR];apply K
   by_cases hql:q.length=M.length
   ·refine aE (aD fun _ K=>?_);simp(disch:=omega) only[kd,aa,hql];apply K;refine aO rfl (aL ?_);show bs _ _ _ _;refine aD fun _ K=>?_;simp only[kd,aa,hql];apply K
    refine aT (G:=QO q) (fun g=>⟨(bi M::jk::.raw (.bool false)::jk::.one (.p (.sl (ls fI q)))::j4 (j4 (j4 (bi M::rN M.length::rN i::j4 (j4 (.one (.p (.sl (ls fI q)))::rN M.length::rN g.j::j16 (jk::jk::[]))))))),Hm []⟩) (fun g=>q.length-g.j) ⟨0,by omega,fun a ha=>by omega⟩ ?_ ?_
    ·refine aF trivial ?_;simp[wk]
    rintro⟨j,hj,okj⟩;simp only;by_cases hm2:j<q.length
    ·obtain⟨x,hx⟩: ∃x,q[j]?=some x:=⟨q[j],List.getElem?_eq_getElem hm2⟩;refine aD fun _ K=>?_;simp(disch:=omega) only[kd,bi];apply K
     refine bC rfl ?_;refine aE (aK ?_);refine aD fun _ K=>?_;simp(disch:=omega) only[kd,aa,hx];apply K
     by_cases hlo:x< -1125899906842624
     ·have hr0:r=false:=by
       cases r with
       |false=>rfl
       |true=>have:=((hr.1 rfl).2.1 q hqm).2 x (List.mem_of_getElem? hx);omega
      subst hr0;refine aD fun _ K=>?_;simp(disch:=omega) only[kd,aa,reduceCtorEq];apply K
      refine aS rfl ?_;refine aD fun _ K=>?_;simp only[kd];apply K
      (refine aI ⟨.inr rfl,aH rfl ?_ rfl⟩;simp(disch:=omega) only[kd,Tryz.results35])
     by_cases hhi:1125899906842624<x
     ·have hr0:r=false:=by
       cases r with
       |false=>rfl
       |true=>have:=((hr.1 rfl).2.1 q hqm).2 x (List.mem_of_getElem? hx);omega
      subst hr0;refine aD fun _ K=>?_;simp(disch:=omega) only[kd,aa];apply K
      refine aS rfl ?_;refine aD fun _ K=>?_;simp only[kd];apply K
      (refine aI ⟨.inr rfl,aH rfl ?_ rfl⟩;simp(disch:=omega) only[kd,Tryz.results35])
     refine aD fun _ K=>?_;simp(disch:=omega) only[kd,aa];apply K
     refine aO rfl (aL ?_);show bs _ _ _ _;refine aM fun _ K=>?_;simp(disch:=omega) only[kd,aP];apply K
     refine⟨⟨j+1,by omega,fun b hb y hy=>?_⟩,by simp only;omega,aF trivial ?_⟩
     ·by_cases e:b=j
      ·subst e;rw[hx]at hy;injection hy with hy
       omega
      exact okj b (by omega) y hy
     simp[wk]
    refine aD fun _ K=>?_;simp(disch:=omega) only[kd,bi];apply K
    refine bJ rfl ?_;show bs _ _ _ _;refine aM fun _ K=>?_;simp(disch:=omega) only[kd,aP];apply K
    refine⟨⟨i+1,by omega,fun a ha q' hq'=>?_⟩,by simp only;omega,aF trivial ?_⟩
    ·by_cases e:a=i
     ·subst e;rw[hq]at hq';injection hq' with hq'
      subst hq';refine⟨hql,fun x hx=>?_⟩;obtain⟨b,hb⟩:=List.mem_iff_getElem?.1 hx;exact okj b (by have:=(List.getElem?_eq_some_iff.1 hb).1;omega) x hb
     exact ok a (by omega) q' hq'
    simp[wk]
   have hr0:r=false:=by
    cases r with
    |false=>rfl
    |true=>exact absurd ((hr.1 rfl).2.1 q hqm).1 hql
   subst hr0;refine aE (aD fun _ K=>?_);simp(disch:=omega) only[kd,aa];apply K;refine aS rfl ?_;refine aD fun _ K=>?_;simp only[kd];apply K
   (refine aI ⟨.inr rfl,aH rfl ?_ rfl⟩;simp(disch:=omega) only[kd,Tryz.results35])
  have hall: ∀q∈M,RwOk M.length q:=fun q hq=>by
   obtain⟨a,ha⟩:=List.mem_iff_getElem?.1 hq;exact ok a (by have:=(List.getElem?_eq_some_iff.1 ha).1;omega) q ha
  have eM:=iZ (M:=M) (m:=M.length) fun q hq=>(hall q hq).1
  have hb: ∀i j,i<M.length->j<M.length-> -1125899906842624<=ent M i j/\ent M i j<=1125899906842624:=fun i j hi hj=>by
   have hrw:=hall M[i] (List.getElem_mem hi);have e:ent M i j=M[i][j]'(by rw[hrw.1];exact hj):=by
    unfold ent;simp[List.getD,hi,hrw.1,hj]
   rw[e];exact hrw.2 _ (List.getElem_mem _)
  have hF:=rJ M.length M.length (ent M) hlen.1 (by omega) hlen.1 (by omega) (fun i j hi hj=>by have:=hb i j hi hj;omega);have hD:=Ak M.length (ent M) hlen.1 (by omega) (fun i j hi hj=>Ho (hb i j hi hj)) r ⟨fun h=>(hr.1 h).2.2,fun h=>hr.2 ⟨hlen,hall,h⟩⟩;rw[<- eM]at hF hD;refine aD fun _ K=>?_;simp(disch:=omega) only[kd,bi];apply K
  refine bJ rfl ?_;show bs _ _ _ _;refine aG [⟨1,_,_,_,hF⟩] [] fun _ K=>?_;simp only[kd,bi,yK,aa];apply K
  refine aG [⟨1,_,_,_,hD⟩] [] fun _ K=>?_;simp only[kd,bE,aa];apply K
  (refine aI ⟨.inr rfl,aH rfl ?_ rfl⟩;simp(disch:=omega) only[kd,Tryz.results35])
 have hr0:r=false:=by
  cases r with
  |false=>rfl
  |true=>exact absurd (hr.1 rfl).1 hlen
 subst hr0;by_cases h1:M.length<1
 ·refine aJ Tryz.func35 rfl (by kernel_rfl) ?_;rw[Tryz.ntmps35];refine aD fun _ K=>?_;simp only[kd,bi,ae];apply K
  refine aE (aD fun _ K=>?_);simp(disch:=omega) only[kd,aa,reduceCtorEq];apply K;refine aS rfl ?_;refine aD fun _ K=>?_;simp only[kd];apply K
  (refine aI ⟨.inr rfl,aH rfl ?_ rfl⟩;simp(disch:=omega) only[kd,Tryz.results35])
 refine aJ Tryz.func35 rfl (by kernel_rfl) ?_;rw[Tryz.ntmps35];refine aD fun _ K=>?_;simp only[kd,bi,ae];apply K
 refine aE (aD fun _ K=>?_);simp(disch:=omega) only[kd,aa];apply K;refine aS rfl ?_;refine aD fun _ K=>?_;simp only[kd];apply K
 (refine aI ⟨.inr rfl,aH rfl ?_ rfl⟩;simp(disch:=omega) only[kd,Tryz.results35])
theorem AC (k:Nat->Nat->Bool) (R:List (List Int)):(R.map jf).map (gO k)=R.map jf:=by
 rw[List.map_map];exact List.map_congr_left fun r _=>by simp[gO,jf,xO]
def LE (d n c:Nat) (f:FF) (i j:Nat):List OObj:=⟨27,1,gm d (ae i c)++[.sl d (i+1) 0 (j+1)]::ae (n-i-1) oV⟩::((bu i c f).map jf++[jf (bG (j+1) (f i))])
def Or (d n c:Nat) (f:FF) (i:Nat):Nat->List OObj
 |0=>kI d n c i f
 |j+1=>LE d n c f i j
theorem Iu {d n c i:Nat} (f:FF) (hc:1<=c) (hi:i<n):Or d n c f i c=kI d n c (i+1) f:=by
 obtain⟨j,rfl⟩: ∃j,c=j+1:=⟨c-1,by omega⟩;show LE d n (j+1) f i j=_;unfold LE kI;rw[uc,List.replicate_succ' (n:=i),mX,List.length_replicate];simp[Nat.sub_sub]
theorem DQ {d n c i:Nat} (f:FF) (hi:i<n):kI d n c i f=⟨27,1,gm d (ae i c)++oV::ae (n-i-1) oV⟩::(bu i c f).map jf:=by
 unfold kI;rw[show n-i=n-i-1+1 by omega,List.replicate_succ];rfl
structure Qo (n:Nat) (p:Nat->Prop) where
 i:Nat
 hi:i<=n
 h: ∀a,a<i->p a
theorem xG {l:List (List Int)} {i:Nat} (h:i<l.length):l[i]?=some (l.getD i []):=by
 obtain⟨x,hx⟩:=getElem?_of_lt h;rw[List.getD_eq_getElem?_getD,hx];rfl
def BW (f:FF) (i j:Nat):Nat->Nat->Int:=fun a b=>if(a<i/\b<i)\/(a=i/\b<j)\/(b=i/\a<j)then f a b else 0
theorem Iq {f:FF} {i j:Nat} {v:Int} (h1:f i j=v) (h2:f j i=v) (a b:Nat):upd (upd (BW f i j) i j v) j i v a b=BW f i (j+1) a b:=by
 by_cases c1:a=j/\b=i
 ·obtain⟨rfl,rfl⟩:=c1;rw[yE,<- h2];exact(if_pos (.inr (.inr ⟨rfl,by omega⟩))).symm
 rw[o8 (by omega)];by_cases c2:a=i/\b=j
 ·obtain⟨rfl,rfl⟩:=c2;rw[yE,<- h1];exact(if_pos (.inr (.inl ⟨rfl,by omega⟩))).symm
 rw[o8 (by omega)];unfold BW;have:((a<i/\b<i)\/(a=i/\b<j)\/(b=i/\a<j))↔((a<i/\b<i)\/(a=i/\b<j+1)\/(b=i/\a<j+1)):=by omega
 simp only[this]
theorem LD (f:FF) (i a b:Nat):BW f i (i+1) a b=BW f (i+1) 0 a b:=by
 unfold BW;have:((a<i/\b<i)\/(a=i/\b<i+1)\/(b=i/\a<i+1))↔((a<i+1/\b<i+1)\/(a=i+1/\b<0)\/(b=i+1/\a<0)):=by omega
 simp only[this]
theorem LC {f:FF} {n a b:Nat} (ha:a<n) (hb:b<n):BW f n 0 a b=f a b:=if_pos (.inl ⟨ha,hb⟩)
theorem Ir (f:FF) (a b:Nat):BW f 0 0 a b=0:=if_neg (by omega)
theorem gB (n:Nat) (h t:FF) (a b:Nat):cngF n h t a b=BF n h (fun i=>t i a) (fun j=>t j b):=by
 unfold cngF BF;rw[kD,bf n (G:=fun p=>cP (fun q=>t q a*h q p*t p b) n) (fun p _=>by rw[kD,<- u6];rfl),
  bf n (F:=fun i=>t i a*_) (G:=fun q=>cP (fun p=>t q a*h q p*t p b) n) (fun q _=>by rw[<- dI];exact bf n fun p _=>by grind)]
 exact qa _ _ _
def mf (M:List (List Int)):Prop:=xe M/\(M.headD []).length=M.length/\M.length<=8/\(dk (ent M) M.length).natAbs=1
open Classical in
noncomputable def vn (M:List (List Int)):Bool:=decide (mf M)
theorem vo {M:List (List Int)} (h:mf M):vn M=true:=by simp[vn,h]
theorem l7 {M:List (List Int)} (h: ¬mf M):vn M=false:=by simp[vn,h]
theorem sQ {n:Nat} (f:FF) (hn1:1<=n) (hn:n<=8):mf (bu n n f)↔(dk f n).natAbs=1:=by
 have hl:=aV n n f;have hh:=eI (n:=n) (c:=n) f hn1;have hd:dk (ent (bu n n f)) n=dk f n:=gN fun i j hi hj=>lD f hi hj
 unfold mf;rw[hl,hh,hd];exact⟨fun h=>h.2.2.2,fun h=>⟨iu f hn1 (by omega) hn1 (by omega),rfl,hn,h⟩⟩
theorem mf.eq {M:List (List Int)} (h:mf M):M=bu M.length M.length (ent M):=by
 have:=rZ h.1;rwa[h.2.1]at this
def jp (M:List (List Int)):List (List Int):=bu M.length M.length (trF (ent M))
theorem jv {n c:Nat} (f:FF) {i:Nat} (hi:i<n):(bu n c f).getD i []=bG c (f i):=by
 rw[List.getD_eq_getElem?_getD,bD _ _ hi];rfl
theorem nY {c:Nat} (f:Nat->Int) {j:Nat} (hj:j<c):(bG c f).getD j 0=f j:=by
 rw[List.getD_eq_getElem?_getD,aU _ hj];rfl
theorem EC {M:List (List Int)} {n:Nat} {g:FF} (hM:bA M=true) (hn:M.length=n) {a b:Nat} (ha:a<n) (hb:b<n)
  (h1:FitB n (bG n (trF g a))=true) (h2:FitB n (bG n (trF g b))=true):vG M (bu n n (trF g)) a b=cngF n (ent M) g a b:=by
 unfold vG;rw[jv _ ha,jv _ hb,xJ hM (by rw[hn];exact h1) (by rw[hn];exact h2),hn,gB];exact eG (fun i j _ _=>rfl) (fun i hi=>nY _ hi) (fun i hi=>nY _ hi)
section
variable {n:Nat}
def mV (n:Nat) (t:FF) (x:Nat->Int):Nat->Int:=fun i=>cP (fun a=>x a*t i a) n
theorem C7 (h t:FF) (x y:Nat->Int): ∀m,BF n h (fun i=>cP (fun a=>x a*t i a) m) y=cP (fun a=>x a*BF n h (fun i=>t i a) y) m
 |0=>rY fun _ _=>rfl
 |m+1=>by
  have h1:=jG (n:=n) h (fun i=>cP (fun a=>x a*t i a) m) (fun i=>t i m) y (x m);rw[C7 h t x y m]at h1;exact h1
theorem C8 (h t:FF) (x y:Nat->Int): ∀m,BF n h x (fun i=>cP (fun a=>y a*t i a) m)=cP (fun a=>y a*BF n h x (fun i=>t i a)) m
 |0=>by
  show BF n h x (fun _=>0)=0;unfold BF;rw[bf n (G:=fun _=>0) (fun i _=>by rw[bf n (G:=fun _=>0) (fun j _=>Int.mul_zero _),eQ,Int.mul_zero]),eQ]
 |m+1=>by
  have h1:=ir (n:=n) h x (fun i=>cP (fun a=>y a*t i a) m) (fun i=>t i m) (y m);rw[C8 h t x y m]at h1;exact h1
theorem A9 (h t:FF) (x y:Nat->Int):BF n h (mV n t x) (mV n t y)=BF n (cngF n h t) x y:=by
 unfold mV;rw[C7];unfold BF;refine bf n fun a _=>?_
 congr 1
 have h1:=C8 (n:=n) h t (fun i=>t i a) y n;unfold BF at h1;rw[h1];refine bf n fun b _=>?_
 have h2:=gB n h t a b;unfold BF at h2;rw[h2,Int.mul_comm]
theorem PD.cng {h t:FF} (hr:PD h n) (hd:dk t n≠0):PD (cngF n h t) n:=by
 refine F6 (fun i _ j _=>by rw[gB,gB];exact qr hr.1 _ _) fun x ⟨i,hi,hx⟩=>?_
 rw[<- A9];obtain⟨h1,h2⟩:=hr.pos (mV n t x);rcases Int.lt_or_le 0 (BF n h (mV n t x) (mV n t x))with hl|hl
 ·exact hl
 exfalso;have h3:=h2.1 (by omega);refine hx (B5 hd (fun i hi=>?_) i hi);have:=h3 i hi;unfold mV at this;rw[<- this];exact bf n fun j _=>Int.mul_comm _ _
theorem rA {t:FF} {i:Nat} (hi:i<n) (c:Nat->Int): ∀m,m<=n->dk (dU t i (fun r=>cP (fun j=>c j*t r j) m)) n=if i<m then c i*dk t n else 0
 |0,_=>by rw[if_neg (by omega)];exact r9 hi fun _ _=>rfl
 |m+1,hm=>by
  have h:=mz (R:=t) hi 1 (c m) (fun r=>cP (fun j=>c j*t r j) m) (fun r=>t r m);rw[rA hi c m (by omega)]at h;have e:(fun r=>cP (fun j=>c j*t r j) (m+1))=fun r=>1*cP (fun j=>c j*t r j) m+c m*t r m:=by
   funext r;rw[cP,Int.one_mul]
  rw[e,h];by_cases hmi:m=i
  ·subst hmi;rw[kw,if_neg (by omega),if_pos (by omega)];omega
  rw[pr hi (show m<n by omega) (Ne.symm hmi),Int.mul_zero,Int.add_zero,Int.one_mul];have:i<m+1↔i<m:=by omega
  simp only[this]
theorem DE {t:FF} {i:Nat} (hi:i<n) (c:Nat->Int):dk (dU t i (mV n t c)) n=c i*dk t n:=by
 have:=rA hi c n (ac n) (t:=t);rwa[if_pos hi]at this
theorem HJ {h t:FF} {i:Nat} (c:Nat->Int):cngF n h (dU t i (mV n t c)) i i=nrm n (cngF n h t) c:=by
 rw[gB];unfold nrm;rw[<- A9];exact eG (fun _ _ _ _=>rfl) (fun r _=>if_pos rfl) (fun r _=>if_pos rfl)
theorem zq {h t:FF} {i a b:Nat} (S:Nat->Int) (ha:a≠i) (hb:b≠i):cngF n h (dU t i S) a b=cngF n h t a b:=by
 rw[gB,gB];exact eG (fun _ _ _ _=>rfl) (fun r _=>if_neg ha) (fun r _=>if_neg hb)
theorem PD.ent {f:FF} (hr:PD f n) {i j:Nat} (hi:i<n) (hj:j<n):f i j*f i j<=f i i*f j j:=by
 have e: ∀a b,a<n->b<n->BF n f (eC a) (eC b)=f a b:=fun a b ha hb=>by
  have e1: ∀(F:Nat->Int) a,a<n->cP (fun j=>F j*eC a j) n=F a:=fun F a ha=>by
   rw[i6 ha (fun p _ hne=>by unfold eC;rw[if_neg hne,Int.mul_zero])];unfold eC;rw[if_pos rfl,Int.mul_one]
  unfold BF;rw[bf n (G:=fun k=>f k b*eC a k) (fun k _=>by rw[e1 (f k) b hb];exact Int.mul_comm _ _),e1 (fun k=>f k b) a ha]
 have:=hr.schwarz (eC i) (eC j);rwa[e i j hi hj,e i i hi hi,e j j hj hj]at this
theorem PD.diag {f:FF} (hr:PD f n) {i:Nat} (hi:i<n):0<f i i:=by
 have h:=hr.pos (eC i);have e:=un (f:=f) hi;unfold nrm at e;rw[e]at h;rcases Int.lt_or_le 0 (f i i)with hl|hl
 ·exact hl
 have:=h.2.1 (by omega) i hi;simp[eC]at this
end
section
variable {n:Nat}
def insB (N:(Nat->Int)->Int) (B:FF):Nat->Nat->Nat->Int
 |0=>B
 |j+1=>if N (B (j+1))<N (B j)then insB N (swp (j+1) j B) j else B
theorem CS {p k:Nat} {B:FF}:swp p k B p=if p=k then B p else B k:=by
 unfold swp;by_cases h:p=k<;>simp[h]
theorem CT {p k:Nat} {B:FF}:swp p k B k=B p:=by
 unfold swp;by_cases h:k=p
 ·subst h;simp
 simp[h]
theorem rc {p k a:Nat} {B:FF} (h1:a≠p) (h2:a≠k):swp p k B a=B a:=by unfold swp;simp[h1,h2]
theorem pC (N:(Nat->Int)->Int): ∀j B a,j<a->insB N B j a=B a
 |0,_,_,_=>rfl
 |j+1,B,a,h=>by
  rw[insB];split
  ·rw[pC N j _ a (by omega),rc (by omega) (by omega)]
  rfl
theorem tU (N:(Nat->Int)->Int) {Q:(Nat->Int)->Prop}: ∀j B,(∀a,a<=j->Q (B a))-> ∀a,a<=j->Q (insB N B j a)
 |0,_,h,a,ha=>h a ha
 |j+1,B,h,a,ha=>by
  rw[insB];split
  ·by_cases e:a<=j
   ·refine tU N j _ (fun c hc=>?_) a e;by_cases ec:c=j
    ·subst ec;rw[CT];exact h _ (by omega)
    rw[rc (by omega) ec];exact h c (by omega)
   rw[pC N j _ a (by omega)];obtain rfl:a=j+1:=by omega
   rw[CS,if_neg (by omega)];exact h j (by omega)
  exact h a ha
def yX (N:(Nat->Int)->Int) (B:FF) (i:Nat):Prop:= ∀a,a+1<i->N (B a)<=N (B (a+1))
theorem yX.le {N:(Nat->Int)->Int} {B:FF} {i:Nat} (h:yX N B i) {b:Nat} (hb:b<i): ∀a,a<=b->N (B a)<=N (B b):=fun a ha=>by
 obtain⟨m,rfl⟩: ∃m,b=a+m:=⟨b-a,by omega⟩
 induction m with
 |zero=>exact Int.le_refl _
 |succ m ih=>
  have:=ih (by omega) (by omega);have h2:=h (a+m) (by omega);rw[<- Nat.add_assoc];omega
theorem zK (N:(Nat->Int)->Int): ∀j B,yX N B j->yX N (insB N B j) (j+1)
 |0,_,_=>fun a ha=>by omega
 |j+1,B,h=>by
  intro a ha;rw[insB];by_cases hl:N (B (j+1))<N (B j)
  ·rw[if_pos hl];have h':yX N (swp (j+1) j B) j:=fun c hc=>by
    rw[rc (by omega) (by omega),rc (by omega) (by omega)];exact h c (by omega)
   by_cases e:a+1<j+1
   ·exact zK N j _ h' a e
   obtain rfl:a=j:=by omega
   rw[pC N a _ (a+1) (by omega),CS,if_neg (by omega)];refine tU N (Q:=fun x=>N x<=N (B a)) a _ (fun c hc=>?_) a (ac _);by_cases ec:c=a
   ·subst ec;rw[CT];omega
   rw[rc (by omega) ec];exact h.le (by omega) c hc
  rw[if_neg hl];by_cases e:a+1<j+1
  ·exact h a e
  obtain rfl:a=j:=by omega
  omega
theorem O8 {B:FF} {p k:Nat}:trF (swp p k B)=fun i c=>if c=p then trF B i k else if c=k then trF B i p else trF B i c:=by
 funext i c;unfold trF swp;split
 ·rfl
 split<;>rfl
theorem DT (N:(Nat->Int)->Int): ∀j B,j<n->(dk (trF (insB N B j)) n).natAbs=(dk (trF B) n).natAbs
 |0,_,_=>rfl
 |j+1,B,h=>by
  rw[insB];split
  ·rw[DT N j _ (by omega),O8,tp h (by omega) (by omega),Int.natAbs_neg]
  rfl
def A7 (N:(Nat->Int)->Int) (B:FF) (n:Nat):Int:=cP (fun a=>N (B a)) n
theorem Ep (F:Nat->Int) {j:Nat}: ∀{m},j+1<m->cP F m=cP (fun a=>if a=j then F (j+1)else if a=j+1 then F j else F a) m
 |m+1,h=>by
  rw[cP,cP];by_cases e:j+1<m
  ·rw[Ep F e,if_neg (by omega),if_neg (by omega)]
  obtain rfl:m=j+1:=by omega
  rw[if_neg (by omega),if_pos rfl,cP,cP,if_pos rfl,bf j (F:=fun a=>if a=j then _ else _) (G:=F) (fun p hp=>by rw[if_neg (by omega),if_neg (by omega)])];omega
theorem zL (N:(Nat->Int)->Int): ∀j B,j<n->A7 N (insB N B j) n=A7 N B n
 |0,_,_=>rfl
 |j+1,B,h=>by
  rw[insB];split
  ·rw[zL N j _ (by omega)];unfold A7;rw[Ep (fun a=>N (B a)) h];refine bf n fun a _=>?_
   by_cases e1:a=j
   ·subst e1;rw[if_pos rfl,CT]
   by_cases e2:a=j+1
   ·subst e2;rw[if_neg e1,if_pos rfl,CS,if_neg (by omega)]
   rw[if_neg e1,if_neg e2,rc e2 e1]
  rfl
def lY (N:(Nat->Int)->Int) (B:FF):Nat->Nat->Nat->Int
 |0=>B
 |i+1=>insB N (lY N B i) i
theorem AM (N:(Nat->Int)->Int) (B:FF): ∀i,yX N (lY N B i) i
 |0=>fun a ha=>by omega
 |i+1=>zK N i _ (AM N B i)
theorem qc (N:(Nat->Int)->Int) {Q:(Nat->Int)->Prop} {B:FF} (h: ∀a,a<n->Q (B a)): ∀i,i<=n-> ∀a,a<n->Q (lY N B i a)
 |0,_=>h
 |i+1,hi=>fun a ha=>by
  rw[lY];by_cases e:a<=i
  ·exact tU N i _ (fun c hc=>qc N h i (by omega) c (by omega)) a e
  rw[pC N i _ a (by omega)];exact qc N h i (by omega) a ha
theorem Ev (N:(Nat->Int)->Int) (B:FF): ∀i,i<=n->(dk (trF (lY N B i)) n).natAbs=(dk (trF B) n).natAbs
 |0,_=>rfl
 |i+1,hi=>by rw[lY,DT N i _ (by omega),Ev N B i (by omega)]
theorem u9 (N:(Nat->Int)->Int) (B:FF): ∀i,i<=n->A7 N (lY N B i) n=A7 N B n
 |0,_=>rfl
 |i+1,hi=>by rw[lY,zL N i _ (by omega),u9 N B i (by omega)]
end
section
variable {n:Nat}
def gmB (n:Nat) (h B:FF):Nat->Nat->Int:=fun a b=>BF n h (B a) (B b)
theorem DP (h B:FF):gmB n h B=cngF n h (trF B):=by
 funext a b;rw[gB];rfl
open Classical in
noncomputable def rj (n:Nat) (f:FF):Nat->Nat->Option Nat
 |0,_=>none
 |m+1,i=>if VioP n f i then some i else rj n f m (i+1)
noncomputable def rW (n:Nat) (f:FF):Option Nat:=rj n f n 0
theorem kR {f:FF}: ∀m i r,rj n f m i=some r->i<=r/\r<i+m/\VioP n f r/\ ∀a,i<=a->a<r-> ¬VioP n f a
 |0,_,_,h=>by cases h
 |m+1,i,r,h=>by
  rw[rj]at h;split at h
  ·rename_i hv;injection h with h
   subst h;exact⟨ac _,by omega,hv,fun a h1 h2=>by omega⟩
  rename_i hv;obtain⟨h1,h2,h3,h4⟩:=kR m (i+1) r h;refine⟨by omega,by omega,h3,fun a ha hb=>?_⟩;by_cases e:a=i
  ·subst e;exact hv
  exact h4 a (by omega) hb
theorem rk {f:FF}: ∀m i,rj n f m i=none-> ∀a,i<=a->a<i+m-> ¬VioP n f a
 |0,_,_=>fun a h1 h2=>by omega
 |m+1,i,h=>by
  rw[rj]at h;split at h
  ·cases h
  rename_i hv;intro a h1 h2;by_cases e:a=i
  ·subst e;exact hv
  exact rk m (i+1) h a (by omega) (by omega)
def mO (n:Nat) (h B:FF):Nat->Nat->Int:=lY (nrm n h) B n
def jy (n:Nat) (h S:FF) (i:Nat):Nat->Nat->Int:=fun k=>if k=i then mV n (trF S) (kj n (gmB n h S) i (3^i))else S k
inductive RchB (n:Nat) (h:FF):(Nat->Nat->Int)->(Nat->Nat->Int)->Prop
 |done (B:FF):rW n (gmB n h (mO n h B))=none->RchB n h B (mO n h B)
 |step (B R:FF) (i:Nat):rW n (gmB n h (mO n h B))=some i->RchB n h (jy n h (mO n h B) i) R->RchB n h B R
structure InB2 (n:Nat) (h:FF) (W:Int) (B:FF):Prop where
 nr: ∀a,a<n->nrm n h (B a)<=W
 dt:(dk (trF B) n).natAbs=1
theorem InB2.ord {h B:FF} {W:Int} (hB:InB2 n h W B):InB2 n h W (mO n h B):=
 ⟨qc _ (Q:=fun x=>nrm n h x<=W) hB.nr n (ac n),by unfold mO;rw[Ev _ _ n (ac n)];exact hB.dt⟩
theorem J2 {F G:Nat->Int} {i:Nat}: ∀{m},i<m->(∀a,a<m->a≠i->F a=G a)->F i<G i->cP F m<cP G m
 |m+1,hi,h,hl=>by
  rw[cP,cP];by_cases e:i=m
  ·subst e;rw[bf i fun p hp=>h p (by omega) (by omega)];omega
  have:=J2 (m:=m) (by omega) (fun a ha hne=>h a (by omega) hne) hl;rw[h m (by omega) (Ne.symm e)];omega
theorem o7 {F:Nat->Int}: ∀m,(∀a,a<m->0<=F a)->0<=cP F m
 |0,_=>by simp[cP]
 |m+1,h=>by
  have:=o7 m fun a ha=>h a (by omega)
  have:=h m (by omega);rw[cP];omega
theorem Au {h S:FF} {i:Nat}:nrm n h (jy n h S i i)=nrm n (gmB n h S) (kj n (gmB n h S) i (3^i)):=by
 unfold jy;rw[if_pos rfl];unfold nrm;rw[A9,<- DP]
theorem Av {h S:FF} {i:Nat} (hi:i<n) (hv:VioP n (gmB n h S) i):A7 (nrm n h) (jy n h S i) n<A7 (nrm n h) S n:=by
 refine J2 hi (fun a _ hne=>?_) ?_
 ·show nrm n h (jy n h S i a)=_;unfold jy;rw[if_neg hne]
 show nrm n h (jy n h S i i)<nrm n h (S i);rw[Au];exact CN hi hv
theorem O7 {h S:FF} {i:Nat}:trF (jy n h S i)=dU (trF S) i (mV n (trF S) (kj n (gmB n h S) i (3^i))):=by
 funext r c;unfold trF jy dU;split<;>rfl
theorem InB2.rep {h S:FF} {W:Int} {i:Nat} (hS:InB2 n h W S) (hi:i<n) (hv:VioP n (gmB n h S) i):InB2 n h W (jy n h S i):=by
 refine⟨fun a ha=>?_,?_⟩
 ·by_cases e:a=i
  ·subst e;rw[Au];have h1:=CN hi hv;have h2:=hS.nr a hi;have h3:gmB n h S a a=nrm n h (S a):=rfl;omega
  unfold jy;rw[if_neg e];exact hS.nr a ha
 rw[O7,DE hi,(yp n (gmB n h S) i (3^i)).1,Int.one_mul];exact hS.dt
theorem At {h:FF} (hp:PD h n) {W:Int}: ∀(m:Nat) (B:FF),(A7 (nrm n h) B n).toNat=m->InB2 n h W B-> ∃R,RchB n h B R:=fun m=>by
 induction m using Nat.strongRecOn with
 |_ m ih=>
  intro B hm hB;cases hv:rW n (gmB n h (mO n h B))with
  |none=>exact⟨_,.done B hv⟩
  |some i=>
   obtain⟨_,h1,h2,_⟩:=kR n 0 i hv;have hi:i<n:=by omega
   have hO:=hB.ord;have hsum:=Av hi h2;have hso:A7 (nrm n h) (mO n h B) n=A7 (nrm n h) B n:=u9 _ _ n (ac n);have hnn: ∀B',0<=A7 (nrm n h) B' n:=fun B'=>o7 n fun a _=>(hp.pos (B' a)).1
   have h3:=hnn (jy n h (mO n h B) i);have h4:=hnn B;obtain⟨R,hR⟩:=ih (A7 (nrm n h) (jy n h (mO n h B) i) n).toNat (by omega) _ rfl (hO.rep hi h2);exact⟨R,.step B R i hv hR⟩
theorem As {h B R:FF} {W:Int} (hr:RchB n h B R) (hB:InB2 n h W B):InB2 n h W R/\yX (nrm n h) R n/\ ∀i,i<n-> ¬VioP n (gmB n h R) i:=by
 induction hr with
 |done B hv=>exact⟨hB.ord,AM _ _ n,fun i hi=>rk n 0 hv i (by omega) (by omega)⟩
 |step B R i hv _ ih=>
  obtain⟨_,h1,h2,_⟩:=kR n 0 i hv;exact ih (hB.ord.rep (by omega) h2)
/-! Signs. -/
def md (g:FF):Nat->Int
 |0=>1
 |i+1=>if md g i*g i (i+1)<0 then -1 else 1
theorem n6 (g:FF): ∀i,md g i=1\/md g i= -1
 |0=> .inl rfl
 |i+1=>by rw[md];split<;>simp
theorem OQ (g:FF) (i:Nat):0<=md g i*md g (i+1)*g i (i+1):=by
 have e:md g i*md g (i+1)*g i (i+1)=md g (i+1)*(md g i*g i (i+1)):=by grind
 rw[e,md];split
 ·omega
 omega
def uX (g B:FF):Nat->Nat->Int:=fun k j=>md g k*B k j
theorem Is (h g B:FF):gmB n h (uX g B)=KT (md g) (gmB n h B):=by
 funext a b;unfold gmB uX KT BF;rw[<- dI];refine bf n fun i _=>?_
 rw[bf n (G:=fun j=>md g b*(h i j*B b j)) (fun j _=>by grind),dI];grind
theorem JY {g B:FF}: ∀m,m<=n->(dk (trF fun k j=>if k<m then md g k*B k j else B k j) n).natAbs=(dk (trF B) n).natAbs
 |0,_=>by simp
 |m+1,hm=>by
  rw[<- JY (g:=g) (B:=B) m (by omega)];have h1:=mz (R:=trF fun k j=>if k<m then md g k*B k j else B k j) (n:=n) (a:=m) (by omega) (md g m) 0 (fun i=>B m i) (fun i=>B m i);have e1:dU (trF fun k j=>if k<m then md g k*B k j else B k j) m (fun i=>md g m*B m i+0*B m i)=trF fun k j=>if k<m+1 then md g k*B k j else B k j:=by
   funext r c;unfold dU trF;by_cases e:c=m
   ·subst e;rw[if_pos rfl];show md g c*B c r+0*B c r=if c<c+1 then md g c*B c r else B c r
    rw[if_pos (by omega)];omega
   have:c<m+1↔c<m:=by omega
   rw[if_neg e];simp only[this]
  have e2:dU (trF fun k j=>if k<m then md g k*B k j else B k j) m (fun i=>B m i)=trF fun k j=>if k<m then md g k*B k j else B k j:=by
   funext r c;unfold dU trF;by_cases e:c=m
   ·subst e;rw[if_pos rfl];show B c r=if c<c then md g c*B c r else B c r
    rw[if_neg (by omega)]
   rw[if_neg e]
  rw[e1,e2]at h1;rw[h1];rcases n6 g m with e|e<;>rw[e]<;>simp
theorem IP {h R:FF} (hs:yX (nrm n h) R n) (hv: ∀i,i<n-> ¬VioP n (gmB n h R) i):MinkP (gmB n h (uX (gmB n h R) R)) n:=by
 rw[Is];refine⟨fun i hi=>⟨?_,OQ _ _⟩,fun i hi hw=>hv i hi (Nc (n6 _) hi hw)⟩;have h1:=hs i hi;have e: ∀k,KT (md (gmB n h R)) (gmB n h R) k k=nrm n h (R k):=fun k=>by
  unfold KT gmB nrm;rcases n6 (gmB n h R) k with e|e
  ·unfold gmB at e;rw[e];omega
  unfold gmB at e;rw[e];omega
 rw[e,e];exact h1
end
end Go.Proofs.YtfgeomlagfomgaaGreatDoor
