/-
  Part 20 of a proof (walks and plain facts).
-/
import Derived.Test.YtiollbhgpiiodaaGreatDoorP18
set_option linter.all false
set_option maxRecDepth 100000
set_option maxHeartbeats 64000000
open Nat renaming reduceAdd → aa
open Nat renaming reduceEqDiff → ae
open Nat renaming le_refl → af
open List renaming replicate → ag
open Nat renaming reduceLeDiff → aj
open Int renaming reduceToNat → ao
open List renaming length_replicate → az
open Nat renaming le_trans → aB
namespace Go.Proofs.YtiollbhgpiiodaaGreatDoor
open Go.RowKit
def elF (f:FF) (k:Nat):Nat->Nat->Int:=fun i j=>bk f k (k+i) (k+j)
abbrev G9 (n:Nat) (f:FF) (k:Nat):List (List Int):=bx (n-k) (n-k) (elF f k)
def Aw (n:Nat) (f:FF) (k:Nat):List (List (List Int)):=(List.range k).map (G9 n f)
theorem Jd (n:Nat) (f:FF) (k:Nat):Aw n f k++[G9 n f k]=Aw n f (k+1):=by simp[Aw,List.range_succ]
theorem x7 (n:Nat) (f:FF) (k:Nat):(Aw n f k).length=k:=by simp[Aw]
theorem Ha (n:Nat) (f:FF):bx n n f=G9 n f 0:=gX fun i j _ _=>by
 show f i j=bk f 0 (0+i) (0+j);rw[dr,Nat.zero_add,Nat.zero_add]
theorem td {f:FF} {k:Nat} (hd: ∀t,t<k->dk f (t+1)≠0) (i j:Nat):
  (elF f k 0 0*elF f k (i+1) (j+1)-elF f k (i+1) 0*elF f k 0 (j+1))/dk f k=elF f (k+1) i j:=by
 have h0:dk f k≠0:=by
  cases k with
  |zero=>rw[de];decide
  |succ k=>exact hd k (Nat.lt_succ_self k)
 have h:=sylv f k hd (k+1+i) (k+1+j);have e:elF f k 0 0*elF f k (i+1) (j+1)-elF f k (i+1) 0*elF f k 0 (j+1)=dk f k*elF f (k+1) i j:=by
  unfold elF;rw[Nat.add_zero,<- b8,show k+(i+1)=k+1+i by omega,show k+(j+1)=k+1+j by omega,h]
 rw[e,Int.mul_ediv_cancel_left _ h0]
theorem mm (f:FF) (k:Nat):elF f k 0 0=dk f (k+1):=by
 unfold elF;rw[Nat.add_zero,b8]
def fM (M:List (List Int)):List PV:=[.sl (ls (fR fZ) M)]
theorem Hv (l:List (List (List Int))) (M:List (List Int)):lc fM l++[[.p (.sl (ls (fR fZ) M))]]=lc fM (l++[M]):=by simp[lc,fM]
def OP (n:Nat) (f:FF):Prop:= ∀t,t+1<n->dk f (t+1)≠0
open Classical in
noncomputable def OA (n:Nat) (f:FF):TV:=if OP n f then .tup [(false,[.p (.sl (ls fM (Aw n f n)))]),(false,[.p (.raw (.bool true))])]else .tup [(false,[.p (.raw (.slice none 0 0))]),(false,[.p (.raw (.bool false))])]
theorem Ag {n:Nat} {f:FF} (h:OP n f):OA n f= .tup [(false,[.p (.sl (ls fM (Aw n f n)))]),(false,[.p (.raw (.bool true))])]:=if_pos h
theorem DU {n:Nat} {f:FF} (h: ¬OP n f):OA n f= .tup [(false,[.p (.raw (.slice none 0 0))]),(false,[.p (.raw (.bool false))])]:=if_neg h
structure QL (n:Nat) (f:FF) where
 k:Nat
 s:Nat
 hk:k<n
 nz: ∀t,t<k->dk f (t+1)≠0
 hs:s+1<=1025*2^k
 sz: ∀i j,i<n-k->j<n-k->Sz (elF f k i j) s
 sl:Sz (dk f k) s
theorem Gf (n:Nat) (f:FF) (hn1:1<=n) (hn:n<=16) (hf: ∀i j,i<n->j<n->Sz (f i j) 1024):CallC Tryz.prog 132 [bJ (bx n n f)] ⟨[],OA n f⟩:=by
 have hQ:=we n f hn1 hn;have h1:=y6 1 (by omega) (by omega);have hT:=L5 147 (sW (bx n n f)) n n f hn1 hn hn1 hn (fun i j hi hj=>Oy hi hj hn ((hf i j hi hj).mono (by omega)));refine aJ Tryz.func132 rfl (by kernel_rfl) ?_;rw[Tryz.ntmps132];refine aF fun _ K=>?_;simp(disch:=omega) only[kd,aa,bJ,ag];apply K
 refine Ee ?_;refine aI [⟨1,_,_,_,hQ⟩] [] fun _ K=>?_;simp only[kd,bJ,aa];apply K
 refine aH (aF fun _ K=>?_);simp only[kd];apply K;refine aU rfl (aO ?_);show bu _ _ _ _;refine bu.weak ((l9 1 1 (cs:=sW (bx n n f)) rfl rfl).trans (aG (tm:=(jk::.one (.p (.ptr (sW (bx n n f))))::.raw (.slice none 0 0)::.raw (.bool false)::rN n::j16 (j16 (j16 (j4 (j4 (jk::[]))))))) (l:=[]) trivial (by simp[wk,gO,fj]))) ?_;refine aI [⟨3,_,_,_,hT⟩] [] fun _ K=>?_;simp only[kd,bJ,aa,jg];apply K
 refine aI [⟨0,_,_,_,h1⟩] [] fun _ K=>?_;simp(disch:=omega) only[kd,tZ,aa];apply K
 refine aF fun _ K=>?_;simp only[kd];apply K
 refine aH (Ed ?_);show bu _ _ _ _;refine aH (aF fun _ K=>?_);simp only[kd];apply K;refine aZ (G:=QL n f) (fun g=>⟨(jk::jk::.raw (.slice none 0 0)::.raw (.bool false)::rN n::jk::bJ (G9 n f g.k)::.one (.ptr 7 0 0 0)::.one (.sl 30 0 0 g.k)::j4 (j4 (j4 (jk::jk::rN n::rN g.k::j16 (j16 (j4 (jk::[]))))))),Hm [(7,uO (dk f g.k)),(30,[⟨37,1,lc fM (Aw n f g.k)⟩])]⟩) (fun g=>n-g.k) ⟨0,1024,by omega,fun t ht=>by omega,by omega,fun i j hi hj=>?_,?_⟩ ?_ ?_
 ·show Sz (bk f 0 (0+i) (0+j)) 1024;rw[dr,Nat.zero_add,Nat.zero_add];exact hf i j (by omega) (by omega)
 ·show Sz (dk f 0) 1024;rw[de];exact oN (by omega)
 ·refine(eK (k:=8) (d:=30) 37 1 (by omega) rfl rfl).trans (aG ⟨?_,rfl,trivial⟩ ?_)
  ·rw[de];rfl
  simp[wk];exact congrArg _ (Ha n f).symm
 rintro⟨k,s,hk,nz,hs,sz,sl⟩;simp only;have h2k:=kB (k:=k) (by omega);have hsb:s<=67174400:=by omega
 have q1:=bD (n-k) (elF f k) (show 0<n-k by omega);have q2:=aY (elF f k 0) (show 0<n-k by omega);have hSg:=rI (elF f k 0 0) ((sz 0 0 (by omega) (by omega)).mono (by omega));have hsn:=Jd n f k;have hln:=x7 n f k;refine aF fun _ K=>?_;simp(disch:=omega) only[kd,bJ];apply K
 refine bM rfl ?_;refine aH (aM ?_);refine aF fun _ K=>?_;simp only[kd];apply K
 refine aF fun _ K=>?_;simp(disch:=omega) only[kd,aa,Nat.reduceMul,aj,ae,hln,Hv,hsn,Nat.reduceBEq];apply K
 refine aH (aM ?_);by_cases hkn:k=n-1
 ·have hnz:OP n f:=fun t ht=>nz t (by omega)
  rw[Ag hnz];refine aF fun _ K=>?_;simp(disch:=omega) only[kd,aa,aT];apply K
  refine bf rfl (bK ?_);show bu _ _ _ _;have hk1:k+1=n:=by omega
  rw[hk1];have hlen:=x7 n f n;refine aF fun _ K=>?_;simp only[kd,aa];apply K
  refine aK ⟨.inr rfl,lI 30 (cJ rfl) ?_ rfl⟩;have eT:List.take n (Aw n f n)=Aw n f n:=List.take_of_length_le (by rw[hlen];exact af _);simp(disch:=omega) only[kd,Tryz.results132,ae,eT]
 refine aF fun _ K=>?_;simp(disch:=omega) only[kd,aa,aT];apply K
 refine aU rfl ?_;by_cases hz:dk f (k+1)=0
 ·have hno: ¬OP n f:=fun h=>h k (by omega) hz
  rw[DU hno];rw[mm,hz]at hSg;refine aI [⟨5,_,_,_,hSg⟩] [] fun _ K=>?_;simp(disch:=omega) only[kd,tZ,xV,aa,ao,q1,fR,q2,mm,hz,fZ];apply K
  refine bf rfl ?_;refine aF fun _ K=>?_;simp only[kd];apply K
  (refine aK ⟨.inr rfl,aL rfl ?_ rfl⟩;simp(disch:=omega) only[kd,Tryz.results132])
 have hs0:=I3 hz;rw[mm]at hSg q2;refine aI [⟨5,_,_,_,hSg⟩] [] fun _ K=>?_;simp(disch:=omega) only[kd,tZ,aa,ao,q1,fR,q2,fZ];apply K
 refine aU rfl (aO ?_);show bu _ _ _ _;refine aF fun _ K=>?_;simp(disch:=omega) only[kd,aa,ae];apply K
 refine bu.weak ((l9 10 10 (cs:=sW (G9 n f k)) rfl rfl).trans (aG (tm:=(jk::jk::.raw (.slice none 0 0)::.raw (.bool false)::rN n::jk::jk::.one (.ptr 7 0 0 0)::.one (.sl 30 0 0 (k+1))::rN k::.one (.p (.ptr (sW (G9 n f k))))::j4 (j4 (j4 (.raw (.int .i64 (n:Int))::rN k::j16 (j16 (j4 (jk::[])))))))) (l:=[(7,uO (dk f k)),(30,[⟨37,1,lc fM (Aw n f (k+1))⟩])]) ⟨rfl,rfl,trivial⟩ (by simp[wk,gO,fj]))) ?_;refine aH (AF 7 (cs:=fZ (dk f k)) rfl fun b=>?_);refine eA.weak (aG (tm:=(jk::jk::.raw (.slice none 0 0)::.raw (.bool false)::rN n::jk::jk::dq b::.one (.sl 30 0 0 (k+1))::rN k::.one (.p (.ptr (sW (G9 n f k))))::j4 (j4 (j4 (.raw (.int .i64 (n:Int))::rN k::j16 (j16 (j4 (jk::[])))))))) (l:=[(30,[⟨37,1,lc fM (Aw n f (k+1))⟩])]) ⟨rfl,trivial⟩ (by simp[wk,tA,kp])) ?_;have hd0:dk f k≠0:=by
  cases k with
  |zero=>rw[de];decide
  |succ k=>exact nz k (by omega)
 have hT2:=L6 149 (sW (G9 n f k)) b 32 (fZ (dk f k)) (n-(k+1)) (n-(k+1)) (fun i j=>(elF f k 0 0*elF f k (i+1) (j+1)-elF f k (i+1) 0*elF f k 0 (j+1))/dk f k) (by omega) (by omega) (by omega) (by omega)
  (fun i j hi hj=>Oz b (by omega) (by omega) (by omega) s hsb sz sl hd0)
 rw[gX fun i j _ _=>td (f:=f) (k:=k) nz i j]at hT2;have en:((n-(k+1):Nat):Int)=(n:Int)-(k:Int)-1:=by omega
 rw[en]at hT2;refine gU 9 hT2 [] [] (by kernel_rfl) (by rfl) (by rfl) fun _ K=>?_;simp(disch:=omega) only[kd,bJ,aa,dq,aT,jg];apply K
 refine⟨rfl,?_⟩;show bu _ _ _ _;refine bu.weak (aG (tm:=(jk::jk::.raw (.slice none 0 0)::.raw (.bool false)::rN n::jk::bJ (G9 n f (k+1))::.one (.ptr 7 0 0 0)::.one (.sl 30 0 0 (k+1))::jk::.one (.p (.ptr (sW (G9 n f k))))::j4 (j4 (j4 (.raw (.int .i64 (n:Int))::rN k::j16 (j16 (j4 (jk::[])))))))) (l:=[(7,uO (dk f k)),(30,[⟨37,1,lc fM (Aw n f (k+1))⟩])]) ⟨rfl,rfl,trivial⟩ (by simp[wk,GC,w5])) ?_;refine aN fun _ K=>?_;simp(disch:=omega) only[kd,aa,bJ,ao,q1,fR,q2,fZ,ae];apply K
 show bu _ _ _ _;refine aN fun _ K=>?_;simp(disch:=omega) only[kd,aT];apply K
 have nz': ∀t,t<k+1->dk f (t+1)≠0:=fun t ht=>by
  by_cases e:t=k
  ·subst e;exact hz
  exact nz t (by omega)
 refine⟨⟨k+1,2*s+1,by omega,nz',by rw[Nat.pow_succ];omega,fun i j hi hj=>?_,?_⟩,by simp only;omega,aG ⟨rfl,rfl,trivial⟩ ?_⟩
 ·rw[<- td nz];exact((((sz 0 0 (by omega) (by omega)).mul (sz (i+1) (j+1) (by omega) (by omega))).sub ((sz (i+1) 0 (by omega) (by omega)).mul (sz 0 (j+1) (by omega) (by omega)))).ediv _).mono (by omega)
 ·rw[<- mm];exact(sz 0 0 (by omega) (by omega)).mono (by omega)
 simp[wk]
abbrev n9 (M:List (List Int)):AV:= .p (.ptr [.sl (ls (fR fI) M)])
theorem Pj {n c:Nat} {f:FF} {i j:Nat} (hi:i<n) (hj:j<c) (hc:c<=16) (hn:n<=16) (hf: -9223372036854775808<=f i j/\f i j<=9223372036854775807):
  CallC Tryz.prog 128 [.raw (.int .i64 (i:Int)),.raw (.int .i64 (j:Int)),.one (n9 (bx n c f))] ⟨[],tZ (f i j)⟩:=by
 have hml:=bi n c f;have hr:=bD c f hi;have hjr:=aY (f i) hj;have hS:=y6 (f i j) hf.1 hf.2;refine aJ Tryz.func128 rfl (by kernel_rfl) ?_;rw[Tryz.ntmps128];refine aF fun _ K=>?_;simp(disch:=omega) only[kd,n9,aa,ag];apply K
 refine aI [⟨7,_,_,_,hS⟩] [] fun _ K=>?_;simp(disch:=omega) only[kd,tZ,aa,hr,fR,hjr];apply K
 (refine aK ⟨.inr rfl,aL rfl ?_ rfl⟩;simp(disch:=omega) only[kd,Tryz.results128,aa,tZ])
def FZ (d n c i:Nat) (g:FF):List OObj:=⟨61,1,gk d (ag i c)++ag (n-i) [.p (.sl [])]⟩::(bx i c g).map mO
theorem Ep (d n c:Nat) (g:FF):([⟨61,1,ag n [.raw (.slice none 0 0)]⟩]:List OObj).map zO=FZ d n c 0 g:=by
 simp[FZ,bx,zO,gk,Ax,CC]
theorem GE (d n c:Nat) (g:FF):FZ d n c n g=iv d n c g:=by
 simp[FZ]
theorem GF {d n c i:Nat} (g:FF) (hi:i<n) (hz: ∀b,b<c->g i b=0):
  ((⟨61,1,(gk d (ag i c)++ag (n-i) [AV.p (PV.sl [])]).set i [.sl d (i+1) 0 c]⟩::(bx i c g).map mO++[⟨32,2,ag c [.raw (.bool false),.raw (.slice none 0 0)]⟩]:List OObj)).map zO=FZ d n c (i+1) g:=by
 have e1:(gk d (ag i c)++ag (n-i) [AV.p (PV.sl [])]).set i [.sl d (i+1) 0 c]=gk d (ag (i+1) c)++ag (n-(i+1)) [AV.p (PV.sl [])]:=by
  rw[List.set_append_right _ _ (by simp[ch]),ch,az,Nat.sub_self,List.replicate_succ' (n:=i),mS,az,List.append_assoc]
  congr 1
  rw[show n-i=n-(i+1)+1 by omega,List.replicate_succ];rfl
 have e2:bT c (g i)=ag c 0:=by
  apply List.ext_getElem?;intro b;by_cases hb:b<c
  ·rw[aY _ hb,List.getElem?_replicate,if_pos hb,hz b hb]
  rw[List.getElem?_eq_none (by rw[bE];omega),List.getElem?_eq_none (by simp;omega)]
 have e3:bx (i+1) c g=bx i c g++[bT c (g i)]:=by simp[bx,List.range_succ]
 rw[e1];simp only[List.cons_append,List.map_cons,List.map_append,FZ,e3,List.map_map]
 congr 1
 ·simp[zO,MV,Ax,CC]
 congr 1
 ·refine List.map_congr_left fun r _=>?_
  simp[zO,mO,Px]
 simp[e2,zO,mO,lc,fZ,Ax,CC,cw,ls]
theorem Ks {d n c i k:Nat} (h:k<i):(gk d (ag i c)++ag (n-i) [AV.p (PV.sl [])])[k]?=some [.sl d (k+1) 0 c]:=by
 rw[List.getElem?_append_left (by simp[ch];exact h),bZ d c h]
theorem Kt {d n c i:Nat} (h:i<=n):(gk d (ag i c)++ag (n-i) [AV.p (PV.sl [])]).length=n:=by simp[ch];omega
theorem Ku (n c:Nat) (f:FF) (hn1:1<=n) (hn:n<=16) (hc1:1<=c) (hc:c<=16) (hf: ∀i j,i<n->j<c-> -9223372036854775808<=f i j/\f i j<=9223372036854775807):
  CallC Tryz.prog 127 [.raw (.int .i64 (n:Int)),.raw (.int .i64 (c:Int)),.fn 128 [n9 (bx n c f)]] ⟨iv 0 n c f,.one (.sl 0 0 0 n)⟩:=by
 refine aJ Tryz.func127 rfl (by kernel_rfl) ?_;rw[Tryz.ntmps127];refine aF fun _ K=>?_;simp only[kd,n9,aa,ag];apply K
 refine aF fun _ K=>?_;simp(disch:=omega) only[kd,aa];apply K
 refine aH (aF fun _ K=>?_);simp only[kd,aa];apply K;refine aZ (G:=kK n) (fun g=>⟨(jk::rN c::.fn 128 [n9 (bx n c f)]::j4 (.one (.sl 11 0 0 n)::j4 (jk::rN n::rN g.i::j16 (j4 (j4 (j4 ([]))))))),Hm [(11,FZ 11 n c g.i (part f g.i 0))]⟩) (fun g=>n-g.i) ⟨0,by omega⟩ ?_ ?_
 ·refine(gy 11).trans (aG ⟨Ep 11 n c _,trivial⟩ ?_);simp[wk]
 rintro⟨i,hi⟩;simp only;by_cases hm:i<n
 ·have hg:=D5 (d:=11) (c:=c) hm;refine aF fun _ K=>?_;simp(disch:=omega) only[kd,n9];apply K
  refine bM rfl ?_;refine aH (aM ?_);refine aF fun _ K=>?_;simp only[kd];apply K
  simp only[FZ];refine aF fun _ K=>?_;simp(disch:=omega) only[kd,aa,ae,hg,aj,az,List.all_replicate,bi,Nat.reduceBEq];apply K
  refine bu.weak ((gy 11).trans (aG (tm:=(jk::rN c::.fn 128 [n9 (bx n c f)]::j4 (.one (.sl 11 0 0 n)::rN i::j4 (.raw (.int .i64 (n:Int))::rN i::j16 (j4 (j4 (j4 ([])))))))) (l:=[(11,FZ 11 n c (i+1) (part f i 0))]) ⟨GF (part f i 0) hm (fun b _=>by simp[part]),trivial⟩ (by simp[wk]))) ?_;have a1:=Ks (d:=11) (n:=n) (c:=c) (show i<i+1 by omega);have a2:=Kt (d:=11) (n:=n) (c:=c) (show i+1<=n by omega);have a3:=fV (n:=i+1) c (part f i 0) (show i<i+1 by omega);simp only[FZ];refine aF fun _ K=>?_;simp(disch:=omega) only[kd,aa,n9,a1];apply K
  refine aZ (G:=kK c) (fun g=>⟨(jk::rN c::.fn 128 [n9 (bx n c f)]::j4 (.one (.sl 11 0 0 n)::rN i::j4 (.raw (.int .i64 (n:Int))::rN i::j4 (j4 (jk::jk::jk::rN c::rN g.i::j4 (j4 (j4 (jk::jk::jk::[])))))))),Hm [(11,FZ 11 n c (i+1) (part f i g.i))]⟩) (fun g=>c-g.i) ⟨0,by omega⟩ ?_ ?_
  ·refine aG ⟨rfl,trivial⟩ ?_;simp[wk]
  rintro⟨j,hj⟩;simp only;by_cases hm2:j<c
  ·have hS:=Pj (n:=n) (c:=c) (f:=f) hm hm2 hc hn (hf i j hm hm2);have g2:=fV (n:=i+1) c (part f i j) (show i<i+1 by omega);have g3:=aY (part f i j i) hm2;refine aF fun _ K=>?_;simp(disch:=omega) only[kd,n9];apply K
   refine bM rfl ?_;refine aH (aM ?_);refine aF fun _ K=>?_;simp only[kd];apply K
   simp only[FZ];refine dT bj [⟨8,_,_,_,hS⟩] [] (by kernel_rfl) fun _ K=>?_;simp(disch:=omega) only[kd,n9,tZ,aa,a1,g2,fZ,g3,lE];apply K
   show bu _ _ _ _;refine aN fun _ K=>?_;simp(disch:=omega) only[kd,aT];apply K
   refine⟨⟨j+1,by omega⟩,by simp only;omega,aG ⟨?_,trivial⟩ ?_⟩
   ·show _::_=_::_;rw[cU fun a b _ _=>i5 f i j a b]
   simp[wk]
  have hjc:j=c:=by omega
  subst hjc;refine aF fun _ K=>?_;simp(disch:=omega) only[kd,n9];apply K
  refine bV rfl ?_;show bu _ _ _ _;refine aN fun _ K=>?_;simp(disch:=omega) only[kd,aT];apply K
  refine⟨⟨i+1,by omega⟩,by simp only;omega,aG ⟨?_,trivial⟩ ?_⟩
  ·show _::_=_::_;rw[cU fun a b _ hb=>kA f i a b hb]
  simp[wk]
 have hin:i=n:=by omega
 subst hin;rw[GE];refine aF fun _ K=>?_;simp(disch:=omega) only[kd,n9];apply K
 refine bV rfl ?_;show bu _ _ _ _;refine aF fun _ K=>?_;simp only[kd];apply K
 refine aK ⟨.inr rfl,_,cj.refl _,?_⟩;refine⟨.one (.sl 11 0 0 i),11,?_,rfl,?_,rfl⟩
 ·simp(disch:=omega) only[kd,Tryz.results127]
 show iv 0 i c f=(iv 11 i c (part f i 0)).map (renO 0);rw[fQ 11 0];show _::_=_::_;rw[cU fun a b ha _=>kx f a b ha]
theorem zE (n c:Nat) (f:FF) (hn1:1<=n) (hn:n<=16) (hc1:1<=c) (hc:c<=16) (hf: ∀i j,i<n->j<c-> -9223372036854775808<=f i j/\f i j<=9223372036854775807):
  CallC Tryz.prog 98 [bS (bx n c f)] ⟨[],OR (bx n c f)⟩:=by
 have hml:=bi n c f;have h0:=ms (M:=bx n c f) (by omega);have h1:=bD (n:=n) c f (i:=0) (by omega);have hhd:(bx n c f).headD []=bT c (f 0):=by rw[h1]at h0;injection h0 with h0;exact h0.symm
 have hsh:CI (bx n c f):=⟨by omega,by omega,fun r hr=>by
  obtain⟨i,_,rfl⟩:=List.mem_map.1 hr;rw[hhd];simp[rOk,bE];omega⟩
 have hS:=I7 (bx n c f);rw[iS hsh,hml,hhd,bE]at hS;have hB:=Ku n c f hn1 hn hc1 hc hf;unfold OR;refine aJ Tryz.func98 rfl (by kernel_rfl) ?_;rw[Tryz.ntmps98];refine aF fun _ K=>?_;simp(disch:=omega) only[kd,aa,bS,ag];apply K
 refine aI [⟨1,_,_,_,hS⟩] [] fun _ K=>?_;simp only[kd,bS,aa];apply K
 refine aH (aF fun _ K=>?_);simp only[kd];apply K;refine aU rfl (aO ?_);show bu _ _ _ _;refine bu.weak ((l9 1 1 (cs:=[.sl (ls (fR fI) (bx n c f))]) rfl rfl).trans (aG (tm:=(jk::.one (n9 (bx n c f))::jk::jk::rN n::rN c::j4 (j4 (j4 (jk::[]))))) (l:=[]) trivial (by simp[wk,gO,fj,bs,Hm]))) ?_;refine aI [⟨3,_,_,_,hB⟩] [] fun _ K=>?_;simp only[kd,n9,aa,jg];apply K
 refine bu.weak (aG (tm:=(jk::jk::.one (.sl 18 0 0 n)::.raw (.bool true)::j4 (j4 (j4 (jk::jk::jk::[]))))) (l:=[(18,iv 18 n c f)]) ⟨fQ 0 18 n c f,trivial⟩ (by simp[wk])) ?_;refine bu.weak ((bX 18 (jF rfl)).trans (aG (tm:=(jk::jk::bJ (bx n c f)::.raw (.bool true)::j4 (j4 (j4 (jk::jk::jk::[]))))) (l:=[]) trivial (by simp[wk];exact⟨(MK (H:=Hm [(18,iv 18 n c f)]) (d:=18) (n:=n) (c:=c) (f:=f) rfl).symm,rfl⟩))) ?_
 (refine aK ⟨.inr rfl,aL rfl ?_ rfl⟩;simp(disch:=omega) only[kd,Tryz.results98,bJ])
section
def PD (f:FF) (n:Nat):Prop:=SymF f n/\ ∀k,k<n->0<dk f (k+1)
theorem RedR.pd {f:FF} {n:Nat} (h:RedR f n):PD f n:=⟨h.1,h.2.1⟩
theorem PD.det {f:FF} {n:Nat} (h:PD f n):0<dk f n:=by
 cases n with
 |zero=>rw[de];omega
 |succ n=>exact h.2 n (by omega)
variable {n:Nat}
theorem mX {f:FF} {x y:Nat->Int} (h0: ∀i,i<n->x i=0):BF n f x y=0:=by
 unfold BF;rw[aS n (G:=fun _=>0) (fun i hi=>by rw[h0 i hi,Int.zero_mul]),eW]
theorem PD.pos {f:FF} (hr:PD f n) (x:Nat->Int):0<=BF n f x x/\(BF n f x x=0↔ ∀i,i<n->x i=0):=by
 have h:=qJ hr.1 hr.2 x n 0 rfl;have e:BF n (bk f 0) x x=BF n f x x:=dx (fun i j _ _=>dr f i j) (fun _ _=>rfl) (fun _ _=>rfl);rw[e]at h;exact⟨h.1,fun hz i hi=>h.2 hz i (by omega) hi,fun h0=>mX h0⟩
theorem PD.schwarz {f:FF} (hr:PD f n) (x y:Nat->Int):BF n f x y*BF n f x y<=BF n f x x*BF n f y y:=by
 have hs:=nW hr.1 x y;obtain⟨h1,h2⟩:=hr.pos y;obtain⟨q,hq⟩: ∃q,q=BF n f x y:=⟨_,rfl⟩;obtain⟨o,ho⟩: ∃o,o=BF n f y y:=⟨_,rfl⟩;obtain⟨N,hN⟩: ∃N,N=BF n f x x:=⟨_,rfl⟩;have hpos:=(hr.pos (fun i=>(0+o*x i)+(-q)*y i)).1;have e:BF n f (fun i=>(0+o*x i)+(-q)*y i) (fun i=>(0+o*x i)+(-q)*y i)=o*(o*N-q*q):=by
  have ez: ∀u,BF n f (fun _=>0) u=0:=fun u=>mX fun _ _=>rfl
  have ez': ∀u,BF n f u (fun _=>0)=0:=fun u=>by rw[nW hr.1,ez]
  rw[ic f (fun i=>0+o*x i) y,fL f (fun i=>0+o*x i) (fun i=>0+o*x i) y,fL f y (fun i=>0+o*x i) y,
   ic f (fun _=>0) x,ic f (fun _=>0) x,fL f x (fun _=>0) x,fL f y (fun _=>0) x,ez,ez,ez',ez',<- hs,<- hq,<- ho,<- hN]
  grind
 rw[e]at hpos;rw[<- hq,<- ho,<- hN];rw[<- ho]at h1 h2;rcases Int.lt_or_le 0 o with h|h
 ·rcases Int.lt_or_le (o*N-q*q) 0 with hl|hl
  ·have:=Int.mul_neg_of_pos_of_neg h hl;omega
  have e2:N*o=o*N:=Int.mul_comm _ _;omega
 have ho0:o=0:=by omega
 have hy:=h2.1 ho0;have hq0:q=0:=by rw[hq,hs];exact mX hy
 rw[hq0,ho0];simp
/-! The column of cofactors. -/
def eC (i:Nat):Nat->Int:=fun r=>if r=i then 1 else 0
def il (f:FF) (n j:Nat):Nat->Int:=fun i=>dk (di f j (eC i)) n
theorem Ot (S:Nat->Int) (m r:Nat):b9 (fun i=>S i*eC i r) m=if r<m then S r else 0:=by
 induction m with
 |zero=>simp[b9]
 |succ m ih=>
  rw[b9,ih];unfold eC;by_cases h:r=m
  ·subst h;simp
  have:r<m+1↔r<m:=by omega
  simp[h,this]
theorem qZ {f:FF} {j:Nat} (hj:j<n) (S:Nat->Int): ∀m,dk (di f j (fun r=>b9 (fun i=>S i*eC i r) m)) n=b9 (fun i=>S i*il f n j i) m
 |0=>C7 hj fun i _=>rfl
 |m+1=>by
  have h:=qj (R:=f) hj 1 (S m) (fun r=>b9 (fun i=>S i*eC i r) m) (eC m);rw[qZ hj S m]at h;have e:(fun r=>b9 (fun i=>S i*eC i r) (m+1))=fun r=>1*b9 (fun i=>S i*eC i r) m+S m*eC m r:=by
   funext r;rw[b9,Int.one_mul]
  rw[e,h,b9,Int.one_mul];rfl
theorem KL {f:FF} {j:Nat} (hj:j<n) (S:Nat->Int):dk (di f j S) n=b9 (fun i=>S i*il f n j i) n:=by
 rw[<- qZ hj S n];refine eg fun r c hr _=>?_
 unfold di;split
 ·show S r=b9 (fun i=>S i*eC i r) n;rw[Ot,if_pos hr]
 rfl
theorem CM {f:FF} {j k:Nat} (hj:j<n) (hk:k<n):b9 (fun i=>f i k*il f n j i) n=if k=j then dk f n else 0:=by
 rw[<- KL hj fun i=>f i k];split
 ·rename_i h;subst h;rw[ni]
 rename_i h;exact s7 hj hk (Ne.symm h)
theorem wG {f:FF} (hs:SymF f n) {j:Nat} (hj:j<n) (x:Nat->Int):BF n f x (il f n j)=x j*dk f n:=by
 unfold BF;rw[aS n (G:=fun i=>x i*(if i=j then dk f n else 0)) (fun i hi=>by
  rw[<- CM hj hi]
  congr 1
  exact aS n fun l hl=>by rw[hs i hi l hl])]
 rw[ii hj (fun p _ hne=>by rw[if_neg hne,Int.mul_zero]),if_pos rfl]
def xb (f:FF) (j m:Nat):Nat->Nat->Int:=fun i l=>if l=j then eC j i else if i=j/\l<m then 0 else f i l
theorem A3 {f:FF} {j:Nat} (hj:j<n): ∀m,m<=n->dk (xb f j m) n=il f n j j
 |0,_=>by
  unfold il
  congr 1
  funext i l;unfold xb di;split
  ·rfl
  rw[if_neg (by omega)]
 |m+1,hm=>by
  rw[<- A3 hj m (by omega)];by_cases h:m=j
  ·congr 1
   funext i l;unfold xb;by_cases hl:l=j
   ·rw[if_pos hl,if_pos hl]
   rw[if_neg hl,if_neg hl];have:(i=j/\l<m+1)↔(i=j/\l<m):=by omega
   simp only[this]
  have h1:=nj (R:=xb f j m) (n:=n) (a:=m) (b:=j) (by omega) hj h (-(xb f j m j m));rw[<- h1]
  congr 1
  funext i l;unfold di;by_cases hl:l=m
  ·subst hl;rw[if_pos rfl];unfold xb eC;by_cases hi:i=j
   ·subst hi;simp[h]<;>omega
   simp[h,hi]
  rw[if_neg hl];unfold xb;split
  ·rfl
  have:(i=j/\l<m+1)↔(i=j/\l<m):=by omega
  simp only[this]
theorem yG (f:FF) (k:Nat):il f (k+1) k k=dk f k:=by
 rw[<- A3 (by omega) (k+1) (af _),b8,bk,dn,np (jV k) _ (fun c hc=>by
  have:=jW hc;unfold xb;rw[if_neg (by omega),if_pos ⟨rfl,by omega⟩])]
 have e:om (xb f k (k+1)) k (jV k)=dk f k:=nF fun i hi c hc=>by
  have:=jW hc;unfold xb;rw[if_neg (by omega),if_neg (by omega)]
 rw[e];unfold xb eC
 simp
theorem Fr {f:FF} (hs:SymF f n) (hp: ∀x:Nat->Int,(∃i,i<n/\x i≠0)->0<BF n f x x):PD f n:=by
 refine⟨hs,fun k hk=>?_⟩;have go: ∀k,k<=n->0<dk f k:=fun k=>by
  induction k with
  |zero=>intro _;rw[de];omega
  |succ k ih=>
   intro hk;have h0:=ih (by omega);have hsk:SymF f (k+1):=fun i hi j hj=>hs i (by omega) j (by omega)
   have h1:=wG (n:=k+1) hsk (j:=k) (by omega) (il f (k+1) k);rw[yG]at h1;have h2:=hp (fun i=>if i<k+1 then il f (k+1) k i else 0) ⟨k,by omega,by simp[yG];omega⟩;have e:BF n f (fun i=>if i<k+1 then il f (k+1) k i else 0) (fun i=>if i<k+1 then il f (k+1) k i else 0)=BF (k+1) f (il f (k+1) k) (il f (k+1) k):=by
    have ext: ∀(F:Nat->Int) (m:Nat),b9 (fun i=>if i<k+1 then F i else 0) (k+1+m)=b9 F (k+1):=fun F m=>by
     induction m with
     |zero=>exact aS _ fun p hp=>if_pos hp
     |succ m ihm=>rw[<- Nat.add_assoc,b9,ihm,if_neg (by omega)];omega
    obtain⟨m,rfl⟩: ∃m,n=k+1+m:=⟨n-(k+1),by omega⟩;unfold BF;rw[<- ext (fun i=>il f (k+1) k i*b9 (fun j=>f i j*il f (k+1) k j) (k+1)) m];refine aS _ fun i _=>?_
    show(if i<k+1 then il f (k+1) k i else 0)*b9 (fun j=>f i j*(if j<k+1 then il f (k+1) k j else 0)) _=_;by_cases hi:i<k+1
    ·rw[if_pos hi,if_pos hi,<- ext (fun j=>f i j*il f (k+1) k j) m]
     congr 1
     exact aS _ fun j _=>by
      by_cases hj:j<k+1
      ·rw[if_pos hj,if_pos hj]
      rw[if_neg hj,if_neg hj,Int.mul_zero]
    rw[if_neg hi,if_neg hi,Int.zero_mul]
   rw[e,h1]at h2;rcases Int.lt_or_le 0 (dk f (k+1))with h|h
   ·exact h
   have:=Int.mul_nonpos_of_nonneg_of_nonpos (Int.le_of_lt h0) h;omega
 exact go (k+1) (by omega)
theorem Bu {t:FF} (hd:dk t n≠0) {x:Nat->Int} (h: ∀i,i<n->b9 (fun j=>t i j*x j) n=0): ∀j,j<n->x j=0:=fun j hj=>by
 have h1:b9 (fun i=>b9 (fun l=>t i l*x l) n*il t n j i) n=0:=by
  rw[aS n (G:=fun _=>0) (fun i hi=>by rw[h i hi,Int.zero_mul]),eW]
 have h2:b9 (fun i=>b9 (fun l=>t i l*x l) n*il t n j i) n=b9 (fun l=>b9 (fun i=>t i l*x l*il t n j i) n) n:=by
  rw[<- jt];exact aS n fun i _=>by rw[<- mR]
 have h3:b9 (fun l=>b9 (fun i=>t i l*x l*il t n j i) n) n=b9 (fun l=>x l*(if l=j then dk t n else 0)) n:=
  aS n fun l hl=>by
   rw[<- CM hj hl,<- cx];exact aS n fun i _=>by grind
 rw[h2,h3,ii hj (fun p _ hne=>by rw[if_neg hne,Int.mul_zero]),if_pos rfl]at h1;rcases Int.mul_eq_zero.1 h1 with h|h
 ·exact h
 exact absurd h hd
/-! Bounds. -/
def yh (r:Nat->Int):List Nat->Nat
 |[]=>0
 |c::cs=>(r c).natAbs+yh r cs
theorem zh {r:Nat->Int} {B:Nat}: ∀(cs:List Nat) (F:List Nat->Int),(∀l,l.Sublist cs->(F l).natAbs<=B)->(dn r F cs).natAbs<=yh r cs*B
 |[],_,_=>by simp[dn]
 |c::cs,F,h=>by
  rw[dn,yh,Nat.add_mul];have h1:=Int.natAbs_sub_le (r c*F cs) (dn r (fun l=>F (c::l)) cs);have h2:=zh (r:=r) cs (fun l=>F (c::l)) (fun l hl=>h (c::l) (List.Sublist.cons_cons c hl));rw[Int.natAbs_mul]at h1;have h3:=Nat.mul_le_mul_left (r c).natAbs (h cs (List.sublist_cons_self c cs));omega
theorem LE {r:Nat->Int} {l m:List Nat} (h:l.Sublist m):yh r l<=yh r m:=by
 induction h with
 |slnil=>exact af _
 |cons a _ ih=>rw[yh];omega
 |cons_cons a _ ih=>rw[yh,yh];omega
def MS (R:FF) (cs:List Nat):Nat->Nat
 |0=>1
 |k+1=>yh (R k) cs*MS R cs k
theorem DB (R:FF) (cs:List Nat): ∀k (l:List Nat),l.Sublist cs->(om R k l).natAbs<=MS R cs k
 |0,l,_=>by simp[om,MS]
 |k+1,l,hl=>by
  rw[om,MS];have h:=zh (r:=R k) (B:=MS R cs k) l (om R k) (fun m hm=>DB R cs k m (hm.trans hl));exact aB h (Nat.mul_le_mul_right _ (LE hl))
theorem Is {R:FF} {cs:List Nat} {j A:Nat} (hr: ∀i,i<n->i≠j->yh (R i) cs<=A) (h1:yh (R j) cs<=1): ∀k,k<=n->MS R cs k<=if j<k then A^(k-1)else A^k
 |0,_=>by simp[MS]
 |k+1,hkn=>by
  have ih:=Is hr h1 k (by omega);rw[MS];by_cases h:k=j
  ·subst h;rw[if_neg (by omega)]at ih;rw[if_pos (by omega),Nat.add_sub_cancel];exact aB (Nat.mul_le_mul h1 ih) (by omega)
  have h2:=hr k (by omega) h;by_cases hk:j<k
  ·rw[if_pos hk]at ih;rw[if_pos (by omega),Nat.add_sub_cancel];obtain⟨m,rfl⟩: ∃m,k=m+1:=⟨k-1,by omega⟩;rw[Nat.add_sub_cancel]at ih;rw[Nat.pow_succ,Nat.mul_comm (A^m)];exact Nat.mul_le_mul h2 ih
  rw[if_neg hk]at ih;rw[if_neg (by omega),Nat.pow_succ,Nat.mul_comm (A^k)];exact Nat.mul_le_mul h2 ih
theorem IK {r:Nat->Int} {B j:Nat} (h0:r j=0): ∀m,(∀c,c<m->(r c).natAbs<=B)->yh r (jV m)<=if j<m then(m-1)*B else m*B
 |0,_=>by simp[jV,yh]
 |m+1,h=>by
  have ih:=IK h0 m (fun c hc=>h c (by omega));rw[jV,yh];by_cases e:m=j
  ·subst e;rw[if_neg (by omega)]at ih;rw[if_pos (by omega),h0,Nat.add_sub_cancel];simpa using ih
  have h2:=h m (by omega);by_cases hk:j<m
  ·rw[if_pos hk]at ih;rw[if_pos (by omega),Nat.add_sub_cancel];have:m*B=(m-1)*B+B:=by
    obtain⟨q,rfl⟩: ∃q,m=q+1:=⟨m-1,by omega⟩;rw[Nat.add_sub_cancel,Nat.add_mul,Nat.one_mul]
   omega
  rw[if_neg hk]at ih;rw[if_neg (by omega),Nat.add_mul,Nat.one_mul];omega
theorem zU {r:Nat->Int} {j:Nat} (h1:r j=1): ∀m,(∀c,c<m->c≠j->r c=0)->yh r (jV m)<=if j<m then 1 else 0
 |0,_=>by simp[jV,yh]
 |m+1,h0=>by
  have ih:=zU h1 m (fun c hc=>h0 c (by omega));rw[jV,yh];by_cases e:m=j
  ·subst e;rw[if_neg (by omega)]at ih;rw[if_pos (by omega),h1];have:(1:Int).natAbs=1:=rfl;omega
  rw[h0 m (by omega) e];by_cases hk:j<m
  ·rw[if_pos hk]at ih;rw[if_pos (by omega)];simpa using ih
  rw[if_neg hk]at ih;rw[if_neg (by omega)];simpa using ih
theorem Nl {f:FF} {j B:Nat} (hj:j<n) (hf: ∀a b,a<n->b<n->(f a b).natAbs<=B):(il f n j j).natAbs<=(n*B)^(n-1):=by
 rw[<- A3 hj n (af _)];have h1:=DB (xb f j n) (jV n) n (jV n) (List.Sublist.refl _);have hrow: ∀i,i<n->i≠j->yh (xb f j n i) (jV n)<=n*B:=fun i hi hij=>by
  have:=IK (r:=xb f j n i) (B:=B) (j:=j) (by unfold xb eC;simp[hij]) n (fun c hc=>by
   unfold xb eC;split
   ·simp[hij]
   rw[if_neg (fun h=>hij h.1)];exact hf i c hi hc)
  rw[if_pos hj]at this;exact aB this (Nat.mul_le_mul_right _ (by omega))
 have hu:=zU (r:=xb f j n j) (j:=j) (by unfold xb eC;simp) n (fun c hc hne=>by
  unfold xb;rw[if_neg hne,if_pos ⟨rfl,hc⟩])
 rw[if_pos hj]at hu;have h2:=Is (n:=n) hrow hu n (af _);rw[if_pos hj]at h2;exact aB h1 h2
theorem GS {f:FF} {j B:Nat} (hr:PD f n) (hj:j<n) (hf: ∀a b,a<n->b<n->(f a b).natAbs<=B) (x:Nat->Int) {N:Int} (hN:BF n f x x<=N):x j*x j<=N*((n*B)^(n-1):Nat):=by
 have h1:=hr.schwarz x (il f n j);rw[wG hr.1 hj,wG hr.1 hj]at h1;have hd:=hr.det;have h2:=Nl hj hf;have hx0:=(hr.pos x).1;have hy0:=(hr.pos (il f n j)).1;rw[wG hr.1 hj]at hy0;generalize il f n j j=a at*
 generalize dk f n=d at*
 generalize BF n f x x=M at*
 generalize(n*B)^(n-1)=A at*
 have ha:0<=a:=by
  rcases Int.lt_or_le a 0 with h|h
  ·have:=Int.mul_neg_of_neg_of_pos h hd;omega
  exact h
 have e1:x j*d*(x j*d)=(x j*x j*d)*d:=by grind
 have e2:M*(a*d)=(M*a)*d:=by grind
 rw[e1,e2]at h1;have h3:=Int.le_of_mul_le_mul_right h1 hd;have hsq:0<=x j*x j:=by
  rcases Int.le_total 0 (x j)with h|h
  ·exact Int.mul_nonneg h h
  exact Int.mul_nonneg_of_nonpos_of_nonpos h h
 have h4:x j*x j*1<=x j*x j*d:=Int.mul_le_mul_of_nonneg_left hd hsq;have h5:M*a<=N*a:=Int.mul_le_mul_of_nonneg_right hN ha;have h6:N*a<=N*(A:Int):=Int.mul_le_mul_of_nonneg_left (by omega) (by omega);omega
end
def dg (code j:Nat):Int:=((code/3^j%3:Nat):Int)-1
theorem GV (code j:Nat): -1<=dg code j/\dg code j<=1:=by
 have:=Nat.mod_lt (code/3^j) (show 0<3 by omega);unfold dg;omega
def lZ (i code:Nat):Nat->Int:=fun j=>if j<i then dg code j else if j=i then 1 else 0
def nrm (n:Nat) (f:FF) (x:Nat->Int):Int:=BF n f x x
theorem i4 {n:Nat} {f:FF} {x y:Nat->Int} (h: ∀i,i<n->x i=y i):nrm n f x=nrm n f y:=dx (fun _ _ _ _=>rfl) h h
theorem j1 {n:Nat} {f:FF} {i:Nat} (hi:i<n):nrm n f (eC i)=f i i:=by
 have e: ∀F:Nat->Int,b9 (fun j=>F j*eC i j) n=F i:=fun F=>by
  rw[ii hi (fun p _ hne=>by unfold eC;rw[if_neg hne,Int.mul_zero])];unfold eC;rw[if_pos rfl,Int.mul_one]
 unfold nrm BF;rw[aS n (G:=fun k=>f k i*eC i k) (fun k _=>by rw[e (f k)];exact Int.mul_comm _ _),e fun k=>f k i]
def j7 (n:Nat) (f:FF) (i:Nat):Nat->Nat->Int
 |0=>eC i
 |k+1=>if nrm n f (lZ i k)<nrm n f (j7 n f i k)then lZ i k else j7 n f i k
theorem I6 {n:Nat} {f:FF} {i:Nat} (hi:i<n): ∀k,nrm n f (j7 n f i k)<=f i i/\ ∀c,c<k->nrm n f (j7 n f i k)<=nrm n f (lZ i c)
 |0=>⟨by rw[j7,j1 hi];omega,fun c hc=>by omega⟩
 |k+1=>by
  obtain⟨h1,h2⟩:=I6 (f:=f) hi k;by_cases h:nrm n f (lZ i k)<nrm n f (j7 n f i k)
  ·rw[show j7 n f i (k+1)=lZ i k from if_pos h];refine⟨by omega,fun c hc=>?_⟩;by_cases e:c=k
   ·subst e;omega
   have:=h2 c (by omega);omega
  rw[show j7 n f i (k+1)=j7 n f i k from if_neg h];refine⟨h1,fun c hc=>?_⟩;by_cases e:c=k
  ·subst e;omega
  exact h2 c (by omega)
def VioP (n:Nat) (f:FF) (i:Nat):Prop:= ∃c,c<3^i/\nrm n f (lZ i c)<f i i
theorem Ab {n:Nat} {f:FF} {i:Nat} (hi:i<n): ∀k,(∀c,c<k->f i i<=nrm n f (lZ i c))->j7 n f i k=eC i
 |0,_=>rfl
 |k+1,h=>by
  have ih:=Ab hi k fun c hc=>h c (by omega)
  have:=h k (by omega);rw[j7,ih,j1 hi,if_neg (by omega)]
theorem Cg {n:Nat} {f:FF} {i:Nat} (hi:i<n) (h:VioP n f i):nrm n f (j7 n f i (3^i))<f i i:=by
 obtain⟨c,h1,h2⟩:=h;have:=(I6 (f:=f) hi (3^i)).2 c h1;omega
theorem LR {n:Nat} {f:FF} {i:Nat} (hi:i<n):(∀j,j<n->j7 n f i (3^i) j=eC i j)↔ ¬VioP n f i:=by
 constructor
 ·intro h hv;have h1:=Cg hi hv;rw[i4 h,j1 hi]at h1;omega
 intro h j _;rw[Ab hi (3^i) fun c hc=>by
  rcases Int.lt_or_le (nrm n f (lZ i c)) (f i i)with hl|hl
  ·exact absurd ⟨c,hc,hl⟩ h
  exact hl]
theorem DN (n:Nat) (f:FF) (i:Nat): ∀k,j7 n f i k=eC i\/ ∃c,c<k/\j7 n f i k=lZ i c
 |0=> .inl rfl
 |k+1=>by
  rw[j7];split
  ·exact .inr ⟨k,by omega,rfl⟩
  rcases DN n f i k with h|⟨c,hc,h⟩
  ·exact .inl h
  exact .inr ⟨c,by omega,h⟩
theorem uC (n:Nat) (f:FF) (i k:Nat):j7 n f i k i=1/\(∀j,i<j->j7 n f i k j=0)/\ ∀j,-1<=j7 n f i k j/\j7 n f i k j<=1:=by
 rcases DN n f i k with h|⟨c,_,h⟩<;>rw[h]
 ·refine⟨by simp[eC],fun j hj=>by unfold eC;rw[if_neg (by omega)],fun j=>by unfold eC;split<;>omega⟩
 refine⟨by simp[lZ],fun j hj=>by unfold lZ;rw[if_neg (by omega),if_neg (by omega)],fun j=>?_⟩;unfold lZ;split
 ·exact GV c j
 split<;>omega
def MinkP (f:FF) (n:Nat):Prop:=(∀i,i+1<n->f i i<=f (i+1) (i+1)/\0<=f i (i+1))/\ ∀i,i<n-> ¬VioP n f i
theorem CZ {d:Nat->Int} (h: ∀j,-1<=d j/\d j<=1): ∀i,∃c,c<3^i/\ ∀j,j<i->dg c j=d j
 |0=>⟨0,by simp,fun j hj=>by omega⟩
 |i+1=>by
  obtain⟨c,h1,h2⟩:=CZ h i;have hd:=h i;refine⟨c+3^i*(d i+1).toNat,?_,fun j hj=>?_⟩
  ·have:(d i+1).toNat<=2:=by omega
   have:=Nat.mul_le_mul_left (3^i) this;rw[Nat.pow_succ];omega
  by_cases e:j=i
  ·subst e;unfold dg;rw[Nat.add_mul_div_left _ _ (Nat.pow_pos (by omega)),Nat.div_eq_of_lt h1,Nat.zero_add,Nat.mod_eq_of_lt (by omega)];omega
  rw[<- h2 j (by omega)];unfold dg
  congr 2
  obtain⟨m,hm⟩: ∃m,i=j+1+m:=⟨i-(j+1),by omega⟩;have e1:3^i*(d i+1).toNat=3^j*(3*(3^m*(d i+1).toNat)):=by
   rw[hm,Nat.pow_add,Nat.pow_succ];simp[Nat.mul_assoc]
  rw[e1,Nat.add_mul_div_left _ _ (Nat.pow_pos (by omega)),Nat.add_mul_mod_self_left]
theorem JQ {n:Nat} {f:FF} {i:Nat} (hi:i<n) {x:Nat->Int} (hb: ∀j,j<i-> -1<=x j/\x j<=1) (h1:x i=1) (h0: ∀j,i<j->j<n->x j=0) (hl:nrm n f x<f i i):VioP n f i:=by
 obtain⟨c,hc,hd⟩:=CZ (d:=fun j=>if j<i then x j else 0) (fun j=>by
  split
  ·rename_i h;exact hb j h
  omega) i
 refine⟨c,hc,?_⟩;rw[i4 (y:=x)]
 ·exact hl
 intro j hj;unfold lZ;split
 ·rename_i h;rw[hd j h,if_pos h]
 split
 ·rename_i h;rw[h,h1]
 rw[h0 j (by omega) hj]
def J4 (s:Nat->Int) (f:FF):Nat->Nat->Int:=fun i j=>s i*s j*f i j
theorem Ld {n:Nat} {s:Nat->Int} {f:FF} (x:Nat->Int):nrm n (J4 s f) x=nrm n f (fun i=>s i*x i):=by
 unfold nrm BF J4;refine aS n fun i _=>?_
 rw[<- cx,<- cx];exact aS n fun j _=>by grind
theorem Mr {n:Nat} {s:Nat->Int} {f:FF} (hs: ∀i,s i=1\/s i= -1) {i:Nat} (hi:i<n) (h:VioP n (J4 s f) i):VioP n f i:=by
 obtain⟨c,hc,hl⟩:=h;rw[Ld]at hl;have hii:J4 s f i i=f i i:=by unfold J4;rcases hs i with e|e<;>rw[e]<;>omega
 rw[hii]at hl;have hneg: ∀y:Nat->Int,nrm n f (fun j=>s i*y j)=nrm n f y:=fun y=>by
  rcases hs i with e|e
  ·exact i4 fun j _=>by simp only[e];omega
  unfold nrm BF;refine aS n fun k _=>?_
  simp only[e];rw[<- cx,<- cx];exact aS n fun j _=>by grind
 rw[<- hneg]at hl;refine JQ hi (x:=fun j=>s i*(s j*lZ i c j)) (fun j hj=>?_) ?_ (fun j hj _=>?_) hl
 ·have:=GV c j;simp only[lZ,if_pos hj];rcases hs i with e|e<;>rcases hs j with e'|e'<;>rw[e,e']<;>omega
 ·simp only[lZ,Nat.lt_irrefl,if_false,if_true];rcases hs i with e|e<;>rw[e]<;>omega
 simp only[lZ];rw[if_neg (by omega),if_neg (by omega)];simp
def a4 (c:Nat->Int):List AV:=[.p (.raw (.int .i64 (c 0))),.p (.raw (.int .i64 (c 1))),.p (.raw (.int .i64 (c 2))),.p (.raw (.int .i64 (c 3)))]
theorem dJ (c:Nat->Int):(a4 c).length=4:=rfl
theorem jd (c:Nat->Int):(a4 c).all fh=true:=rfl
theorem nZ (c:Nat->Int) (d:Nat):(a4 c).map (dS d)=a4 c:=rfl
theorem fg (c:Nat->Int):(a4 c).all isPure=true:=rfl
theorem gC (c:Nat->Int):(a4 c).take 4=a4 c:=rfl
theorem md (c:Nat->Int):(a4 c).drop 4=[]:=rfl
theorem wQ (c:Nat->Int) {i:Nat} (h:i<4):(a4 c).drop (i*1)= .p (.raw (.int .i64 (c i)))::(a4 c).drop (i+1):=by
 match i,h with
 |0,_=>rfl
 |1,_=>rfl
 |2,_=>rfl
 |3,_=>rfl
def OM (c:Nat->Int) (i:Nat) (v:Int):Nat->Int:=fun j=>if j=i then v else c j
theorem wR (c:Nat->Int) {i:Nat} (v:Int) (h:i<4):(a4 c).take (i*1)++[.p (.raw (.int .i64 v))]++(a4 c).drop (i*1+1)=a4 (OM c i v):=by
 match i,h with
 |0,_=>rfl
 |1,_=>rfl
 |2,_=>rfl
 |3,_=>rfl
theorem oT {c c':Nat->Int} (h: ∀j,j<4->c j=c' j):a4 c=a4 c':=by
 unfold a4;rw[h 0 (by omega),h 1 (by omega),h 2 (by omega),h 3 (by omega)]
abbrev At (c:Nat->Int):List OObj:=[⟨92,4,[a4 c]⟩]
abbrev tC (c:Nat->Int):TV:= .agg (a4 c)
structure Qz (i code:Nat) where
 j:Nat
 hj:j<=i
def Kx (code j:Nat):Nat->Int:=fun l=>if l<j then dg code l else 0
theorem GK (code:Nat):a4 (Kx code 0)=a4 (fun _=>0):=oT fun j _=>if_neg (by omega)
theorem GJ (code j:Nat):a4 (OM (Kx code j) j (dg code j))=a4 (Kx code (j+1)):=oT fun l _=>by
 unfold OM Kx;by_cases h:l=j
 ·subst h;simp
 by_cases h2:l<j
 ·simp[h,h2,show l<j+1 by omega]
 simp[h,h2,show ¬l<j+1 by omega]
theorem Ky (code i:Nat):a4 (OM (Kx code i) i 1)=a4 (lZ i code):=oT fun l _=>by
 unfold OM Kx lZ;by_cases h:l=i
 ·subst h;simp
 by_cases h2:l<i<;>simp[h,h2]
theorem xx (i code:Nat) (hi:i<4) (hcode:code<1000):CallC Tryz.prog 120 [.raw (.int .i64 (i:Int)),.raw (.int .i64 (code:Int))] ⟨[],tC (lZ i code)⟩:=by
 refine aJ Tryz.func120 rfl (by kernel_rfl) ?_;rw[Tryz.ntmps120];refine aF fun _ K=>?_;simp(disch:=omega) only[kd,aa,ag];apply K
 refine aF fun _ K=>?_;simp(disch:=omega) only[kd,aa,ae];apply K
 refine aH (aF fun _ K=>?_);simp only[kd];apply K;refine aZ (G:=Qz i code) (fun g=>⟨(.raw (.int .i64 (i:Int))::.raw (.int .i64 ((code/3^g.j:Nat):Int))::jk::jk::.one (.ptr 4 0 0 0)::.one (.ptr 5 0 0 0)::jk::rN i::rN g.j::j4 (j4 (j4 (jk::[])))),Hm [(4,At fun _=>0),(5,At (Kx code g.j))]⟩) (fun g=>i-g.j) ⟨0,by omega⟩ ?_ ?_
 ·rw[Nat.pow_zero,Nat.div_one];refine aG ⟨rfl,?_,trivial⟩ ?_
  ·show _=[_];rw[GK];rfl
  simp[wk]
 rintro⟨j,hj⟩;simp only;by_cases hm:j<i
 ·have hj4:j<4:=by omega
  obtain⟨q,hq⟩: ∃q,q=code/3^j:=⟨_,rfl⟩;have hq3:code/3^(j+1)=q/3:=by rw[Nat.pow_succ,hq,Nat.div_div_eq_div_mul]
  have hdg:dg code j=((q%3:Nat):Int)-1:=by rw[hq];rfl
  have hqle:q<=code:=by rw[hq];exact Nat.div_le_self _ _
  rw[<- hq];have e1:Int.tmod (q:Int) 3=((q%3:Nat):Int):=(Int.ofNat_tmod q 3).symm;have e2:IntKind.i64.wrap (Int.tdiv (q:Int) 3)=((q/3:Nat):Int):=by
   rw[Int.tdiv_eq_ediv_of_nonneg (by omega),IntKind.wrap_i64];omega
  have e3:IntKind.i64.wrap (((q%3:Nat):Int)-1)=dg code j:=by rw[hdg,IntKind.wrap_i64];omega
  have a1:=wR (Kx code j) (dg code j) hj4;rw[GJ]at a1;refine aF fun _ K=>?_;simp(disch:=omega) only[kd];apply K
  refine bM rfl ?_;refine aH (aM ?_);refine aF fun _ K=>?_;simp only[kd];apply K
  refine aF fun _ K=>?_;simp(disch:=omega) only[kd,aa,e1,e3,hj4,ae,dJ,aj,a1];apply K
  refine aN fun _ K=>?_;simp(disch:=omega) only[kd,aa,e2];apply K
  show bu _ _ _ _;refine aN fun _ K=>?_;simp(disch:=omega) only[kd,aT];apply K
  refine⟨⟨j+1,by omega⟩,by simp only;omega,aG ⟨rfl,rfl,trivial⟩ ?_⟩;rw[hq3];simp[wk]
 have hji:j=i:=by omega
 subst hji;have a1:=wR (Kx code j) 1 hi;rw[Ky]at a1;refine aF fun _ K=>?_;simp(disch:=omega) only[kd];apply K
 refine bV rfl ?_;show bu _ _ _ _;refine aF fun _ K=>?_;simp(disch:=omega) only[kd,aa,hi,ae,dJ,aj,a1];apply K
 refine aF fun _ K=>?_;simp(disch:=omega) only[kd,ae,dJ,gC,fg,md];apply K
 (refine aK ⟨.inr rfl,aL rfl ?_ rfl⟩;simp(disch:=omega) only[kd,Tryz.results120,ae,dJ,gC,tC])
def MO (f:FF) (c:Nat->Int) (a b:Nat):Int:=f a b*c a*c b
def nS (n:Nat) (f:FF) (c:Nat->Int) (i j:Nat):Int:=b9 (fun a=>b9 (MO f c a) n) i+b9 (MO f c i) j
theorem N6 (n:Nat) (f:FF) (c:Nat->Int) (i:Nat):nS n f c i n=nS n f c (i+1) 0:=by
 unfold nS;rw[b9,b9,Int.add_zero]
theorem N5 (n:Nat) (f:FF) (c:Nat->Int):nS n f c n 0=nrm n f c:=by
 unfold nS nrm BF;rw[b9,Int.add_zero];refine aS n fun i _=>?_
 rw[<- cx];exact aS n fun j _=>by unfold MO;grind
theorem p7 {x c B:Int} (hc: -1<=c/\c<=1) (hx: -B<=x/\x<=B): -B<=x*c/\x*c<=B:=by
 have:c= -1\/c=0\/c=1:=by omega
 rcases this with rfl|rfl|rfl
 ·rw[Int.mul_neg,Int.mul_one];omega
 ·rw[Int.mul_zero];omega
 rw[Int.mul_one];exact hx
theorem MN {n:Nat} {f:FF} {c:Nat->Int} {B:Int} (hf: ∀i j,i<n->j<n-> -B<=f i j/\f i j<=B) (hc: ∀j,-1<=c j/\c j<=1) {i j:Nat} (hi:i<n) (hj:j<=n):
  -(((i:Int)+1)*((n:Int)*B))<=nS n f c i j/\nS n f c i j<=((i:Int)+1)*((n:Int)*B):=by
 have hB:0<=B:=by have:=hf i i hi hi;omega
 have ht: ∀a b,a<n->b<n-> -B<=MO f c a b/\MO f c a b<=B:=fun a b ha hb=>p7 (hc b) (p7 (hc a) (hf a b ha hb))
 have h1:=x4 (F:=fun a=>b9 (MO f c a) n) (B:=(n:Int)*B) i fun p hp=>x4 n fun b hb=>ht p b (by omega) hb
 have h2:=x4 (F:=MO f c i) (B:=B) j fun b hb=>ht i b hi (by omega)
 have h3:(j:Int)*B<=(n:Int)*B:=Int.mul_le_mul_of_nonneg_right (by omega) hB;unfold nS;rw[Int.add_mul,Int.one_mul];omega
theorem Dt (n:Nat) (f:FF) (c:Nat->Int) (hn1:1<=n) (hn:n<=4) (hf: ∀i j,i<n->j<n-> -1125899906842624<=f i j/\f i j<=1125899906842624) (hc: ∀j,-1<=c j/\c j<=1):
  CallC Tryz.prog 121 [bS (bx n n f),tC c] ⟨[],.raw (.int .i64 (nrm n f c))⟩:=by
 have hml:=bi n n f;refine aJ Tryz.func121 rfl (by kernel_rfl) ?_;rw[Tryz.ntmps121];refine aF fun _ K=>?_;simp(disch:=omega) only[kd,bS,tC,aa,ag,fg,dJ];apply K
 refine aF fun _ K=>?_;simp only[kd];apply K
 refine aH (aF fun _ K=>?_);simp only[kd,aa,hml];apply K;refine aZ (G:=kK n) (fun g=>⟨(jk::jk::jk::.one (.ptr 3 0 0 0)::jk::.raw (.int .i64 (nS n f c g.i 0))::j4 (bS (bx n n f)::rN n::rN g.i::j16 (j4 (j4 (jk::[]))))),Hm [(3,At c)]⟩) (fun g=>n-g.i) ⟨0,by omega⟩ ?_ ?_
 ·refine aG ⟨rfl,trivial⟩ ?_;simp[wk,nS,b9]
 rintro⟨i,hi⟩;simp only;by_cases hm:i<n
 ·have hr:=bD n f hm;have hi4:i<4:=by omega
  have hrl:=bE n (f i);refine aF fun _ K=>?_;simp(disch:=omega) only[kd,bS];apply K
  refine bM rfl ?_;refine aH (aM ?_);refine aF fun _ K=>?_;simp(disch:=omega) only[kd,aa,hr,fR];apply K
  refine aF fun _ K=>?_;simp only[kd,aa,hrl];apply K
  refine aZ (G:=kK n) (fun g=>⟨(jk::jk::jk::.one (.ptr 3 0 0 0)::jk::.raw (.int .i64 (nS n f c i g.i))::rN i::jk::jk::jk::bS (bx n n f)::rN n::rN i::j4 (.one (.p (.sl (ls fI (bT n (f i)))))::rN n::rN g.i::j16 (jk::jk::[]))),Hm [(3,At c)]⟩) (fun g=>n-g.i) ⟨0,by omega⟩ ?_ ?_
  ·refine aG ⟨rfl,trivial⟩ ?_;simp[wk]
  rintro⟨j,hj⟩;simp only;by_cases hjn:j<n
  ·have hg:=aY (f i) hjn;have hj4:j<4:=by omega
   have b1:=hf i j hm hjn;have b2:=p7 (hc i) b1;have b3:=p7 (hc j) b2;have b4:=MN hf hc hm hj;have b5:=MN hf hc hm (j:=j+1) (by omega);have e1:IntKind.i64.wrap (f i j*c i)=f i j*c i:=aT (by omega) (by omega);have e2:IntKind.i64.wrap (f i j*c i*c j)=f i j*c i*c j:=aT (by omega) (by omega);have e4:nS n f c i j+f i j*c i*c j=nS n f c i (j+1):=by
    unfold nS;rw[b9,show MO f c i j=f i j*c i*c j from rfl,Int.add_assoc]
   have hb:((i:Int)+1)*((n:Int)*1125899906842624)<=18014398509481984:=by
    have:((i:Int)+1)*((n:Int)*1125899906842624)<=4*((n:Int)*1125899906842624):=Int.mul_le_mul_of_nonneg_right (by omega) (by omega);omega
   have e3:IntKind.i64.wrap (nS n f c i (j+1))=nS n f c i (j+1):=aT (by omega) (by omega);have d1:=wQ c hi4;have d2:=wQ c hj4;refine aF fun _ K=>?_;simp(disch:=omega) only[kd,bS];apply K
   refine bM rfl ?_;refine aH (aM ?_);refine aF fun _ K=>?_;simp(disch:=omega) only[kd,aa,hg];apply K
   refine kS bj (by kernel_rfl) fun _ K=>?_;simp(disch:=omega) only[kd,aa,hi4,d1,e1,hj4,d2,e2,e4,e3];apply K
   show bu _ _ _ _;refine aN fun _ K=>?_;simp(disch:=omega) only[kd,aT];apply K
   refine⟨⟨j+1,by omega⟩,by simp only;omega,aG ⟨rfl,trivial⟩ ?_⟩;simp[wk]
  have hjn:j=n:=by omega
  subst hjn;refine aF fun _ K=>?_;simp(disch:=omega) only[kd,bS];apply K
  refine bV rfl ?_;show bu _ _ _ _;refine aN fun _ K=>?_;simp(disch:=omega) only[kd,aT];apply K
  refine⟨⟨i+1,by omega⟩,by simp only;omega,aG ⟨rfl,trivial⟩ ?_⟩;rw[N6];simp[wk]
 have hin:i=n:=by omega
 subst hin;refine aF fun _ K=>?_;simp(disch:=omega) only[kd,bS];apply K
 refine bV rfl ?_;show bu _ _ _ _;rw[N5];refine aF fun _ K=>?_;simp only[kd];apply K
 (refine aK ⟨.inr rfl,aL rfl ?_ rfl⟩;simp(disch:=omega) only[kd,Tryz.results121])
theorem G8 {n:Nat} {f:FF} (hf: ∀i j,i<n->j<n->Sz (f i j) 1024): ∀k,k<n->(∀t,t<k->dk f (t+1)≠0)-> ∃s,s+1<=1025*2^k/\ ∀i j,i<n-k->j<n-k->Sz (elF f k i j) s
 |0,_,_=>⟨1024,by omega,fun i j hi hj=>by
  show Sz (bk f 0 (0+i) (0+j)) 1024;rw[dr,Nat.zero_add,Nat.zero_add];exact hf i j (by omega) (by omega)⟩
 |k+1,hk,nz=>by
  obtain⟨s,h1,h2⟩:=G8 hf k (by omega) (fun t ht=>nz t (by omega));refine⟨2*s+1,by rw[Nat.pow_succ];omega,fun i j hi hj=>?_⟩;rw[<- td (fun t ht=>nz t (by omega))];exact((((h2 0 0 (by omega) (by omega)).mul (h2 (i+1) (j+1) (by omega) (by omega))).sub ((h2 (i+1) 0 (by omega) (by omega)).mul (h2 0 (j+1) (by omega) (by omega)))).ediv _).mono (by omega)
theorem LV {n k i:Nat} (f:FF) (h:i<k):(Aw n f k)[i]?=some (G9 n f i):=by
 unfold Aw;rw[List.getElem?_map,List.getElem?_range h];rfl
structure QI (n:Nat) (f:FF) where
 i:Nat
 hi:i<=n
 ok: ∀a,a<i->0<dk f (a+1)
theorem zD (n:Nat) (f:FF) (hn1:1<=n) (hn:n<=16) (hf: ∀i j,i<n->j<n->Sz (f i j) 1024) (r:Bool) (hr:r=true↔PD f n):CallC Tryz.prog 99 [bJ (bx n n f)] ⟨[],.raw (.bool r)⟩:=by
 have hQ:=we n f hn1 hn;have hS:=Gf n f hn1 hn hf;have hml:=bi n n f;refine aJ Tryz.func99 rfl (by kernel_rfl) ?_;rw[Tryz.ntmps99];refine aF fun _ K=>?_;simp only[kd,bJ,ag];apply K
 refine aI [⟨1,_,_,_,hQ⟩] [] fun _ K=>?_;simp only[kd,bJ,aa];apply K
 refine aH (aF fun _ K=>?_);simp only[kd];apply K;refine aU rfl (aO ?_);show bu _ _ _ _;refine aH (aF fun _ K=>?_);simp only[kd];apply K;refine aZ (G:=Qu n f) (fun g=>⟨(bJ (bx n n f)::jk::.raw (.bool false)::j4 (j4 (j4 (jk::jk::rN n::rN g.i::j16 (j16 (j4 (j4 (j4 (jk::[]))))))))),Hm []⟩) (fun g=>n-g.i) ⟨0,by omega,fun a ha=>by omega⟩ ?_ ?_
 ·refine aG trivial ?_;simp[wk]
 rintro⟨i,hi,ok⟩;simp only;by_cases hm:i<n
 ·refine aF fun _ K=>?_;simp(disch:=omega) only[kd,bJ];apply K
  refine bM rfl ?_;refine aH (aM ?_);refine aF fun _ K=>?_;simp only[kd];apply K
  refine aF fun _ K=>?_;simp only[kd];apply K
  refine aZ (G:=Qv n i f) (fun g=>⟨(bJ (bx n n f)::jk::.raw (.bool false)::jk::jk::rN i::j4 (j4 (jk::jk::jk::rN n::rN i::jk::jk::rN i::rN g.j::j16 (j16 (j4 (j4 (jk::[]))))))),Hm []⟩) (fun g=>i-g.j) ⟨0,by omega,fun a ha=>by omega⟩ ?_ ?_
  ·refine aG trivial ?_;simp[wk]
  rintro⟨j,hj,okj⟩;simp only;by_cases hm2:j<i
  ·have a1:=bD n f hm;have a2:=bD n f (show j<n by omega);have a3:=aY (f i) (show j<n by omega);have a4:=aY (f j) hm;have c1:=NW (f i j) (f j i) ((hf i j hm (by omega)).mono (by omega)) ((hf j i (by omega) hm).mono (by omega));by_cases he:f i j=f j i
   ·rw[he,vC]at c1;rw[he]at a3;refine aF fun _ K=>?_;simp(disch:=omega) only[kd,bJ];apply K
    refine bM rfl ?_;refine aH (aM ?_);refine aF fun _ K=>?_;simp only[kd];apply K
    refine bz bj [⟨14,_,_,_,c1⟩] [] (by kernel_rfl) fun _ K=>?_;simp(disch:=omega) only[kd,tZ,aa,a1,fR,a3,fZ,a2,a4];apply K
    refine aU rfl (aO ?_);show bu _ _ _ _;refine aN fun _ K=>?_;simp(disch:=omega) only[kd,aT];apply K
    refine⟨⟨j+1,by omega,fun b hb=>?_⟩,by simp only;omega,aG trivial ?_⟩
    ·by_cases e:b=j
     ·subst e;exact he
     exact okj b (by omega)
    simp[wk]
   have hr0:r=false:=by
    cases r with
    |false=>rfl
    |true=>exact absurd ((hr.1 rfl).1 i hm j (by omega)) he
   subst hr0;have hne:=yO he;refine aF fun _ K=>?_;simp(disch:=omega) only[kd,bJ];apply K
   refine bM rfl ?_;refine aH (aM ?_);refine aF fun _ K=>?_;simp only[kd];apply K
   refine bz bj [⟨14,_,_,_,c1⟩] [] (by kernel_rfl) fun _ K=>?_;simp(disch:=omega) only[kd,tZ,aa,a1,fR,a3,fZ,a2,a4];apply K
   refine bf rfl ?_;refine aF fun _ K=>?_;simp only[kd];apply K
   (refine aK ⟨.inr rfl,aL rfl ?_ rfl⟩;simp(disch:=omega) only[kd,Tryz.results99])
  refine aF fun _ K=>?_;simp(disch:=omega) only[kd,bJ];apply K
  refine bV rfl ?_;show bu _ _ _ _;refine aN fun _ K=>?_;simp(disch:=omega) only[kd,aT];apply K
  refine⟨⟨i+1,by omega,fun a ha b hb=>?_⟩,by simp only;omega,aG trivial ?_⟩
  ·by_cases e:a=i
   ·subst e;exact okj b (by omega)
   exact ok a (by omega) b hb
  simp[wk]
 have hsym:SymF f n:=fun a ha b hb=>by
  rcases Nat.lt_trichotomy a b with h|h|h
  ·exact(ok b (by omega) a h).symm
  ·rw[h]
  exact ok a (by omega) b h
 refine aF fun _ K=>?_;simp(disch:=omega) only[kd,bJ];apply K
 refine bV rfl ?_;show bu _ _ _ _;by_cases hnz:OP n f
 ·rw[Ag hnz]at hS;have hln:=x7 n f n;refine aI [⟨1,_,_,_,hS⟩] [] fun _ K=>?_;simp only[kd,bJ,aa];apply K
  refine aH (aF fun _ K=>?_);simp only[kd];apply K;refine aU rfl (aO ?_);show bu _ _ _ _;refine aH (aF fun _ K=>?_);simp only[kd,aa,hln];apply K;refine aZ (G:=QI n f) (fun g=>⟨(jk::jk::.raw (.bool false)::j16 (j16 (j4 (j4 (j4 (jk::jk::jk::.one (.p (.sl (ls fM (Aw n f n))))::rN n::rN g.i::j4 (j4 (jk::jk::jk::[])))))))),Hm []⟩) (fun g=>n-g.i) ⟨0,by omega,fun a ha=>by omega⟩ ?_ ?_
  ·refine aG trivial ?_;simp[wk]
  rintro⟨k,hk,okk⟩;simp only;by_cases hkn:k<n
  ·have g1:=LV (n:=n) (k:=n) f hkn;have q1:=bD (n-k) (elF f k) (show 0<n-k by omega);have q2:=aY (elF f k 0) (show 0<n-k by omega);obtain⟨s,hs1,hs2⟩:=G8 hf k hkn (fun t ht=>hnz t (by omega));have h2k:=kB (k:=k) (by omega);have hSg:=rI (elF f k 0 0) ((hs2 0 0 (by omega) (by omega)).mono (by omega));rw[mm]at hSg q2;refine aF fun _ K=>?_;simp(disch:=omega) only[kd];apply K
   refine bM rfl ?_;refine aH (aM ?_);refine aF fun _ K=>?_;simp(disch:=omega) only[kd,aa,g1,fM];apply K
   by_cases hp:0<dk f (k+1)
   ·rw[Cd hp]at hSg;refine aI [⟨5,_,_,_,hSg⟩] [] fun _ K=>?_;simp(disch:=omega) only[kd,tZ,aa,ao,q1,fR,q2,fZ,Int.reduceLE];apply K
    refine aU rfl (aO ?_);show bu _ _ _ _;refine aN fun _ K=>?_;simp(disch:=omega) only[kd,aT];apply K
    refine⟨⟨k+1,by omega,fun a ha=>?_⟩,by simp only;omega,aG trivial ?_⟩
    ·by_cases e:a=k
     ·subst e;exact hp
     exact okk a (by omega)
    simp[wk]
   have hr0:r=false:=by
    cases r with
    |false=>rfl
    |true=>exact absurd ((hr.1 rfl).2 k hkn) hp
   subst hr0;have hle:=DL hp;refine aI [⟨5,_,_,_,hSg⟩] [] fun _ K=>?_;simp(disch:=omega) only[kd,tZ,aa,ao,q1,fR,q2,fZ];apply K
   refine bf rfl ?_;refine aF fun _ K=>?_;simp only[kd];apply K
   (refine aK ⟨.inr rfl,aL rfl ?_ rfl⟩;simp(disch:=omega) only[kd,Tryz.results99])
  have hr1:r=true:=hr.2 ⟨hsym,fun a ha=>okk a (by omega)⟩;subst hr1;refine aF fun _ K=>?_;simp(disch:=omega) only[kd];apply K
  refine bV rfl ?_;show bu _ _ _ _;refine aF fun _ K=>?_;simp only[kd];apply K
  (refine aK ⟨.inr rfl,aL rfl ?_ rfl⟩;simp(disch:=omega) only[kd,Tryz.results99])
 rw[DU hnz]at hS;have hr0:r=false:=by
  cases r with
  |false=>rfl
  |true=>exact absurd (fun t ht=>by have:=(hr.1 rfl).2 t (by omega);omega) hnz
 subst hr0;refine aI [⟨1,_,_,_,hS⟩] [] fun _ K=>?_;simp only[kd,bJ,aa];apply K
 refine aH (aF fun _ K=>?_);simp only[kd];apply K;refine bf rfl ?_;refine aF fun _ K=>?_;simp only[kd];apply K
 (refine aK ⟨.inr rfl,aL rfl ?_ rfl⟩;simp(disch:=omega) only[kd,Tryz.results99])
/-! isForm -/
def RwOk (n:Nat) (r:List Int):Prop:=r.length=n/\ ∀x∈r,-1125899906842624<=x/\x<=1125899906842624
def yk (M:List (List Int)):Prop:=(1<=M.length/\M.length<=4)/\(∀r∈M,RwOk M.length r)/\PD (ent M) M.length
structure QF (M:List (List Int)) where
 i:Nat
 hi:i<=M.length
 ok: ∀a,a<i-> ∀r,M[a]?=some r->RwOk M.length r
structure QG (r:List Int) where
 j:Nat
 hj:j<=r.length
 ok: ∀b,b<j-> ∀x,r[b]?=some x-> -1125899906842624<=x/\x<=1125899906842624
theorem yk.entB {M:List (List Int)} (h:yk M) {i j:Nat} (hi:i<M.length) (hj:j<M.length): -1125899906842624<=ent M i j/\ent M i j<=1125899906842624:=by
 have hr:=h.2.1 M[i] (List.getElem_mem hi);have e:ent M i j=M[i][j]'(by rw[hr.1];exact hj):=by
  unfold ent;simp[List.getD,hi,hr.1,hj]
 rw[e];exact hr.2 _ (List.getElem_mem _)
theorem Nq {x:Int} (h: -1125899906842624<=x/\x<=1125899906842624):Sz x 1024:=by
 have:Sz x 2:=by unfold Sz;omega
 exact this.mono (by omega)
theorem Fv {M:List (List Int)} {i:Nat} {r:List Int} (h:M[i]?=some r):r∈M:=List.mem_of_getElem? h
theorem vR (M:List (List Int)) (r:Bool) (hr:r=true↔yk M):CallC Tryz.prog 65 [bS M] ⟨[],.raw (.bool r)⟩:=by
 by_cases hlen:1<=M.length/\M.length<=4
 ·refine aJ Tryz.func65 rfl (by kernel_rfl) ?_;rw[Tryz.ntmps65];refine aF fun _ K=>?_;simp only[kd,bS,ag];apply K
  refine aH (aF fun _ K=>?_);simp(disch:=omega) only[kd,aa];apply K;refine aU rfl (aO ?_);show bu _ _ _ _;refine aH (aF fun _ K=>?_);simp only[kd,aa];apply K;refine aZ (G:=QF M) (fun g=>⟨(bS M::jk::.raw (.bool false)::j4 (j4 (j4 (jk::jk::bS M::rN M.length::rN g.i::j16 (j4 (j4 (j4 (jk::[])))))))),Hm []⟩) (fun g=>M.length-g.i) ⟨0,by omega,fun a ha=>by omega⟩ ?_ ?_
  ·refine aG trivial ?_;simp[wk]
  rintro⟨i,hi,ok⟩;simp only;by_cases hm:i<M.length
  ·obtain⟨q,hq⟩: ∃q,M[i]?=some q:=⟨M[i],List.getElem?_eq_getElem hm⟩;have hqm:=Fv hq;refine aF fun _ K=>?_;simp(disch:=omega) only[kd,bS];apply K
   refine bM rfl ?_;refine aH (aM ?_);refine aF fun _ K=>?_;simp(disch:=omega) only[kd,aa,hq,fR];apply K
   by_cases hql:q.length=M.length
   ·refine aH (aF fun _ K=>?_);simp(disch:=omega) only[kd,aa,hql];apply K;refine aU rfl (aO ?_);show bu _ _ _ _;refine aF fun _ K=>?_;simp only[kd,aa,hql];apply K
    refine aZ (G:=QG q) (fun g=>⟨(bS M::jk::.raw (.bool false)::jk::.one (.p (.sl (ls fI q)))::j4 (j4 (j4 (bS M::rN M.length::rN i::j4 (j4 (.one (.p (.sl (ls fI q)))::rN M.length::rN g.j::j16 (jk::jk::[]))))))),Hm []⟩) (fun g=>q.length-g.j) ⟨0,by omega,fun a ha=>by omega⟩ ?_ ?_
    ·refine aG trivial ?_;simp[wk]
    rintro⟨j,hj,okj⟩;simp only;by_cases hm2:j<q.length
    ·obtain⟨x,hx⟩: ∃x,q[j]?=some x:=⟨q[j],List.getElem?_eq_getElem hm2⟩;refine aF fun _ K=>?_;simp(disch:=omega) only[kd,bS];apply K
     refine bM rfl ?_;refine aH (aM ?_);refine aF fun _ K=>?_;simp(disch:=omega) only[kd,aa,hx];apply K
     by_cases hlo:x< -1125899906842624
     ·have hr0:r=false:=by
       cases r with
       |false=>rfl
       |true=>have:=((hr.1 rfl).2.1 q hqm).2 x (List.mem_of_getElem? hx);omega
      subst hr0;refine aF fun _ K=>?_;simp(disch:=omega) only[kd,aa,reduceCtorEq];apply K
      refine bf rfl ?_;refine aF fun _ K=>?_;simp only[kd];apply K
      (refine aK ⟨.inr rfl,aL rfl ?_ rfl⟩;simp(disch:=omega) only[kd,Tryz.results65])
     by_cases hhi:1125899906842624<x
     ·have hr0:r=false:=by
       cases r with
       |false=>rfl
       |true=>have:=((hr.1 rfl).2.1 q hqm).2 x (List.mem_of_getElem? hx);omega
      subst hr0;refine aF fun _ K=>?_;simp(disch:=omega) only[kd,aa];apply K
      refine bf rfl ?_;refine aF fun _ K=>?_;simp only[kd];apply K
      (refine aK ⟨.inr rfl,aL rfl ?_ rfl⟩;simp(disch:=omega) only[kd,Tryz.results65])
     refine aF fun _ K=>?_;simp(disch:=omega) only[kd,aa];apply K
     refine aU rfl (aO ?_);show bu _ _ _ _;refine aN fun _ K=>?_;simp(disch:=omega) only[kd,aT];apply K
     refine⟨⟨j+1,by omega,fun b hb y hy=>?_⟩,by simp only;omega,aG trivial ?_⟩
     ·by_cases e:b=j
      ·subst e;rw[hx]at hy;injection hy with hy
       omega
      exact okj b (by omega) y hy
     simp[wk]
    refine aF fun _ K=>?_;simp(disch:=omega) only[kd,bS];apply K
    refine bV rfl ?_;show bu _ _ _ _;refine aN fun _ K=>?_;simp(disch:=omega) only[kd,aT];apply K
    refine⟨⟨i+1,by omega,fun a ha q' hq'=>?_⟩,by simp only;omega,aG trivial ?_⟩
    ·by_cases e:a=i
     ·subst e;rw[hq]at hq';injection hq' with hq'
      subst hq';refine⟨hql,fun x hx=>?_⟩;obtain⟨b,hb⟩:=List.mem_iff_getElem?.1 hx;exact okj b (by have:=(List.getElem?_eq_some_iff.1 hb).1;omega) x hb
     exact ok a (by omega) q' hq'
    simp[wk]
   have hr0:r=false:=by
    cases r with
    |false=>rfl
    |true=>exact absurd ((hr.1 rfl).2.1 q hqm).1 hql
   subst hr0;refine aH (aF fun _ K=>?_);simp(disch:=omega) only[kd,aa];apply K;refine bf rfl ?_;refine aF fun _ K=>?_;simp only[kd];apply K
   (refine aK ⟨.inr rfl,aL rfl ?_ rfl⟩;simp(disch:=omega) only[kd,Tryz.results65])
  have hall: ∀q∈M,RwOk M.length q:=fun q hq=>by
   obtain⟨a,ha⟩:=List.mem_iff_getElem?.1 hq;exact ok a (by have:=(List.getElem?_eq_some_iff.1 ha).1;omega) q ha
  have eM:=xA (M:=M) (m:=M.length) fun q hq=>(hall q hq).1
  have hb: ∀i j,i<M.length->j<M.length-> -1125899906842624<=ent M i j/\ent M i j<=1125899906842624:=fun i j hi hj=>by
   have hrw:=hall M[i] (List.getElem_mem hi);have e:ent M i j=M[i][j]'(by rw[hrw.1];exact hj):=by
    unfold ent;simp[List.getD,hi,hrw.1,hj]
   rw[e];exact hrw.2 _ (List.getElem_mem _)
  have hF:=zE M.length M.length (ent M) hlen.1 (by omega) hlen.1 (by omega) (fun i j hi hj=>by have:=hb i j hi hj;omega);have hD:=zD M.length (ent M) hlen.1 (by omega) (fun i j hi hj=>Nq (hb i j hi hj)) r ⟨fun h=>(hr.1 h).2.2,fun h=>hr.2 ⟨hlen,hall,h⟩⟩;rw[<- eM]at hF hD;refine aF fun _ K=>?_;simp(disch:=omega) only[kd,bS];apply K
  refine bV rfl ?_;show bu _ _ _ _;refine aI [⟨1,_,_,_,hF⟩] [] fun _ K=>?_;simp only[kd,bS,OR,aa];apply K
  refine aI [⟨1,_,_,_,hD⟩] [] fun _ K=>?_;simp only[kd,bJ,aa];apply K
  (refine aK ⟨.inr rfl,aL rfl ?_ rfl⟩;simp(disch:=omega) only[kd,Tryz.results65])
 have hr0:r=false:=by
  cases r with
  |false=>rfl
  |true=>exact absurd (hr.1 rfl).1 hlen
 subst hr0;by_cases h1:M.length<1
 ·refine aJ Tryz.func65 rfl (by kernel_rfl) ?_;rw[Tryz.ntmps65];refine aF fun _ K=>?_;simp only[kd,bS,ag];apply K
  refine aH (aF fun _ K=>?_);simp(disch:=omega) only[kd,aa,reduceCtorEq];apply K;refine bf rfl ?_;refine aF fun _ K=>?_;simp only[kd];apply K
  (refine aK ⟨.inr rfl,aL rfl ?_ rfl⟩;simp(disch:=omega) only[kd,Tryz.results65])
 refine aJ Tryz.func65 rfl (by kernel_rfl) ?_;rw[Tryz.ntmps65];refine aF fun _ K=>?_;simp only[kd,bS,ag];apply K
 refine aH (aF fun _ K=>?_);simp(disch:=omega) only[kd,aa];apply K;refine bf rfl ?_;refine aF fun _ K=>?_;simp only[kd];apply K
 (refine aK ⟨.inr rfl,aL rfl ?_ rfl⟩;simp(disch:=omega) only[kd,Tryz.results65])
theorem IN (k:Nat->Nat->Bool) (R:List (List Int)):(R.map jz).map (gF k)=R.map jz:=by
 rw[List.map_map];exact List.map_congr_left fun r _=>by simp[gF,jz,xr]
def OS (d n c:Nat) (f:FF) (i j:Nat):List OObj:=⟨34,1,gk d (ag i c)++[.sl d (i+1) 0 (j+1)]::ag (n-i-1) oG⟩::((bx i c f).map jz++[jz (bT (j+1) (f i))])
def PP (d n c:Nat) (f:FF) (i:Nat):Nat->List OObj
 |0=>kI d n c i f
 |j+1=>OS d n c f i j
theorem NS {d n c i:Nat} (f:FF) (hc:1<=c) (hi:i<n):PP d n c f i c=kI d n c (i+1) f:=by
 obtain⟨j,rfl⟩: ∃j,c=j+1:=⟨c-1,by omega⟩;show OS d n (j+1) f i j=_;unfold OS kI;rw[tD,List.replicate_succ' (n:=i),mS,az];simp[Nat.sub_sub]
theorem KS {d n c i:Nat} (f:FF) (hi:i<n):kI d n c i f=⟨34,1,gk d (ag i c)++oG::ag (n-i-1) oG⟩::(bx i c f).map jz:=by
 unfold kI;rw[show n-i=n-i-1+1 by omega,List.replicate_succ];rfl
structure P4 (n:Nat) (p:Nat->Prop) where
 i:Nat
 hi:i<=n
 h: ∀a,a<i->p a
theorem xk {l:List (List Int)} {i:Nat} (h:i<l.length):l[i]?=some (l.getD i []):=by
 obtain⟨x,hx⟩:=getElem?_of_lt h;rw[List.getD_eq_getElem?_getD,hx];rfl
def Bq (f:FF) (i j:Nat):Nat->Nat->Int:=fun a b=>if(a<i/\b<i)\/(a=i/\b<j)\/(b=i/\a<j)then f a b else 0
theorem Hg {f:FF} {i j:Nat} {v:Int} (h1:f i j=v) (h2:f j i=v) (a b:Nat):upd (upd (Bq f i j) i j v) j i v a b=Bq f i (j+1) a b:=by
 by_cases c1:a=j/\b=i
 ·obtain⟨rfl,rfl⟩:=c1;rw[ye,<- h2];exact(if_pos (.inr (.inr ⟨rfl,by omega⟩))).symm
 rw[oO (by omega)];by_cases c2:a=i/\b=j
 ·obtain⟨rfl,rfl⟩:=c2;rw[ye,<- h1];exact(if_pos (.inr (.inl ⟨rfl,by omega⟩))).symm
 rw[oO (by omega)];unfold Bq;have:((a<i/\b<i)\/(a=i/\b<j)\/(b=i/\a<j))↔((a<i/\b<i)\/(a=i/\b<j+1)\/(b=i/\a<j+1)):=by omega
 simp only[this]
theorem KR (f:FF) (i a b:Nat):Bq f i (i+1) a b=Bq f (i+1) 0 a b:=by
 unfold Bq;have:((a<i/\b<i)\/(a=i/\b<i+1)\/(b=i/\a<i+1))↔((a<i+1/\b<i+1)\/(a=i+1/\b<0)\/(b=i+1/\a<0)):=by omega
 simp only[this]
theorem KQ {f:FF} {n a b:Nat} (ha:a<n) (hb:b<n):Bq f n 0 a b=f a b:=if_pos (.inl ⟨ha,hb⟩)
theorem Hh (f:FF) (a b:Nat):Bq f 0 0 a b=0:=if_neg (by omega)
theorem fd (n:Nat) (h t:FF) (a b:Nat):cngF n h t a b=BF n h (fun i=>t i a) (fun j=>t j b):=by
 unfold cngF BF;rw[cK,aS n (G:=fun p=>b9 (fun q=>t q a*h q p*t p b) n) (fun p _=>by rw[cK,<- mR];rfl),
  aS n (F:=fun i=>t i a*_) (G:=fun q=>b9 (fun p=>t q a*h q p*t p b) n) (fun q _=>by rw[<- cx];exact aS n fun p _=>by grind)]
 exact jt _ _ _
def Pb (M:List (List Int)):Prop:=CI M/\(M.headD []).length=M.length/\M.length<=8/\(dk (ent M) M.length).natAbs=1
theorem Pb.eq {M:List (List Int)} (h:Pb M):M=bx M.length M.length (ent M):=by
 have:=Ki h.1;rwa[h.2.1]at this
theorem pi {n c:Nat} (f:FF) {i:Nat} (hi:i<n):(bx n c f).getD i []=bT c (f i):=by
 rw[List.getD_eq_getElem?_getD,bD _ _ hi];rfl
theorem wm {c:Nat} (f:Nat->Int) {j:Nat} (hj:j<c):(bT c f).getD j 0=f j:=by
 rw[List.getD_eq_getElem?_getD,aY _ hj];rfl
end Go.Proofs.YtiollbhgpiiodaaGreatDoor
