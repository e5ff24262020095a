/-
  Part 16 of a proof (walks and plain facts).
-/
import Derived.Test.YtfgeomlagfomgaaDoorP14
set_option linter.all false
set_option maxRecDepth 100000
set_option maxHeartbeats 64000000
open Nat renaming reduceAdd → aa
open Nat renaming reduceEqDiff → ab
open Nat renaming le_refl → ac
open List renaming replicate → ae
open Nat renaming reduceLeDiff → ah
open Int renaming reduceToNat → am
namespace Go.Proofs.YtfgeomlagfomgaaDoor
open Go.RowKit
def elF (f:FF) (k:Nat):Nat->Nat->Int:=fun i j=>bk f k (k+i) (k+j)
abbrev BG (n:Nat) (f:FF) (k:Nat):List (List Int):=bL (n-k) (n-k) (elF f k)
def vD (n:Nat) (f:FF) (k:Nat):List (List (List Int)):=(List.range k).map (BG n f)
theorem Da (n:Nat) (f:FF) (k:Nat):vD n f k++[BG n f k]=vD n f (k+1):=by simp[vD,List.range_succ]
theorem s6 (n:Nat) (f:FF) (k:Nat):(vD n f k).length=k:=by simp[vD]
theorem BH (n:Nat) (f:FF):bL n n f=BG n f 0:=ff fun i j _ _=>by
 show f i j=bk f 0 (0+i) (0+j);rw[cP,Nat.zero_add,Nat.zero_add]
theorem oT {f:FF} {k:Nat} (hd: ∀t,t<k->dk f (t+1)≠0) (i j:Nat):
  (elF f k 0 0*elF f k (i+1) (j+1)-elF f k (i+1) 0*elF f k 0 (j+1))/dk f k=elF f (k+1) i j:=by
 have h0:dk f k≠0:=by
  cases k with
  |zero=>rw[cY];decide
  |succ k=>exact hd k (Nat.lt_succ_self k)
 have h:=sylv f k hd (k+1+i) (k+1+j);have e:elF f k 0 0*elF f k (i+1) (j+1)-elF f k (i+1) 0*elF f k 0 (j+1)=dk f k*elF f (k+1) i j:=by
  unfold elF;rw[Nat.add_zero,<- bK,show k+(i+1)=k+1+i by omega,show k+(j+1)=k+1+j by omega,h]
 rw[e,Int.mul_ediv_cancel_left _ h0]
theorem jC (f:FF) (k:Nat):elF f k 0 0=dk f (k+1):=by
 unfold elF;rw[Nat.add_zero,bK]
def fM (M:List (List Int)):List PV:=[.sl (ls (fR fZ) M)]
theorem B4 (l:List (List (List Int))) (M:List (List Int)):lc fM l++[[.p (.sl (ls (fR fZ) M))]]=lc fM (l++[M]):=by simp[lc,fM]
def Ip (n:Nat) (f:FF):Prop:= ∀t,t+1<n->dk f (t+1)≠0
open Classical in
noncomputable def Ig (n:Nat) (f:FF):TV:=if Ip n f then .tup [(false,[.p (.sl (ls fM (vD n f n)))]),(false,[.p (.raw (.bool true))])]else .tup [(false,[.p (.raw (.slice none 0 0))]),(false,[.p (.raw (.bool false))])]
theorem vq {n:Nat} {f:FF} (h:Ip n f):Ig n f= .tup [(false,[.p (.sl (ls fM (vD n f n)))]),(false,[.p (.raw (.bool true))])]:=if_pos h
theorem yB {n:Nat} {f:FF} (h: ¬Ip n f):Ig n f= .tup [(false,[.p (.raw (.slice none 0 0))]),(false,[.p (.raw (.bool false))])]:=if_neg h
structure JP (n:Nat) (f:FF) where
 k:Nat
 s:Nat
 hk:k<n
 nz: ∀t,t<k->dk f (t+1)≠0
 hs:s+1<=1025*2^k
 sz: ∀i j,i<n-k->j<n-k->Sz (elF f k i j) s
 sl:Sz (dk f k) s
theorem AQ (n:Nat) (f:FF) (hn1:1<=n) (hn:n<=16) (hf: ∀i j,i<n->j<n->Sz (f i j) 1024):CallC Tryd.prog 24 [gF (bL n n f)] ⟨[],Ig n f⟩:=by
 have hQ:=rh n f hn1 hn;have h1:=tY 1 (by omega) (by omega);have hT:=FO 43 (oH (bL n n f)) n n f hn1 hn hn1 hn (fun i j hi hj=>Ie hi hj hn ((hf i j hi hj).mono (by omega)));refine aN Tryd.func24 rfl (by kernel_rfl) ?_;rw[Tryd.ntmps24];refine aB fun _ K=>?_;simp(disch:=omega) only[kd,gN,aa,gF,ae];apply K
 refine yP ?_;refine aK [⟨1,_,_,_,hQ⟩] [] fun _ K=>?_;simp only[kd,gF,aa];apply K
 refine aD (aB fun _ K=>?_);simp only[kd];apply K;refine a6 rfl (aT ?_);show bH _ _ _ _;refine bH.weak ((lg 1 1 (cs:=oH (bL n n f)) rfl rfl).trans (aC (tm:=(jk::.one (.p (.ptr (oH (bL n n f))))::.raw (.slice none 0 0)::.raw (.bool false)::rN n::j16 (j16 (j16 (j4 (j4 (jk::[]))))))) (l:=[]) trivial (by simp[wk,fV,eo]))) ?_;refine aK [⟨3,_,_,_,hT⟩] [] fun _ K=>?_;simp only[kd,gF,aa];apply K
 refine aK [⟨0,_,_,_,h1⟩] [] fun _ K=>?_;simp(disch:=omega) only[kd,gN,tZ,aa];apply K
 refine aB fun _ K=>?_;simp only[kd];apply K
 refine aD (yO ?_);show bH _ _ _ _;refine aD (aB fun _ K=>?_);simp only[kd];apply K;refine bx (G:=JP n f) (fun g=>⟨(jk::jk::.raw (.slice none 0 0)::.raw (.bool false)::rN n::jk::gF (BG n f g.k)::.one (.ptr 7 0 0 0)::.one (.sl 30 0 0 g.k)::j4 (j4 (j4 (jk::jk::rN n::rN g.k::j16 (j16 (j4 (jk::[]))))))),Hm [(7,Ef (dk f g.k)),(30,[⟨36,1,lc fM (vD n f g.k)⟩])]⟩) (fun g=>n-g.k) ⟨0,1024,by omega,fun t ht=>by omega,by omega,fun i j hi hj=>?_,?_⟩ ?_ ?_
 ·show Sz (bk f 0 (0+i) (0+j)) 1024;rw[cP,Nat.zero_add,Nat.zero_add];exact hf i j (by omega) (by omega)
 ·show Sz (dk f 0) 1024;rw[cY];exact Ih (by omega)
 ·refine(tn (k:=8) (d:=30) 36 1 (by omega) rfl rfl).trans (aC ⟨?_,rfl,trivial⟩ ?_)
  ·rw[cY];rfl
  simp[wk];exact congrArg _ (BH n f).symm
 rintro⟨k,s,hk,nz,hs,sz,sl⟩;simp only;have h2k:=rk (k:=k) (by omega);have hsb:s<=67174400:=by omega
 have q1:=bq (n-k) (elF f k) (show 0<n-k by omega);have q2:=aX (elF f k 0) (show 0<n-k by omega);have hSg:=nP (elF f k 0 0) ((sz 0 0 (by omega) (by omega)).mono (by omega));have hsn:=Da n f k;have hln:=s6 n f k;refine aB fun _ K=>?_;simp(disch:=omega) only[kd,gN,gF];apply K
 refine b8 rfl ?_;refine aD (aH ?_);refine aB fun _ K=>?_;simp only[kd];apply K
 refine aB fun _ K=>?_;simp(disch:=omega) only[kd,gN,aa,Nat.reduceMul,ah,ab,hln,B4,hsn,Nat.reduceBEq];apply K
 refine aD (aH ?_);by_cases hkn:k=n-1
 ·have hnz:Ip n f:=fun t ht=>nz t (by omega)
  rw[vq hnz];refine aB fun _ K=>?_;simp(disch:=omega) only[kd,gN,aa,aS];apply K
  refine bs rfl (dx ?_);show bH _ _ _ _;have hk1:k+1=n:=by omega
  rw[hk1];have hlen:=s6 n f n;refine aB fun _ K=>?_;simp only[kd,aa];apply K
  refine aM ⟨.inr rfl,HJ 30 (fz rfl) ?_ rfl⟩;have eT:List.take n (vD n f n)=vD n f n:=List.take_of_length_le (by rw[hlen];exact ac _);simp(disch:=omega) only[kd,gN,Tryd.results24,ab,eT]
 refine aB fun _ K=>?_;simp(disch:=omega) only[kd,gN,aa,aS];apply K
 refine a6 rfl ?_;by_cases hz:dk f (k+1)=0
 ·have hno: ¬Ip n f:=fun h=>h k (by omega) hz
  rw[yB hno];rw[jC,hz]at hSg;refine aK [⟨5,_,_,_,hSg⟩] [] fun _ K=>?_;simp(disch:=omega) only[kd,gN,tZ,FB,aa,am,q1,fR,q2,jC,hz,fZ];apply K
  refine bs rfl ?_;refine aB fun _ K=>?_;simp only[kd];apply K
  (refine aM ⟨.inr rfl,aI rfl ?_ rfl⟩;simp(disch:=omega) only[kd,gN,Tryd.results24])
 have hs0:=IW hz;rw[jC]at hSg q2;refine aK [⟨5,_,_,_,hSg⟩] [] fun _ K=>?_;simp(disch:=omega) only[kd,gN,tZ,aa,am,q1,fR,q2,fZ];apply K
 refine a6 rfl (aT ?_);show bH _ _ _ _;refine aB fun _ K=>?_;simp(disch:=omega) only[kd,gN,aa,ab];apply K
 refine bH.weak ((lg 10 10 (cs:=oH (BG n f k)) rfl rfl).trans (aC (tm:=(jk::jk::.raw (.slice none 0 0)::.raw (.bool false)::rN n::jk::jk::.one (.ptr 7 0 0 0)::.one (.sl 30 0 0 (k+1))::rN k::.one (.p (.ptr (oH (BG n f k))))::j4 (j4 (j4 (.raw (.int .i64 (n:Int))::rN k::j16 (j16 (j4 (jk::[])))))))) (l:=[(7,Ef (dk f k)),(30,[⟨36,1,lc fM (vD n f (k+1))⟩])]) ⟨rfl,rfl,trivial⟩ (by simp[wk,fV,eo]))) ?_;refine aD (vI 7 (cs:=fZ (dk f k)) rfl fun b=>?_);refine f4.weak (aC (tm:=(jk::jk::.raw (.slice none 0 0)::.raw (.bool false)::rN n::jk::jk::I1 b::.one (.sl 30 0 0 (k+1))::rN k::.one (.p (.ptr (oH (BG n f k))))::j4 (j4 (j4 (.raw (.int .i64 (n:Int))::rN k::j16 (j16 (j4 (jk::[])))))))) (l:=[(30,[⟨36,1,lc fM (vD n f (k+1))⟩])]) ⟨rfl,trivial⟩ (by simp[wk,uv,mL])) ?_;have hd0:dk f k≠0:=by
  cases k with
  |zero=>rw[cY];decide
  |succ k=>exact nz k (by omega)
 have hT2:=FP 45 (oH (BG n f k)) b 52 (fZ (dk f k)) (n-(k+1)) (n-(k+1)) (fun i j=>(elF f k 0 0*elF f k (i+1) (j+1)-elF f k (i+1) 0*elF f k 0 (j+1))/dk f k) (by omega) (by omega) (by omega) (by omega)
  (fun i j hi hj=>If b (by omega) (by omega) (by omega) s hsb sz sl hd0)
 rw[ff fun i j _ _=>oT (f:=f) (k:=k) nz i j]at hT2;have en:((n-(k+1):Nat):Int)=(n:Int)-(k:Int)-1:=by omega
 rw[en]at hT2;refine yW 9 hT2 [] [] (by kernel_rfl) (by rfl) (by rfl) fun _ K=>?_;simp(disch:=omega) only[kd,gN,gF,aa,I1,aS];apply K
 refine⟨rfl,?_⟩;show bH _ _ _ _;refine bH.weak (aC (tm:=(jk::jk::.raw (.slice none 0 0)::.raw (.bool false)::rN n::jk::gF (BG n f (k+1))::.one (.ptr 7 0 0 0)::.one (.sl 30 0 0 (k+1))::jk::.one (.p (.ptr (oH (BG n f k))))::j4 (j4 (j4 (.raw (.int .i64 (n:Int))::rN k::j16 (j16 (j4 (jk::[])))))))) (l:=[(7,Ef (dk f k)),(30,[⟨36,1,lc fM (vD n f (k+1))⟩])]) ⟨rfl,rfl,trivial⟩ (by simp[wk,Bf,rU])) ?_;refine aR fun _ K=>?_;simp(disch:=omega) only[kd,gN,aa,gF,am,q1,fR,q2,fZ,ab];apply K
 show bH _ _ _ _;refine aR fun _ K=>?_;simp(disch:=omega) only[kd,gN,aS];apply K
 have nz': ∀t,t<k+1->dk f (t+1)≠0:=fun t ht=>by
  by_cases e:t=k
  ·subst e;exact hz
  exact nz t (by omega)
 refine⟨⟨k+1,2*s+1,by omega,nz',by rw[Nat.pow_succ];omega,fun i j hi hj=>?_,?_⟩,by simp only;omega,aC ⟨rfl,rfl,trivial⟩ ?_⟩
 ·rw[<- oT nz];exact((((sz 0 0 (by omega) (by omega)).mul (sz (i+1) (j+1) (by omega) (by omega))).sub ((sz (i+1) 0 (by omega) (by omega)).mul (sz 0 (j+1) (by omega) (by omega)))).ediv _).mono (by omega)
 ·rw[<- jC];exact(sz 0 0 (by omega) (by omega)).mono (by omega)
 simp[wk]
abbrev kG (M:List (List Int)):AV:= .p (.ptr [.sl (ls (fR fI) M)])
theorem IL {n c:Nat} {f:FF} {i j:Nat} (hi:i<n) (hj:j<c) (hc:c<=16) (hn:n<=16) (hf: -9223372036854775808<=f i j/\f i j<=9223372036854775807):
  CallC Tryd.prog 20 [.raw (.int .i64 (i:Int)),.raw (.int .i64 (j:Int)),.one (kG (bL n c f))] ⟨[],tZ (f i j)⟩:=by
 have hml:=aU n c f;have hr:=bq c f hi;have hjr:=aX (f i) hj;have hS:=tY (f i j) hf.1 hf.2;refine aN Tryd.func20 rfl (by kernel_rfl) ?_;rw[Tryd.ntmps20];refine aB fun _ K=>?_;simp(disch:=omega) only[kd,gN,kG,aa,ae];apply K
 refine aK [⟨7,_,_,_,hS⟩] [] fun _ K=>?_;simp(disch:=omega) only[kd,gN,tZ,aa,hr,fR,hjr];apply K
 (refine aM ⟨.inr rfl,aI rfl ?_ rfl⟩;simp(disch:=omega) only[kd,gN,Tryd.results20,aa,tZ])
def AH (d n c i:Nat) (g:FF):List OObj:=⟨58,1,gL d (ae i c)++ae (n-i) [.p (.sl [])]⟩::(bL i c g).map vd
theorem yZ (d n c:Nat) (g:FF):([⟨58,1,ae n [.raw (.slice none 0 0)]⟩]:List OObj).map zO=AH d n c 0 g:=by
 simp[AH,bL,zO,gL,DK,DR]
theorem Bj (d n c:Nat) (g:FF):AH d n c n g=Ca d n c g:=by
 simp[AH]
theorem Bk {d n c i:Nat} (g:FF) (hi:i<n) (hz: ∀b,b<c->g i b=0):
  ((⟨58,1,(gL d (ae i c)++ae (n-i) [AV.p (PV.sl [])]).set i [.sl d (i+1) 0 c]⟩::(bL i c g).map vd++[⟨52,2,ae c [.raw (.bool false),.raw (.slice none 0 0)]⟩]:List OObj)).map zO=AH d n c (i+1) g:=by
 have e1:(gL d (ae i c)++ae (n-i) [AV.p (PV.sl [])]).set i [.sl d (i+1) 0 c]=gL d (ae (i+1) c)++ae (n-(i+1)) [AV.p (PV.sl [])]:=by
  rw[List.set_append_right _ _ (by simp[bQ]),bQ,List.length_replicate,Nat.sub_self,List.replicate_succ' (n:=i),pY,List.length_replicate,List.append_assoc]
  congr 1
  rw[show n-i=n-(i+1)+1 by omega,List.replicate_succ];rfl
 have e2:bz c (g i)=ae c 0:=by
  apply List.ext_getElem?;intro b;by_cases hb:b<c
  ·rw[aX _ hb,List.getElem?_replicate,if_pos hb,hz b hb]
  rw[List.getElem?_eq_none (by rw[bA];omega),List.getElem?_eq_none (by simp;omega)]
 have e3:bL (i+1) c g=bL i c g++[bz c (g i)]:=by simp[bL,List.range_succ]
 rw[e1];simp only[List.cons_append,List.map_cons,List.map_append,AH,e3,List.map_map]
 congr 1
 ·simp[zO,IX,DK,DR]
 congr 1
 ·refine List.map_congr_left fun r _=>?_
  simp[zO,vd,JE]
 simp[e2,zO,vd,lc,fZ,DK,DR,cq,ls]
theorem Ec {d n c i k:Nat} (h:k<i):(gL d (ae i c)++ae (n-i) [AV.p (PV.sl [])])[k]?=some [.sl d (k+1) 0 c]:=by
 rw[List.getElem?_append_left (by simp[bQ];exact h),ck d c h]
theorem Ed {d n c i:Nat} (h:i<=n):(gL d (ae i c)++ae (n-i) [AV.p (PV.sl [])]).length=n:=by simp[bQ];omega
theorem Ee (n c:Nat) (f:FF) (hn1:1<=n) (hn:n<=16) (hc1:1<=c) (hc:c<=16) (hf: ∀i j,i<n->j<c-> -9223372036854775808<=f i j/\f i j<=9223372036854775807):
  CallC Tryd.prog 19 [.raw (.int .i64 (n:Int)),.raw (.int .i64 (c:Int)),.fn 20 [kG (bL n c f)]] ⟨Ca 0 n c f,.one (.sl 0 0 0 n)⟩:=by
 refine aN Tryd.func19 rfl (by kernel_rfl) ?_;rw[Tryd.ntmps19];refine aB fun _ K=>?_;simp only[kd,kG,aa,ae];apply K
 refine aB fun _ K=>?_;simp(disch:=omega) only[kd,gN,aa];apply K
 refine aD (aB fun _ K=>?_);simp only[kd,aa];apply K;refine bx (G:=rE n) (fun g=>⟨(jk::rN c::.fn 20 [kG (bL n c f)]::j4 (.one (.sl 11 0 0 n)::j4 (jk::rN n::rN g.i::j16 (j4 (j4 (j4 ([]))))))),Hm [(11,AH 11 n c g.i (part f g.i 0))]⟩) (fun g=>n-g.i) ⟨0,by omega⟩ ?_ ?_
 ·refine(iU 11).trans (aC ⟨yZ 11 n c _,trivial⟩ ?_);simp[wk]
 rintro⟨i,hi⟩;simp only;by_cases hm:i<n
 ·have hg:=Gc (d:=11) (c:=c) hm;refine aB fun _ K=>?_;simp(disch:=omega) only[kd,gN,kG];apply K
  refine b8 rfl ?_;refine aD (aH ?_);refine aB fun _ K=>?_;simp only[kd];apply K
  simp only[AH];refine aB fun _ K=>?_;simp(disch:=omega) only[kd,gN,aa,ab,hg,ah,List.length_replicate,List.all_replicate,aU,Nat.reduceBEq];apply K
  refine bH.weak ((iU 11).trans (aC (tm:=(jk::rN c::.fn 20 [kG (bL n c f)]::j4 (.one (.sl 11 0 0 n)::rN i::j4 (.raw (.int .i64 (n:Int))::rN i::j16 (j4 (j4 (j4 ([])))))))) (l:=[(11,AH 11 n c (i+1) (part f i 0))]) ⟨Bk (part f i 0) hm (fun b _=>by simp[part]),trivial⟩ (by simp[wk]))) ?_;have a1:=Ec (d:=11) (n:=n) (c:=c) (show i<i+1 by omega);have a2:=Ed (d:=11) (n:=n) (c:=c) (show i+1<=n by omega);have a3:=sD (n:=i+1) c (part f i 0) (show i<i+1 by omega);simp only[AH];refine aB fun _ K=>?_;simp(disch:=omega) only[kd,gN,aa,kG,a1];apply K
  refine bx (G:=rE c) (fun g=>⟨(jk::rN c::.fn 20 [kG (bL n c f)]::j4 (.one (.sl 11 0 0 n)::rN i::j4 (.raw (.int .i64 (n:Int))::rN i::j4 (j4 (jk::jk::jk::rN c::rN g.i::j4 (j4 (j4 (jk::jk::jk::[])))))))),Hm [(11,AH 11 n c (i+1) (part f i g.i))]⟩) (fun g=>c-g.i) ⟨0,by omega⟩ ?_ ?_
  ·refine aC ⟨rfl,trivial⟩ ?_;simp[wk]
  rintro⟨j,hj⟩;simp only;by_cases hm2:j<c
  ·have hS:=IL (n:=n) (c:=c) (f:=f) hm hm2 hc hn (hf i j hm hm2);have g2:=sD (n:=i+1) c (part f i j) (show i<i+1 by omega);have g3:=aX (part f i j i) hm2;refine aB fun _ K=>?_;simp(disch:=omega) only[kd,gN,kG];apply K
   refine b8 rfl ?_;refine aD (aH ?_);refine aB fun _ K=>?_;simp only[kd];apply K
   simp only[AH];refine ms bE [⟨8,_,_,_,hS⟩] [] (by kernel_rfl) fun _ K=>?_;simp(disch:=omega) only[kd,gN,kG,tZ,aa,a1,g2,fZ,g3,EU];apply K
   show bH _ _ _ _;refine aR fun _ K=>?_;simp(disch:=omega) only[kd,gN,aS];apply K
   refine⟨⟨j+1,by omega⟩,by simp only;omega,aC ⟨?_,trivial⟩ ?_⟩
   ·show _::_=_::_;rw[mN fun a b _ _=>mQ f i j a b]
   simp[wk]
  have hjc:j=c:=by omega
  subst hjc;refine aB fun _ K=>?_;simp(disch:=omega) only[kd,gN,kG];apply K
  refine cn rfl ?_;show bH _ _ _ _;refine aR fun _ K=>?_;simp(disch:=omega) only[kd,gN,aS];apply K
  refine⟨⟨i+1,by omega⟩,by simp only;omega,aC ⟨?_,trivial⟩ ?_⟩
  ·show _::_=_::_;rw[mN fun a b _ hb=>pw f i a b hb]
  simp[wk]
 have hin:i=n:=by omega
 subst hin;rw[Bj];refine aB fun _ K=>?_;simp(disch:=omega) only[kd,gN,kG];apply K
 refine cn rfl ?_;show bH _ _ _ _;refine aB fun _ K=>?_;simp only[kd];apply K
 refine aM ⟨.inr rfl,_,bX.refl _,?_⟩;refine⟨.one (.sl 11 0 0 i),11,?_,rfl,?_,rfl⟩
 ·simp(disch:=omega) only[kd,gN,Tryd.results19]
 show Ca 0 i c f=(Ca 11 i c (part f i 0)).map (renO 0);rw[yi 11 0];show _::_=_::_;rw[mN fun a b ha _=>pv f a b ha]
theorem uP (n c:Nat) (f:FF) (hn1:1<=n) (hn:n<=16) (hc1:1<=c) (hc:c<=16) (hf: ∀i j,i<n->j<c-> -9223372036854775808<=f i j/\f i j<=9223372036854775807):
  CallC Tryd.prog 10 [bT (bL n c f)] ⟨[],Jx (bL n c f)⟩:=by
 have hml:=aU n c f;have h0:=lH (M:=bL n c f) (by omega);have h1:=bq (n:=n) c f (i:=0) (by omega);have hhd:(bL n c f).headD []=bz c (f 0):=by rw[h1]at h0;injection h0 with h0;exact h0.symm
 have hsh:AG (bL n c f):=⟨by omega,by omega,fun r hr=>by
  obtain⟨i,_,rfl⟩:=List.mem_map.1 hr;rw[hhd];simp[JB,bA];omega⟩
 have hS:=C4 (bL n c f);rw[oc hsh,hml,hhd,bA]at hS;have hB:=Ee n c f hn1 hn hc1 hc hf;unfold Jx;refine aN Tryd.func10 rfl (by kernel_rfl) ?_;rw[Tryd.ntmps10];refine aB fun _ K=>?_;simp(disch:=omega) only[kd,gN,aa,bT,ae];apply K
 refine aK [⟨1,_,_,_,hS⟩] [] fun _ K=>?_;simp only[kd,bT,aa];apply K
 refine aD (aB fun _ K=>?_);simp only[kd];apply K;refine a6 rfl (aT ?_);show bH _ _ _ _;refine bH.weak ((lg 1 1 (cs:=[.sl (ls (fR fI) (bL n c f))]) rfl rfl).trans (aC (tm:=(jk::.one (kG (bL n c f))::jk::jk::rN n::rN c::j4 (j4 (j4 (jk::[]))))) (l:=[]) trivial (by simp[wk,fV,eo,aO,Hm]))) ?_;refine aK [⟨3,_,_,_,hB⟩] [] fun _ K=>?_;simp only[kd,kG,aa];apply K
 refine bH.weak (aC (tm:=(jk::jk::.one (.sl 18 0 0 n)::.raw (.bool true)::j4 (j4 (j4 (jk::jk::jk::[]))))) (l:=[(18,Ca 18 n c f)]) ⟨yi 0 18 n c f,trivial⟩ (by simp[wk])) ?_;refine bH.weak ((dH 18 (Ew rfl)).trans (aC (tm:=(jk::jk::gF (bL n c f)::.raw (.bool true)::j4 (j4 (j4 (jk::jk::jk::[]))))) (l:=[]) trivial (by simp[wk];exact⟨(JY (H:=Hm [(18,Ca 18 n c f)]) (d:=18) (n:=n) (c:=c) (f:=f) rfl).symm,rfl⟩))) ?_
 (refine aM ⟨.inr rfl,aI rfl ?_ rfl⟩;simp(disch:=omega) only[kd,gN,Tryd.results10,gF])
def a4 (c:Nat->Int):List AV:=[.p (.raw (.int .i64 (c 0))),.p (.raw (.int .i64 (c 1))),.p (.raw (.int .i64 (c 2))),.p (.raw (.int .i64 (c 3)))]
theorem cJ (c:Nat->Int):(a4 c).length=4:=rfl
theorem iv (c:Nat->Int):(a4 c).all dI=true:=rfl
theorem mu (c:Nat->Int) (d:Nat):(a4 c).map (cU d)=a4 c:=rfl
theorem dR (c:Nat->Int):(a4 c).all isPure=true:=rfl
theorem eI (c:Nat->Int):(a4 c).take 4=a4 c:=rfl
theorem jv (c:Nat->Int):(a4 c).drop 4=[]:=rfl
theorem rK (c:Nat->Int) {i:Nat} (h:i<4):(a4 c).drop (i*1)= .p (.raw (.int .i64 (c i)))::(a4 c).drop (i+1):=by
 match i,h with
 |0,_=>rfl
 |1,_=>rfl
 |2,_=>rfl
 |3,_=>rfl
def In (c:Nat->Int) (i:Nat) (v:Int):Nat->Int:=fun j=>if j=i then v else c j
theorem rL (c:Nat->Int) {i:Nat} (v:Int) (h:i<4):(a4 c).take (i*1)++[.p (.raw (.int .i64 v))]++(a4 c).drop (i*1+1)=a4 (In c i v):=by
 match i,h with
 |0,_=>rfl
 |1,_=>rfl
 |2,_=>rfl
 |3,_=>rfl
theorem lh {c c':Nat->Int} (h: ∀j,j<4->c j=c' j):a4 c=a4 c':=by
 unfold a4;rw[h 0 (by omega),h 1 (by omega),h 2 (by omega),h 3 (by omega)]
abbrev vB (c:Nat->Int):List OObj:=[⟨29,4,[a4 c]⟩]
abbrev tC (c:Nat->Int):TV:= .agg (a4 c)
structure JK (i code:Nat) where
 j:Nat
 hj:j<=i
def Ei (code j:Nat):Nat->Int:=fun l=>if l<j then dg code l else 0
theorem Br (code:Nat):a4 (Ei code 0)=a4 (fun _=>0):=lh fun j _=>if_neg (by omega)
theorem Bq (code j:Nat):a4 (In (Ei code j) j (dg code j))=a4 (Ei code (j+1)):=lh fun l _=>by
 unfold In Ei;by_cases h:l=j
 ·subst h;simp
 by_cases h2:l<j
 ·simp[h,h2,show l<j+1 by omega]
 simp[h,h2,show ¬l<j+1 by omega]
theorem Ej (code i:Nat):a4 (In (Ei code i) i 1)=a4 (iA i code):=lh fun l _=>by
 unfold In Ei iA;by_cases h:l=i
 ·subst h;simp
 by_cases h2:l<i<;>simp[h,h2]
theorem sy (i code:Nat) (hi:i<4) (hcode:code<1000):CallC Tryd.prog 26 [.raw (.int .i64 (i:Int)),.raw (.int .i64 (code:Int))] ⟨[],tC (iA i code)⟩:=by
 refine aN Tryd.func26 rfl (by kernel_rfl) ?_;rw[Tryd.ntmps26];refine aB fun _ K=>?_;simp(disch:=omega) only[kd,gN,aa,ae];apply K
 refine aB fun _ K=>?_;simp(disch:=omega) only[kd,gN,aa,ab];apply K
 refine aD (aB fun _ K=>?_);simp only[kd];apply K;refine bx (G:=JK i code) (fun g=>⟨(.raw (.int .i64 (i:Int))::.raw (.int .i64 ((code/3^g.j:Nat):Int))::jk::jk::.one (.ptr 4 0 0 0)::.one (.ptr 5 0 0 0)::jk::rN i::rN g.j::j4 (j4 (j4 (jk::[])))),Hm [(4,vB fun _=>0),(5,vB (Ei code g.j))]⟩) (fun g=>i-g.j) ⟨0,by omega⟩ ?_ ?_
 ·rw[Nat.pow_zero,Nat.div_one];refine aC ⟨rfl,?_,trivial⟩ ?_
  ·show _=[_];rw[Br];rfl
  simp[wk]
 rintro⟨j,hj⟩;simp only;by_cases hm:j<i
 ·have hj4:j<4:=by omega
  obtain⟨q,hq⟩: ∃q,q=code/3^j:=⟨_,rfl⟩;have hq3:code/3^(j+1)=q/3:=by rw[Nat.pow_succ,hq,Nat.div_div_eq_div_mul]
  have hdg:dg code j=((q%3:Nat):Int)-1:=by rw[hq];rfl
  have hqle:q<=code:=by rw[hq];exact Nat.div_le_self _ _
  rw[<- hq];have e1:Int.tmod (q:Int) 3=((q%3:Nat):Int):=(Int.ofNat_tmod q 3).symm;have e2:IntKind.i64.wrap (Int.tdiv (q:Int) 3)=((q/3:Nat):Int):=by
   rw[Int.tdiv_eq_ediv_of_nonneg (by omega),IntKind.wrap_i64];omega
  have e3:IntKind.i64.wrap (((q%3:Nat):Int)-1)=dg code j:=by rw[hdg,IntKind.wrap_i64];omega
  have a1:=rL (Ei code j) (dg code j) hj4;rw[Bq]at a1;refine aB fun _ K=>?_;simp(disch:=omega) only[kd,gN];apply K
  refine b8 rfl ?_;refine aD (aH ?_);refine aB fun _ K=>?_;simp only[kd];apply K
  refine aB fun _ K=>?_;simp(disch:=omega) only[kd,gN,aa,e1,e3,hj4,ab,cJ,ah,a1];apply K
  refine aR fun _ K=>?_;simp(disch:=omega) only[kd,gN,aa,e2];apply K
  show bH _ _ _ _;refine aR fun _ K=>?_;simp(disch:=omega) only[kd,gN,aS];apply K
  refine⟨⟨j+1,by omega⟩,by simp only;omega,aC ⟨rfl,rfl,trivial⟩ ?_⟩;rw[hq3];simp[wk]
 have hji:j=i:=by omega
 subst hji;have a1:=rL (Ei code j) 1 hi;rw[Ej]at a1;refine aB fun _ K=>?_;simp(disch:=omega) only[kd,gN];apply K
 refine cn rfl ?_;show bH _ _ _ _;refine aB fun _ K=>?_;simp(disch:=omega) only[kd,gN,aa,hi,ab,cJ,ah,a1];apply K
 refine aB fun _ K=>?_;simp(disch:=omega) only[kd,gN,ab,cJ,eI,dR,jv];apply K
 (refine aM ⟨.inr rfl,aI rfl ?_ rfl⟩;simp(disch:=omega) only[kd,gN,Tryd.results26,ab,cJ,eI,tC])
def Gl (f:FF) (c:Nat->Int) (a b:Nat):Int:=f a b*c a*c b
def nS (n:Nat) (f:FF) (c:Nat->Int) (i j:Nat):Int:=bu (fun a=>bu (Gl f c a) n) i+bu (Gl f c i) j
theorem Hr (n:Nat) (f:FF) (c:Nat->Int) (i:Nat):nS n f c i n=nS n f c (i+1) 0:=by
 unfold nS;rw[bu,bu,Int.add_zero]
theorem Hq (n:Nat) (f:FF) (c:Nat->Int):nS n f c n 0=nrm n f c:=by
 unfold nS nrm BF;rw[bu,Int.add_zero];refine aF n fun i _=>?_
 rw[<- bO];exact aF n fun j _=>by unfold Gl;grind
theorem mp {x c B:Int} (hc: -1<=c/\c<=1) (hx: -B<=x/\x<=B): -B<=x*c/\x*c<=B:=by
 have:c= -1\/c=0\/c=1:=by omega
 rcases this with rfl|rfl|rfl
 ·rw[Int.mul_neg,Int.mul_one];omega
 ·rw[Int.mul_zero];omega
 rw[Int.mul_one];exact hx
theorem Gk {n:Nat} {f:FF} {c:Nat->Int} {B:Int} (hf: ∀i j,i<n->j<n-> -B<=f i j/\f i j<=B) (hc: ∀j,-1<=c j/\c j<=1) {i j:Nat} (hi:i<n) (hj:j<=n):
  -(((i:Int)+1)*((n:Int)*B))<=nS n f c i j/\nS n f c i j<=((i:Int)+1)*((n:Int)*B):=by
 have hB:0<=B:=by have:=hf i i hi hi;omega
 have ht: ∀a b,a<n->b<n-> -B<=Gl f c a b/\Gl f c a b<=B:=fun a b ha hb=>mp (hc b) (mp (hc a) (hf a b ha hb))
 have h1:=sZ (F:=fun a=>bu (Gl f c a) n) (B:=(n:Int)*B) i fun p hp=>sZ n fun b hb=>ht p b (by omega) hb
 have h2:=sZ (F:=Gl f c i) (B:=B) j fun b hb=>ht i b hi (by omega)
 have h3:(j:Int)*B<=(n:Int)*B:=Int.mul_le_mul_of_nonneg_right (by omega) hB;unfold nS;rw[Int.add_mul,Int.one_mul];omega
theorem ye (n:Nat) (f:FF) (c:Nat->Int) (hn1:1<=n) (hn:n<=4) (hf: ∀i j,i<n->j<n-> -1125899906842624<=f i j/\f i j<=1125899906842624) (hc: ∀j,-1<=c j/\c j<=1):
  CallC Tryd.prog 27 [bT (bL n n f),tC c] ⟨[],.raw (.int .i64 (nrm n f c))⟩:=by
 have hml:=aU n n f;refine aN Tryd.func27 rfl (by kernel_rfl) ?_;rw[Tryd.ntmps27];refine aB fun _ K=>?_;simp(disch:=omega) only[kd,gN,bT,tC,aa,ae,dR,cJ];apply K
 refine aB fun _ K=>?_;simp only[kd];apply K
 refine aD (aB fun _ K=>?_);simp only[kd,aa,hml];apply K;refine bx (G:=rE n) (fun g=>⟨(jk::jk::jk::.one (.ptr 3 0 0 0)::jk::.raw (.int .i64 (nS n f c g.i 0))::j4 (bT (bL n n f)::rN n::rN g.i::j16 (j4 (j4 (jk::[]))))),Hm [(3,vB c)]⟩) (fun g=>n-g.i) ⟨0,by omega⟩ ?_ ?_
 ·refine aC ⟨rfl,trivial⟩ ?_;simp[wk,nS,bu]
 rintro⟨i,hi⟩;simp only;by_cases hm:i<n
 ·have hr:=bq n f hm;have hi4:i<4:=by omega
  have hrl:=bA n (f i);refine aB fun _ K=>?_;simp(disch:=omega) only[kd,gN,bT];apply K
  refine b8 rfl ?_;refine aD (aH ?_);refine aB fun _ K=>?_;simp(disch:=omega) only[kd,gN,aa,hr,fR];apply K
  refine aB fun _ K=>?_;simp only[kd,aa,hrl];apply K
  refine bx (G:=rE n) (fun g=>⟨(jk::jk::jk::.one (.ptr 3 0 0 0)::jk::.raw (.int .i64 (nS n f c i g.i))::rN i::jk::jk::jk::bT (bL n n f)::rN n::rN i::j4 (.one (.p (.sl (ls fI (bz n (f i)))))::rN n::rN g.i::j16 (jk::jk::[]))),Hm [(3,vB c)]⟩) (fun g=>n-g.i) ⟨0,by omega⟩ ?_ ?_
  ·refine aC ⟨rfl,trivial⟩ ?_;simp[wk]
  rintro⟨j,hj⟩;simp only;by_cases hjn:j<n
  ·have hg:=aX (f i) hjn;have hj4:j<4:=by omega
   have b1:=hf i j hm hjn;have b2:=mp (hc i) b1;have b3:=mp (hc j) b2;have b4:=Gk hf hc hm hj;have b5:=Gk hf hc hm (j:=j+1) (by omega);have e1:IntKind.i64.wrap (f i j*c i)=f i j*c i:=aS (by omega) (by omega);have e2:IntKind.i64.wrap (f i j*c i*c j)=f i j*c i*c j:=aS (by omega) (by omega);have e4:nS n f c i j+f i j*c i*c j=nS n f c i (j+1):=by
    unfold nS;rw[bu,show Gl f c i j=f i j*c i*c j from rfl,Int.add_assoc]
   have hb:((i:Int)+1)*((n:Int)*1125899906842624)<=18014398509481984:=by
    have:((i:Int)+1)*((n:Int)*1125899906842624)<=4*((n:Int)*1125899906842624):=Int.mul_le_mul_of_nonneg_right (by omega) (by omega);omega
   have e3:IntKind.i64.wrap (nS n f c i (j+1))=nS n f c i (j+1):=aS (by omega) (by omega);have d1:=rK c hi4;have d2:=rK c hj4;refine aB fun _ K=>?_;simp(disch:=omega) only[kd,gN,bT];apply K
   refine b8 rfl ?_;refine aD (aH ?_);refine aB fun _ K=>?_;simp(disch:=omega) only[kd,gN,aa,hg];apply K
   refine ot bE (by kernel_rfl) fun _ K=>?_;simp(disch:=omega) only[kd,gN,aa,hi4,d1,e1,hj4,d2,e2,e4,e3];apply K
   show bH _ _ _ _;refine aR fun _ K=>?_;simp(disch:=omega) only[kd,gN,aS];apply K
   refine⟨⟨j+1,by omega⟩,by simp only;omega,aC ⟨rfl,trivial⟩ ?_⟩;simp[wk]
  have hjn:j=n:=by omega
  subst hjn;refine aB fun _ K=>?_;simp(disch:=omega) only[kd,gN,bT];apply K
  refine cn rfl ?_;show bH _ _ _ _;refine aR fun _ K=>?_;simp(disch:=omega) only[kd,gN,aS];apply K
  refine⟨⟨i+1,by omega⟩,by simp only;omega,aC ⟨rfl,trivial⟩ ?_⟩;rw[Hr];simp[wk]
 have hin:i=n:=by omega
 subst hin;refine aB fun _ K=>?_;simp(disch:=omega) only[kd,gN,bT];apply K
 refine cn rfl ?_;show bH _ _ _ _;rw[Hq];refine aB fun _ K=>?_;simp only[kd];apply K
 (refine aM ⟨.inr rfl,aI rfl ?_ rfl⟩;simp(disch:=omega) only[kd,gN,Tryd.results27])
theorem BE {n:Nat} {f:FF} (hf: ∀i j,i<n->j<n->Sz (f i j) 1024): ∀k,k<n->(∀t,t<k->dk f (t+1)≠0)-> ∃s,s+1<=1025*2^k/\ ∀i j,i<n-k->j<n-k->Sz (elF f k i j) s
 |0,_,_=>⟨1024,by omega,fun i j hi hj=>by
  show Sz (bk f 0 (0+i) (0+j)) 1024;rw[cP,Nat.zero_add,Nat.zero_add];exact hf i j (by omega) (by omega)⟩
 |k+1,hk,nz=>by
  obtain⟨s,h1,h2⟩:=BE hf k (by omega) (fun t ht=>nz t (by omega));refine⟨2*s+1,by rw[Nat.pow_succ];omega,fun i j hi hj=>?_⟩;rw[<- oT (fun t ht=>nz t (by omega))];exact((((h2 0 0 (by omega) (by omega)).mul (h2 (i+1) (j+1) (by omega) (by omega))).sub ((h2 (i+1) 0 (by omega) (by omega)).mul (h2 0 (j+1) (by omega) (by omega)))).ediv _).mono (by omega)
theorem FJ {n k i:Nat} (f:FF) (h:i<k):(vD n f k)[i]?=some (BG n f i):=by
 unfold vD;rw[List.getElem?_map,List.getElem?_range h];rfl
structure JO (n:Nat) (f:FF) where
 i:Nat
 hi:i<=n
 ok: ∀a,a<i->0<dk f (a+1)
theorem uO (n:Nat) (f:FF) (hn1:1<=n) (hn:n<=16) (hf: ∀i j,i<n->j<n->Sz (f i j) 1024) (r:Bool) (hr:r=true↔PD f n):CallC Tryd.prog 11 [gF (bL n n f)] ⟨[],.raw (.bool r)⟩:=by
 have hQ:=rh n f hn1 hn;have hS:=AQ n f hn1 hn hf;have hml:=aU n n f;refine aN Tryd.func11 rfl (by kernel_rfl) ?_;rw[Tryd.ntmps11];refine aB fun _ K=>?_;simp only[kd,gF,ae];apply K
 refine aK [⟨1,_,_,_,hQ⟩] [] fun _ K=>?_;simp only[kd,gF,aa];apply K
 refine aD (aB fun _ K=>?_);simp only[kd];apply K;refine a6 rfl (aT ?_);show bH _ _ _ _;refine aD (aB fun _ K=>?_);simp only[kd];apply K;refine bx (G:=JQ n f) (fun g=>⟨(gF (bL n n f)::jk::.raw (.bool false)::j4 (j4 (j4 (jk::jk::rN n::rN g.i::j16 (j16 (j4 (j4 (j4 (jk::[]))))))))),Hm []⟩) (fun g=>n-g.i) ⟨0,by omega,fun a ha=>by omega⟩ ?_ ?_
 ·refine aC trivial ?_;simp[wk]
 rintro⟨i,hi,ok⟩;simp only;by_cases hm:i<n
 ·refine aB fun _ K=>?_;simp(disch:=omega) only[kd,gN,gF];apply K
  refine b8 rfl ?_;refine aD (aH ?_);refine aB fun _ K=>?_;simp only[kd];apply K
  refine aB fun _ K=>?_;simp only[kd];apply K
  refine bx (G:=JR n i f) (fun g=>⟨(gF (bL n n f)::jk::.raw (.bool false)::jk::jk::rN i::j4 (j4 (jk::jk::jk::rN n::rN i::jk::jk::rN i::rN g.j::j16 (j16 (j4 (j4 (jk::[]))))))),Hm []⟩) (fun g=>i-g.j) ⟨0,by omega,fun a ha=>by omega⟩ ?_ ?_
  ·refine aC trivial ?_;simp[wk]
  rintro⟨j,hj,okj⟩;simp only;by_cases hm2:j<i
  ·have a1:=bq n f hm;have a2:=bq n f (show j<n by omega);have a3:=aX (f i) (show j<n by omega);have a4:=aX (f j) hm;have c1:=Hd (f i j) (f j i) ((hf i j hm (by omega)).mono (by omega)) ((hf j i (by omega) hm).mono (by omega));by_cases he:f i j=f j i
   ·rw[he,za]at c1;rw[he]at a3;refine aB fun _ K=>?_;simp(disch:=omega) only[kd,gN,gF];apply K
    refine b8 rfl ?_;refine aD (aH ?_);refine aB fun _ K=>?_;simp only[kd];apply K
    refine dn bE [⟨14,_,_,_,c1⟩] [] (by kernel_rfl) fun _ K=>?_;simp(disch:=omega) only[kd,gN,tZ,aa,a1,fR,a3,fZ,a2,a4];apply K
    refine a6 rfl (aT ?_);show bH _ _ _ _;refine aR fun _ K=>?_;simp(disch:=omega) only[kd,gN,aS];apply K
    refine⟨⟨j+1,by omega,fun b hb=>?_⟩,by simp only;omega,aC trivial ?_⟩
    ·by_cases e:b=j
     ·subst e;exact he
     exact okj b (by omega)
    simp[wk]
   have hr0:r=false:=by
    cases r with
    |false=>rfl
    |true=>exact absurd ((hr.1 rfl).1 i hm j (by omega)) he
   subst hr0;have hne:=Bt he;refine aB fun _ K=>?_;simp(disch:=omega) only[kd,gN,gF];apply K
   refine b8 rfl ?_;refine aD (aH ?_);refine aB fun _ K=>?_;simp only[kd];apply K
   refine dn bE [⟨14,_,_,_,c1⟩] [] (by kernel_rfl) fun _ K=>?_;simp(disch:=omega) only[kd,gN,tZ,aa,a1,fR,a3,fZ,a2,a4];apply K
   refine bs rfl ?_;refine aB fun _ K=>?_;simp only[kd];apply K
   (refine aM ⟨.inr rfl,aI rfl ?_ rfl⟩;simp(disch:=omega) only[kd,gN,Tryd.results11])
  refine aB fun _ K=>?_;simp(disch:=omega) only[kd,gN,gF];apply K
  refine cn rfl ?_;show bH _ _ _ _;refine aR fun _ K=>?_;simp(disch:=omega) only[kd,gN,aS];apply K
  refine⟨⟨i+1,by omega,fun a ha b hb=>?_⟩,by simp only;omega,aC trivial ?_⟩
  ·by_cases e:a=i
   ·subst e;exact okj b (by omega)
   exact ok a (by omega) b hb
  simp[wk]
 have hsym:SymF f n:=fun a ha b hb=>by
  rcases Nat.lt_trichotomy a b with h|h|h
  ·exact(ok b (by omega) a h).symm
  ·rw[h]
  exact ok a (by omega) b h
 refine aB fun _ K=>?_;simp(disch:=omega) only[kd,gN,gF];apply K
 refine cn rfl ?_;show bH _ _ _ _;by_cases hnz:Ip n f
 ·rw[vq hnz]at hS;have hln:=s6 n f n;refine aK [⟨1,_,_,_,hS⟩] [] fun _ K=>?_;simp only[kd,gF,aa];apply K
  refine aD (aB fun _ K=>?_);simp only[kd];apply K;refine a6 rfl (aT ?_);show bH _ _ _ _;refine aD (aB fun _ K=>?_);simp only[kd,aa,hln];apply K;refine bx (G:=JO n f) (fun g=>⟨(jk::jk::.raw (.bool false)::j16 (j16 (j4 (j4 (j4 (jk::jk::jk::.one (.p (.sl (ls fM (vD n f n))))::rN n::rN g.i::j4 (j4 (jk::jk::jk::[])))))))),Hm []⟩) (fun g=>n-g.i) ⟨0,by omega,fun a ha=>by omega⟩ ?_ ?_
  ·refine aC trivial ?_;simp[wk]
  rintro⟨k,hk,okk⟩;simp only;by_cases hkn:k<n
  ·have g1:=FJ (n:=n) (k:=n) f hkn;have q1:=bq (n-k) (elF f k) (show 0<n-k by omega);have q2:=aX (elF f k 0) (show 0<n-k by omega);obtain⟨s,hs1,hs2⟩:=BE hf k hkn (fun t ht=>hnz t (by omega));have h2k:=rk (k:=k) (by omega);have hSg:=nP (elF f k 0 0) ((hs2 0 0 (by omega) (by omega)).mono (by omega));rw[jC]at hSg q2;refine aB fun _ K=>?_;simp(disch:=omega) only[kd,gN];apply K
   refine b8 rfl ?_;refine aD (aH ?_);refine aB fun _ K=>?_;simp(disch:=omega) only[kd,gN,aa,g1,fM];apply K
   by_cases hp:0<dk f (k+1)
   ·rw[H8 hp]at hSg;refine aK [⟨5,_,_,_,hSg⟩] [] fun _ K=>?_;simp(disch:=omega) only[kd,gN,tZ,aa,am,q1,fR,q2,fZ,Int.reduceLE];apply K
    refine a6 rfl (aT ?_);show bH _ _ _ _;refine aR fun _ K=>?_;simp(disch:=omega) only[kd,gN,aS];apply K
    refine⟨⟨k+1,by omega,fun a ha=>?_⟩,by simp only;omega,aC trivial ?_⟩
    ·by_cases e:a=k
     ·subst e;exact hp
     exact okk a (by omega)
    simp[wk]
   have hr0:r=false:=by
    cases r with
    |false=>rfl
    |true=>exact absurd ((hr.1 rfl).2 k hkn) hp
   subst hr0;have hle:=FA hp;refine aK [⟨5,_,_,_,hSg⟩] [] fun _ K=>?_;simp(disch:=omega) only[kd,gN,tZ,aa,am,q1,fR,q2,fZ];apply K
   refine bs rfl ?_;refine aB fun _ K=>?_;simp only[kd];apply K
   (refine aM ⟨.inr rfl,aI rfl ?_ rfl⟩;simp(disch:=omega) only[kd,gN,Tryd.results11])
  have hr1:r=true:=hr.2 ⟨hsym,fun a ha=>okk a (by omega)⟩;subst hr1;refine aB fun _ K=>?_;simp(disch:=omega) only[kd,gN];apply K
  refine cn rfl ?_;show bH _ _ _ _;refine aB fun _ K=>?_;simp only[kd];apply K
  (refine aM ⟨.inr rfl,aI rfl ?_ rfl⟩;simp(disch:=omega) only[kd,gN,Tryd.results11])
 rw[yB hnz]at hS;have hr0:r=false:=by
  cases r with
  |false=>rfl
  |true=>exact absurd (fun t ht=>by have:=(hr.1 rfl).2 t (by omega);omega) hnz
 subst hr0;refine aK [⟨1,_,_,_,hS⟩] [] fun _ K=>?_;simp only[kd,gF,aa];apply K
 refine aD (aB fun _ K=>?_);simp only[kd];apply K;refine bs rfl ?_;refine aB fun _ K=>?_;simp only[kd];apply K
 (refine aM ⟨.inr rfl,aI rfl ?_ rfl⟩;simp(disch:=omega) only[kd,gN,Tryd.results11])
/-! isForm -/
def RwOk (n:Nat) (r:List Int):Prop:=r.length=n/\ ∀x∈r,-1125899906842624<=x/\x<=1125899906842624
def tf (M:List (List Int)):Prop:=(1<=M.length/\M.length<=4)/\(∀r∈M,RwOk M.length r)/\PD (ent M) M.length
structure JL (M:List (List Int)) where
 i:Nat
 hi:i<=M.length
 ok: ∀a,a<i-> ∀r,M[a]?=some r->RwOk M.length r
structure JM (r:List Int) where
 j:Nat
 hj:j<=r.length
 ok: ∀b,b<j-> ∀x,r[b]?=some x-> -1125899906842624<=x/\x<=1125899906842624
theorem tf.entB {M:List (List Int)} (h:tf M) {i j:Nat} (hi:i<M.length) (hj:j<M.length): -1125899906842624<=ent M i j/\ent M i j<=1125899906842624:=by
 have hr:=h.2.1 M[i] (List.getElem_mem hi);have e:ent M i j=M[i][j]'(by rw[hr.1];exact hj):=by
  unfold ent;simp[List.getD,hi,hr.1,hj]
 rw[e];exact hr.2 _ (List.getElem_mem _)
theorem GO {x:Int} (h: -1125899906842624<=x/\x<=1125899906842624):Sz x 1024:=by
 have:Sz x 2:=by unfold Sz;omega
 exact this.mono (by omega)
theorem Ah {M:List (List Int)} {i:Nat} {r:List Int} (h:M[i]?=some r):r∈M:=List.mem_of_getElem? h
theorem qX (M:List (List Int)) (r:Bool) (hr:r=true↔tf M):CallC Tryd.prog 6 [bT M] ⟨[],.raw (.bool r)⟩:=by
 by_cases hlen:1<=M.length/\M.length<=4
 ·refine aN Tryd.func6 rfl (by kernel_rfl) ?_;rw[Tryd.ntmps6];refine aB fun _ K=>?_;simp only[kd,bT,ae];apply K
  refine aD (aB fun _ K=>?_);simp(disch:=omega) only[kd,gN,aa];apply K;refine a6 rfl (aT ?_);show bH _ _ _ _;refine aD (aB fun _ K=>?_);simp only[kd,aa];apply K;refine bx (G:=JL M) (fun g=>⟨(bT M::jk::.raw (.bool false)::j4 (j4 (j4 (jk::jk::bT M::rN M.length::rN g.i::j16 (j4 (j4 (j4 (jk::[])))))))),Hm []⟩) (fun g=>M.length-g.i) ⟨0,by omega,fun a ha=>by omega⟩ ?_ ?_
  ·refine aC trivial ?_;simp[wk]
  rintro⟨i,hi,ok⟩;simp only;by_cases hm:i<M.length
  ·obtain⟨q,hq⟩: ∃q,M[i]?=some q:=⟨M[i],List.getElem?_eq_getElem hm⟩;have hqm:=Ah hq;refine aB fun _ K=>?_;simp(disch:=omega) only[kd,gN,bT];apply K
   refine b8 rfl ?_;refine aD (aH ?_);refine aB fun _ K=>?_;simp(disch:=omega) only[kd,gN,aa,hq,fR];apply K
   by_cases hql:q.length=M.length
   ·refine aD (aB fun _ K=>?_);simp(disch:=omega) only[kd,gN,aa,hql];apply K;refine a6 rfl (aT ?_);show bH _ _ _ _;refine aB fun _ K=>?_;simp only[kd,aa,hql];apply K
    refine bx (G:=JM q) (fun g=>⟨(bT M::jk::.raw (.bool false)::jk::.one (.p (.sl (ls fI q)))::j4 (j4 (j4 (bT M::rN M.length::rN i::j4 (j4 (.one (.p (.sl (ls fI q)))::rN M.length::rN g.j::j16 (jk::jk::[]))))))),Hm []⟩) (fun g=>q.length-g.j) ⟨0,by omega,fun a ha=>by omega⟩ ?_ ?_
    ·refine aC trivial ?_;simp[wk]
    rintro⟨j,hj,okj⟩;simp only;by_cases hm2:j<q.length
    ·obtain⟨x,hx⟩: ∃x,q[j]?=some x:=⟨q[j],List.getElem?_eq_getElem hm2⟩;refine aB fun _ K=>?_;simp(disch:=omega) only[kd,gN,bT];apply K
     refine b8 rfl ?_;refine aD (aH ?_);refine aB fun _ K=>?_;simp(disch:=omega) only[kd,gN,aa,hx];apply K
     by_cases hlo:x< -1125899906842624
     ·have hr0:r=false:=by
       cases r with
       |false=>rfl
       |true=>have:=((hr.1 rfl).2.1 q hqm).2 x (List.mem_of_getElem? hx);omega
      subst hr0;refine aB fun _ K=>?_;simp(disch:=omega) only[kd,gN,aa,reduceCtorEq];apply K
      refine bs rfl ?_;refine aB fun _ K=>?_;simp only[kd];apply K
      (refine aM ⟨.inr rfl,aI rfl ?_ rfl⟩;simp(disch:=omega) only[kd,gN,Tryd.results6])
     by_cases hhi:1125899906842624<x
     ·have hr0:r=false:=by
       cases r with
       |false=>rfl
       |true=>have:=((hr.1 rfl).2.1 q hqm).2 x (List.mem_of_getElem? hx);omega
      subst hr0;refine aB fun _ K=>?_;simp(disch:=omega) only[kd,gN,aa];apply K
      refine bs rfl ?_;refine aB fun _ K=>?_;simp only[kd];apply K
      (refine aM ⟨.inr rfl,aI rfl ?_ rfl⟩;simp(disch:=omega) only[kd,gN,Tryd.results6])
     refine aB fun _ K=>?_;simp(disch:=omega) only[kd,gN,aa];apply K
     refine a6 rfl (aT ?_);show bH _ _ _ _;refine aR fun _ K=>?_;simp(disch:=omega) only[kd,gN,aS];apply K
     refine⟨⟨j+1,by omega,fun b hb y hy=>?_⟩,by simp only;omega,aC trivial ?_⟩
     ·by_cases e:b=j
      ·subst e;rw[hx]at hy;injection hy with hy
       omega
      exact okj b (by omega) y hy
     simp[wk]
    refine aB fun _ K=>?_;simp(disch:=omega) only[kd,gN,bT];apply K
    refine cn rfl ?_;show bH _ _ _ _;refine aR fun _ K=>?_;simp(disch:=omega) only[kd,gN,aS];apply K
    refine⟨⟨i+1,by omega,fun a ha q' hq'=>?_⟩,by simp only;omega,aC trivial ?_⟩
    ·by_cases e:a=i
     ·subst e;rw[hq]at hq';injection hq' with hq'
      subst hq';refine⟨hql,fun x hx=>?_⟩;obtain⟨b,hb⟩:=List.mem_iff_getElem?.1 hx;exact okj b (by have:=(List.getElem?_eq_some_iff.1 hb).1;omega) x hb
     exact ok a (by omega) q' hq'
    simp[wk]
   have hr0:r=false:=by
    cases r with
    |false=>rfl
    |true=>exact absurd ((hr.1 rfl).2.1 q hqm).1 hql
   subst hr0;refine aD (aB fun _ K=>?_);simp(disch:=omega) only[kd,gN,aa];apply K;refine bs rfl ?_;refine aB fun _ K=>?_;simp only[kd];apply K
   (refine aM ⟨.inr rfl,aI rfl ?_ rfl⟩;simp(disch:=omega) only[kd,gN,Tryd.results6])
  have hall: ∀q∈M,RwOk M.length q:=fun q hq=>by
   obtain⟨a,ha⟩:=List.mem_iff_getElem?.1 hq;exact ok a (by have:=(List.getElem?_eq_some_iff.1 ha).1;omega) q ha
  have eM:=sA (M:=M) (m:=M.length) fun q hq=>(hall q hq).1
  have hb: ∀i j,i<M.length->j<M.length-> -1125899906842624<=ent M i j/\ent M i j<=1125899906842624:=fun i j hi hj=>by
   have hrw:=hall M[i] (List.getElem_mem hi);have e:ent M i j=M[i][j]'(by rw[hrw.1];exact hj):=by
    unfold ent;simp[List.getD,hi,hrw.1,hj]
   rw[e];exact hrw.2 _ (List.getElem_mem _)
  have hF:=uP M.length M.length (ent M) hlen.1 (by omega) hlen.1 (by omega) (fun i j hi hj=>by have:=hb i j hi hj;omega);have hD:=uO M.length (ent M) hlen.1 (by omega) (fun i j hi hj=>GO (hb i j hi hj)) r ⟨fun h=>(hr.1 h).2.2,fun h=>hr.2 ⟨hlen,hall,h⟩⟩;rw[<- eM]at hF hD;refine aB fun _ K=>?_;simp(disch:=omega) only[kd,gN,bT];apply K
  refine cn rfl ?_;show bH _ _ _ _;refine aK [⟨1,_,_,_,hF⟩] [] fun _ K=>?_;simp only[kd,bT,Jx,aa];apply K
  refine aK [⟨1,_,_,_,hD⟩] [] fun _ K=>?_;simp only[kd,gF,aa];apply K
  (refine aM ⟨.inr rfl,aI rfl ?_ rfl⟩;simp(disch:=omega) only[kd,gN,Tryd.results6])
 have hr0:r=false:=by
  cases r with
  |false=>rfl
  |true=>exact absurd (hr.1 rfl).1 hlen
 subst hr0;by_cases h1:M.length<1
 ·refine aN Tryd.func6 rfl (by kernel_rfl) ?_;rw[Tryd.ntmps6];refine aB fun _ K=>?_;simp only[kd,bT,ae];apply K
  refine aD (aB fun _ K=>?_);simp(disch:=omega) only[kd,gN,aa,reduceCtorEq];apply K;refine bs rfl ?_;refine aB fun _ K=>?_;simp only[kd];apply K
  (refine aM ⟨.inr rfl,aI rfl ?_ rfl⟩;simp(disch:=omega) only[kd,gN,Tryd.results6])
 refine aN Tryd.func6 rfl (by kernel_rfl) ?_;rw[Tryd.ntmps6];refine aB fun _ K=>?_;simp only[kd,bT,ae];apply K
 refine aD (aB fun _ K=>?_);simp(disch:=omega) only[kd,gN,aa];apply K;refine bs rfl ?_;refine aB fun _ K=>?_;simp only[kd];apply K
 (refine aM ⟨.inr rfl,aI rfl ?_ rfl⟩;simp(disch:=omega) only[kd,gN,Tryd.results6])
def ww (f:FF) (i j:Nat):Nat->Nat->Int:=fun a b=>if(a<i/\b<i)\/(a=i/\b<j)\/(b=i/\a<j)then f a b else 0
theorem BN {f:FF} {i j:Nat} {v:Int} (h1:f i j=v) (h2:f j i=v) (a b:Nat):upd (upd (ww f i j) i j v) j i v a b=ww f i (j+1) a b:=by
 by_cases c1:a=j/\b=i
 ·obtain⟨rfl,rfl⟩:=c1;rw[xq,<- h2];exact(if_pos (.inr (.inr ⟨rfl,by omega⟩))).symm
 rw[xr (by omega)];by_cases c2:a=i/\b=j
 ·obtain⟨rfl,rfl⟩:=c2;rw[xq,<- h1];exact(if_pos (.inr (.inl ⟨rfl,by omega⟩))).symm
 rw[xr (by omega)];unfold ww;have:((a<i/\b<i)\/(a=i/\b<j)\/(b=i/\a<j))↔((a<i/\b<i)\/(a=i/\b<j+1)\/(b=i/\a<j+1)):=by omega
 simp only[this]
theorem EA (f:FF) (i a b:Nat):ww f i (i+1) a b=ww f (i+1) 0 a b:=by
 unfold ww;have:((a<i/\b<i)\/(a=i/\b<i+1)\/(b=i/\a<i+1))↔((a<i+1/\b<i+1)\/(a=i+1/\b<0)\/(b=i+1/\a<0)):=by omega
 simp only[this]
theorem Ez {f:FF} {n a b:Nat} (ha:a<n) (hb:b<n):ww f n 0 a b=f a b:=if_pos (.inl ⟨ha,hb⟩)
theorem BO (f:FF) (a b:Nat):ww f 0 0 a b=0:=if_neg (by omega)
theorem eh (n:Nat) (h t:FF) (a b:Nat):cngF n h t a b=BF n h (fun i=>t i a) (fun j=>t j b):=by
 unfold cngF BF;rw[lO,aF n (G:=fun p=>bu (fun q=>t q a*h q p*t p b) n) (fun p _=>by rw[lO,<- jT];rfl),
  aF n (F:=fun i=>t i a*_) (G:=fun q=>bu (fun p=>t q a*h q p*t p b) n) (fun q _=>by rw[<- bO];exact aF n fun p _=>by grind)]
 exact iK _ _ _
def IC (M:List (List Int)):Prop:=AG M/\(M.headD []).length=M.length/\M.length<=8/\(dk (ent M) M.length).natAbs=1
theorem IC.eq {M:List (List Int)} (h:IC M):M=bL M.length M.length (ent M):=by
 have:=D3 h.1;rwa[h.2.1]at this
theorem lN {n c:Nat} (f:FF) {i:Nat} (hi:i<n):(bL n c f).getD i []=bz c (f i):=by
 rw[List.getD_eq_getElem?_getD,bq _ _ hi];rfl
theorem rm {c:Nat} (f:Nat->Int) {j:Nat} (hj:j<c):(bz c f).getD j 0=f j:=by
 rw[List.getD_eq_getElem?_getD,aX _ hj];rfl
section
variable {n:Nat}
def mV (n:Nat) (t:FF) (x:Nat->Int):Nat->Int:=fun i=>bu (fun a=>x a*t i a) n
theorem xw (h t:FF) (x y:Nat->Int): ∀m,BF n h (fun i=>bu (fun a=>x a*t i a) m) y=bu (fun a=>x a*BF n h (fun i=>t i a) y) m
 |0=>iO fun _ _=>rfl
 |m+1=>by
  have h1:=fh (n:=n) h (fun i=>bu (fun a=>x a*t i a) m) (fun i=>t i m) y (x m);rw[xw h t x y m]at h1;exact h1
theorem xx (h t:FF) (x y:Nat->Int): ∀m,BF n h x (fun i=>bu (fun a=>y a*t i a) m)=bu (fun a=>y a*BF n h x (fun i=>t i a)) m
 |0=>by
  show BF n h x (fun _=>0)=0;unfold BF;rw[aF n (G:=fun _=>0) (fun i _=>by rw[aF n (G:=fun _=>0) (fun j _=>Int.mul_zero _),cO,Int.mul_zero]),cO]
 |m+1=>by
  have h1:=ea (n:=n) h x (fun i=>bu (fun a=>y a*t i a) m) (fun i=>t i m) (y m);rw[xx h t x y m]at h1;exact h1
theorem oh (h t:FF) (x y:Nat->Int):BF n h (mV n t x) (mV n t y)=BF n (cngF n h t) x y:=by
 unfold mV;rw[xw];unfold BF;refine aF n fun a _=>?_
 congr 1
 have h1:=xx (n:=n) h t (fun i=>t i a) y n;unfold BF at h1;rw[h1];refine aF n fun b _=>?_
 have h2:=eh n h t a b;unfold BF at h2;rw[h2,Int.mul_comm]
theorem PD.cng {h t:FF} (hr:PD h n) (hd:dk t n≠0):PD (cngF n h t) n:=by
 refine Ab (fun i _ j _=>by rw[eh,eh];exact ky hr.1 _ _) fun x ⟨i,hi,hx⟩=>?_
 rw[<- oh];obtain⟨h1,h2⟩:=hr.pos (mV n t x);rcases Int.lt_or_le 0 (BF n h (mV n t x) (mV n t x))with hl|hl
 ·exact hl
 exfalso;have h3:=h2.1 (by omega);refine hx (wz hd (fun i hi=>?_) i hi);have:=h3 i hi;unfold mV at this;rw[<- this];exact aF n fun j _=>Int.mul_comm _ _
theorem np {t:FF} {i:Nat} (hi:i<n) (c:Nat->Int): ∀m,m<=n->dk (cb t i (fun r=>bu (fun j=>c j*t r j) m)) n=if i<m then c i*dk t n else 0
 |0,_=>by rw[if_neg (by omega)];exact xS hi fun _ _=>rfl
 |m+1,hm=>by
  have h:=mC (R:=t) hi 1 (c m) (fun r=>bu (fun j=>c j*t r j) m) (fun r=>t r m);rw[np hi c m (by omega)]at h;have e:(fun r=>bu (fun j=>c j*t r j) (m+1))=fun r=>1*bu (fun j=>c j*t r j) m+c m*t r m:=by
   funext r;rw[bu,Int.one_mul]
  rw[e,h];by_cases hmi:m=i
  ·subst hmi;rw[j2,if_neg (by omega),if_pos (by omega)];omega
  rw[oM hi (show m<n by omega) (Ne.symm hmi),Int.mul_zero,Int.add_zero,Int.one_mul];have:i<m+1↔i<m:=by omega
  simp only[this]
theorem xQ {t:FF} {i:Nat} (hi:i<n) (c:Nat->Int):dk (cb t i (mV n t c)) n=c i*dk t n:=by
 have:=np hi c n (ac n) (t:=t);rwa[if_pos hi]at this
theorem Bu {h t:FF} {i:Nat} (c:Nat->Int):cngF n h (cb t i (mV n t c)) i i=nrm n (cngF n h t) c:=by
 rw[eh];unfold nrm;rw[<- oh];exact dK (fun _ _ _ _=>rfl) (fun r _=>if_pos rfl) (fun r _=>if_pos rfl)
theorem tP {h t:FF} {i a b:Nat} (S:Nat->Int) (ha:a≠i) (hb:b≠i):cngF n h (cb t i S) a b=cngF n h t a b:=by
 rw[eh,eh];exact dK (fun _ _ _ _=>rfl) (fun r _=>if_neg ha) (fun r _=>if_neg hb)
theorem PD.ent {f:FF} (hr:PD f n) {i j:Nat} (hi:i<n) (hj:j<n):f i j*f i j<=f i i*f j j:=by
 have e: ∀a b,a<n->b<n->BF n f (eC a) (eC b)=f a b:=fun a b ha hb=>by
  have e1: ∀(F:Nat->Int) a,a<n->bu (fun j=>F j*eC a j) n=F a:=fun F a ha=>by
   rw[fm ha (fun p _ hne=>by unfold eC;rw[if_neg hne,Int.mul_zero])];unfold eC;rw[if_pos rfl,Int.mul_one]
  unfold BF;rw[aF n (G:=fun k=>f k b*eC a k) (fun k _=>by rw[e1 (f k) b hb];exact Int.mul_comm _ _),e1 (fun k=>f k b) a ha]
 have:=hr.schwarz (eC i) (eC j);rwa[e i j hi hj,e i i hi hi,e j j hj hj]at this
theorem PD.diag {f:FF} (hr:PD f n) {i:Nat} (hi:i<n):0<f i i:=by
 have h:=hr.pos (eC i);have e:=gu (f:=f) hi;unfold nrm at e;rw[e]at h;rcases Int.lt_or_le 0 (f i i)with hl|hl
 ·exact hl
 have:=h.2.1 (by omega) i hi;simp[eC]at this
end
section
variable {n:Nat}
def insB (N:(Nat->Int)->Int) (B:FF):Nat->Nat->Nat->Int
 |0=>B
 |j+1=>if N (B (j+1))<N (B j)then insB N (swp (j+1) j B) j else B
theorem xc {p k:Nat} {B:FF}:swp p k B p=if p=k then B p else B k:=by
 unfold swp;by_cases h:p=k<;>simp[h]
theorem xd {p k:Nat} {B:FF}:swp p k B k=B p:=by
 unfold swp;by_cases h:k=p
 ·subst h;simp
 simp[h]
theorem m5 {p k a:Nat} {B:FF} (h1:a≠p) (h2:a≠k):swp p k B a=B a:=by unfold swp;simp[h1,h2]
theorem lJ (N:(Nat->Int)->Int): ∀j B a,j<a->insB N B j a=B a
 |0,_,_,_=>rfl
 |j+1,B,a,h=>by
  rw[insB];split
  ·rw[lJ N j _ a (by omega),m5 (by omega) (by omega)]
  rfl
theorem oZ (N:(Nat->Int)->Int) {Q:(Nat->Int)->Prop}: ∀j B,(∀a,a<=j->Q (B a))-> ∀a,a<=j->Q (insB N B j a)
 |0,_,h,a,ha=>h a ha
 |j+1,B,h,a,ha=>by
  rw[insB];split
  ·by_cases e:a<=j
   ·refine oZ N j _ (fun c hc=>?_) a e;by_cases ec:c=j
    ·subst ec;rw[xd];exact h _ (by omega)
    rw[m5 (by omega) ec];exact h c (by omega)
   rw[lJ N j _ a (by omega)];obtain rfl:a=j+1:=by omega
   rw[xc,if_neg (by omega)];exact h j (by omega)
  exact h a ha
def tl (N:(Nat->Int)->Int) (B:FF) (i:Nat):Prop:= ∀a,a+1<i->N (B a)<=N (B (a+1))
theorem tl.le {N:(Nat->Int)->Int} {B:FF} {i:Nat} (h:tl N B i) {b:Nat} (hb:b<i): ∀a,a<=b->N (B a)<=N (B b):=fun a ha=>by
 obtain⟨m,rfl⟩: ∃m,b=a+m:=⟨b-a,by omega⟩
 induction m with
 |zero=>exact Int.le_refl _
 |succ m ih=>
  have:=ih (by omega) (by omega);have h2:=h (a+m) (by omega);rw[<- Nat.add_assoc];omega
theorem uc (N:(Nat->Int)->Int): ∀j B,tl N B j->tl N (insB N B j) (j+1)
 |0,_,_=>fun a ha=>by omega
 |j+1,B,h=>by
  intro a ha;rw[insB];by_cases hl:N (B (j+1))<N (B j)
  ·rw[if_pos hl];have h':tl N (swp (j+1) j B) j:=fun c hc=>by
    rw[m5 (by omega) (by omega),m5 (by omega) (by omega)];exact h c (by omega)
   by_cases e:a+1<j+1
   ·exact uc N j _ h' a e
   obtain rfl:a=j:=by omega
   rw[lJ N a _ (a+1) (by omega),xc,if_neg (by omega)];refine oZ N (Q:=fun x=>N x<=N (B a)) a _ (fun c hc=>?_) a (ac _);by_cases ec:c=a
   ·subst ec;rw[xd];omega
   rw[m5 (by omega) ec];exact h.le (by omega) c hc
  rw[if_neg hl];by_cases e:a+1<j+1
  ·exact h a e
  obtain rfl:a=j:=by omega
  omega
theorem Dj {B:FF} {p k:Nat}:trF (swp p k B)=fun i c=>if c=p then trF B i k else if c=k then trF B i p else trF B i c:=by
 funext i c;unfold trF swp;split
 ·rfl
 split<;>rfl
theorem xZ (N:(Nat->Int)->Int): ∀j B,j<n->(dk (trF (insB N B j)) n).natAbs=(dk (trF B) n).natAbs
 |0,_,_=>rfl
 |j+1,B,h=>by
  rw[insB];split
  ·rw[xZ N j _ (by omega),Dj,oL h (by omega) (by omega),Int.natAbs_neg]
  rfl
def vC (N:(Nat->Int)->Int) (B:FF) (n:Nat):Int:=bu (fun a=>N (B a)) n
theorem yw (F:Nat->Int) {j:Nat}: ∀{m},j+1<m->bu F m=bu (fun a=>if a=j then F (j+1)else if a=j+1 then F j else F a) m
 |m+1,h=>by
  rw[bu,bu];by_cases e:j+1<m
  ·rw[yw F e,if_neg (by omega),if_neg (by omega)]
  obtain rfl:m=j+1:=by omega
  rw[if_neg (by omega),if_pos rfl,bu,bu,if_pos rfl,aF j (F:=fun a=>if a=j then _ else _) (G:=F) (fun p hp=>by rw[if_neg (by omega),if_neg (by omega)])];omega
theorem ud (N:(Nat->Int)->Int): ∀j B,j<n->vC N (insB N B j) n=vC N B n
 |0,_,_=>rfl
 |j+1,B,h=>by
  rw[insB];split
  ·rw[ud N j _ (by omega)];unfold vC;rw[yw (fun a=>N (B a)) h];refine aF n fun a _=>?_
   by_cases e1:a=j
   ·subst e1;rw[if_pos rfl,xd]
   by_cases e2:a=j+1
   ·subst e2;rw[if_neg e1,if_pos rfl,xc,if_neg (by omega)]
   rw[if_neg e1,if_neg e2,m5 e2 e1]
  rfl
def iL (N:(Nat->Int)->Int) (B:FF):Nat->Nat->Nat->Int
 |0=>B
 |i+1=>insB N (iL N B i) i
theorem vp (N:(Nat->Int)->Int) (B:FF): ∀i,tl N (iL N B i) i
 |0=>fun a ha=>by omega
 |i+1=>uc N i _ (vp N B i)
theorem me (N:(Nat->Int)->Int) {Q:(Nat->Int)->Prop} {B:FF} (h: ∀a,a<n->Q (B a)): ∀i,i<=n-> ∀a,a<n->Q (iL N B i a)
 |0,_=>h
 |i+1,hi=>fun a ha=>by
  rw[iL];by_cases e:a<=i
  ·exact oZ N i _ (fun c hc=>me N h i (by omega) c (by omega)) a e
  rw[lJ N i _ a (by omega)];exact me N h i (by omega) a ha
theorem yA (N:(Nat->Int)->Int) (B:FF): ∀i,i<=n->(dk (trF (iL N B i)) n).natAbs=(dk (trF B) n).natAbs
 |0,_=>rfl
 |i+1,hi=>by rw[iL,xZ N i _ (by omega),yA N B i (by omega)]
theorem pZ (N:(Nat->Int)->Int) (B:FF): ∀i,i<=n->vC N (iL N B i) n=vC N B n
 |0,_=>rfl
 |i+1,hi=>by rw[iL,ud N i _ (by omega),pZ N B i (by omega)]
end
section
variable {n:Nat}
def dP (n:Nat) (h B:FF):Nat->Nat->Int:=fun a b=>BF n h (B a) (B b)
theorem se (h B:FF):dP n h B=cngF n h (trF B):=by
 funext a b;rw[eh];rfl
open Classical in
noncomputable def qu (n:Nat) (f:FF):Nat->Nat->Option Nat
 |0,_=>none
 |m+1,i=>if VioP n f i then some i else qu n f m (i+1)
noncomputable def qt (n:Nat) (f:FF):Option Nat:=qu n f n 0
theorem f7 {f:FF}: ∀m i r,qu n f m i=some r->i<=r/\r<i+m/\VioP n f r/\ ∀a,i<=a->a<r-> ¬VioP n f a
 |0,_,_,h=>by cases h
 |m+1,i,r,h=>by
  rw[qu]at h;split at h
  ·rename_i hv;injection h with h
   subst h;exact⟨ac _,by omega,hv,fun a h1 h2=>by omega⟩
  rename_i hv;obtain⟨h1,h2,h3,h4⟩:=f7 m (i+1) r h;refine⟨by omega,by omega,h3,fun a ha hb=>?_⟩;by_cases e:a=i
  ·subst e;exact hv
  exact h4 a (by omega) hb
theorem m8 {f:FF}: ∀m i,qu n f m i=none-> ∀a,i<=a->a<i+m-> ¬VioP n f a
 |0,_,_=>fun a h1 h2=>by omega
 |m+1,i,h=>by
  rw[qu]at h;split at h
  ·cases h
  rename_i hv;intro a h1 h2;by_cases e:a=i
  ·subst e;exact hv
  exact m8 m (i+1) h a (by omega) (by omega)
def jN (n:Nat) (h B:FF):Nat->Nat->Int:=iL (nrm n h) B n
def gB (n:Nat) (h S:FF) (i:Nat):Nat->Nat->Int:=fun k=>if k=i then mV n (trF S) (ip n (dP n h S) i (3^i))else S k
inductive RchB (n:Nat) (h:FF):(Nat->Nat->Int)->(Nat->Nat->Int)->Prop
 |done (B:FF):qt n (dP n h (jN n h B))=none->RchB n h B (jN n h B)
 |step (B R:FF) (i:Nat):qt n (dP n h (jN n h B))=some i->RchB n h (gB n h (jN n h B) i) R->RchB n h B R
structure InB2 (n:Nat) (h:FF) (W:Int) (B:FF):Prop where
 nr: ∀a,a<n->nrm n h (B a)<=W
 dt:(dk (trF B) n).natAbs=1
theorem InB2.ord {h B:FF} {W:Int} (hB:InB2 n h W B):InB2 n h W (jN n h B):=
 ⟨me _ (Q:=fun x=>nrm n h x<=W) hB.nr n (ac n),by unfold jN;rw[yA _ _ n (ac n)];exact hB.dt⟩
theorem C6 {F G:Nat->Int} {i:Nat}: ∀{m},i<m->(∀a,a<m->a≠i->F a=G a)->F i<G i->bu F m<bu G m
 |m+1,hi,h,hl=>by
  rw[bu,bu];by_cases e:i=m
  ·subst e;rw[aF i fun p hp=>h p (by omega) (by omega)];omega
  have:=C6 (m:=m) (by omega) (fun a ha hne=>h a (by omega) hne) hl;rw[h m (by omega) (Ne.symm e)];omega
theorem jo {F:Nat->Int}: ∀m,(∀a,a<m->0<=F a)->0<=bu F m
 |0,_=>by simp[bu]
 |m+1,h=>by
  have:=jo m fun a ha=>h a (by omega)
  have:=h m (by omega);rw[bu];omega
theorem uX {h S:FF} {i:Nat}:nrm n h (gB n h S i i)=nrm n (dP n h S) (ip n (dP n h S) i (3^i)):=by
 unfold gB;rw[if_pos rfl];unfold nrm;rw[oh,<- se]
theorem uY {h S:FF} {i:Nat} (hi:i<n) (hv:VioP n (dP n h S) i):vC (nrm n h) (gB n h S i) n<vC (nrm n h) S n:=by
 refine C6 hi (fun a _ hne=>?_) ?_
 ·show nrm n h (gB n h S i a)=_;unfold gB;rw[if_neg hne]
 show nrm n h (gB n h S i i)<nrm n h (S i);rw[uX];exact w8 hi hv
theorem Di {h S:FF} {i:Nat}:trF (gB n h S i)=cb (trF S) i (mV n (trF S) (ip n (dP n h S) i (3^i))):=by
 funext r c;unfold trF gB cb;split<;>rfl
theorem InB2.rep {h S:FF} {W:Int} {i:Nat} (hS:InB2 n h W S) (hi:i<n) (hv:VioP n (dP n h S) i):InB2 n h W (gB n h S i):=by
 refine⟨fun a ha=>?_,?_⟩
 ·by_cases e:a=i
  ·subst e;rw[uX];have h1:=w8 hi hv;have h2:=hS.nr a hi;have h3:dP n h S a a=nrm n h (S a):=rfl;omega
  unfold gB;rw[if_neg e];exact hS.nr a ha
 rw[Di,xQ hi,(pV n (dP n h S) i (3^i)).1,Int.one_mul];exact hS.dt
theorem uW {h:FF} (hp:PD h n) {W:Int}: ∀(m:Nat) (B:FF),(vC (nrm n h) B n).toNat=m->InB2 n h W B-> ∃R,RchB n h B R:=fun m=>by
 induction m using Nat.strongRecOn with
 |_ m ih=>
  intro B hm hB;cases hv:qt n (dP n h (jN n h B))with
  |none=>exact⟨_,.done B hv⟩
  |some i=>
   obtain⟨_,h1,h2,_⟩:=f7 n 0 i hv;have hi:i<n:=by omega
   have hO:=hB.ord;have hsum:=uY hi h2;have hso:vC (nrm n h) (jN n h B) n=vC (nrm n h) B n:=pZ _ _ n (ac n);have hnn: ∀B',0<=vC (nrm n h) B' n:=fun B'=>jo n fun a _=>(hp.pos (B' a)).1
   have h3:=hnn (gB n h (jN n h B) i);have h4:=hnn B;obtain⟨R,hR⟩:=ih (vC (nrm n h) (gB n h (jN n h B) i) n).toNat (by omega) _ rfl (hO.rep hi h2);exact⟨R,.step B R i hv hR⟩
theorem pD {h B R:FF} {W:Int} (hr:RchB n h B R) (hB:InB2 n h W B):InB2 n h W R/\tl (nrm n h) R n/\ ∀i,i<n-> ¬VioP n (dP n h R) i:=by
 induction hr with
 |done B hv=>exact⟨hB.ord,vp _ _ n,fun i hi=>m8 n 0 hv i (by omega) (by omega)⟩
 |step B R i hv _ ih=>
  obtain⟨_,h1,h2,_⟩:=f7 n 0 i hv;exact ih (hB.ord.rep (by omega) h2)
/-! Signs. -/
def jj (g:FF):Nat->Int
 |0=>1
 |i+1=>if jj g i*g i (i+1)<0 then -1 else 1
theorem jl (g:FF): ∀i,jj g i=1\/jj g i= -1
 |0=> .inl rfl
 |i+1=>by rw[jj];split<;>simp
theorem H4 (g:FF) (i:Nat):0<=jj g i*jj g (i+1)*g i (i+1):=by
 have e:jj g i*jj g (i+1)*g i (i+1)=jj g (i+1)*(jj g i*g i (i+1)):=by grind
 rw[e,jj];split
 ·omega
 omega
def tb (g B:FF):Nat->Nat->Int:=fun k j=>jj g k*B k j
theorem BP (h g B:FF):dP n h (tb g B)=DQ (jj g) (dP n h B):=by
 funext a b;unfold dP tb DQ BF;rw[<- bO];refine aF n fun i _=>?_
 rw[aF n (G:=fun j=>jj g b*(h i j*B b j)) (fun j _=>by grind),bO];grind
theorem C1 {g B:FF}: ∀m,m<=n->(dk (trF fun k j=>if k<m then jj g k*B k j else B k j) n).natAbs=(dk (trF B) n).natAbs
 |0,_=>by simp
 |m+1,hm=>by
  rw[<- C1 (g:=g) (B:=B) m (by omega)];have h1:=mC (R:=trF fun k j=>if k<m then jj g k*B k j else B k j) (n:=n) (a:=m) (by omega) (jj g m) 0 (fun i=>B m i) (fun i=>B m i);have e1:cb (trF fun k j=>if k<m then jj g k*B k j else B k j) m (fun i=>jj g m*B m i+0*B m i)=trF fun k j=>if k<m+1 then jj g k*B k j else B k j:=by
   funext r c;unfold cb trF;by_cases e:c=m
   ·subst e;rw[if_pos rfl];show jj g c*B c r+0*B c r=if c<c+1 then jj g c*B c r else B c r
    rw[if_pos (by omega)];omega
   have:c<m+1↔c<m:=by omega
   rw[if_neg e];simp only[this]
  have e2:cb (trF fun k j=>if k<m then jj g k*B k j else B k j) m (fun i=>B m i)=trF fun k j=>if k<m then jj g k*B k j else B k j:=by
   funext r c;unfold cb trF;by_cases e:c=m
   ·subst e;rw[if_pos rfl];show B c r=if c<c then jj g c*B c r else B c r
    rw[if_neg (by omega)]
   rw[if_neg e]
  rw[e1,e2]at h1;rw[h1];rcases jl g m with e|e<;>rw[e]<;>simp
theorem uC {h R:FF} (hs:tl (nrm n h) R n) (hv: ∀i,i<n-> ¬VioP n (dP n h R) i):dw (dP n h (tb (dP n h R) R)) n:=by
 rw[BP];refine⟨fun i hi=>⟨?_,H4 _ _⟩,fun i hi hw=>hv i hi (F7 (jl _) hi hw)⟩;have h1:=hs i hi;have e: ∀k,DQ (jj (dP n h R)) (dP n h R) k k=nrm n h (R k):=fun k=>by
  unfold DQ dP nrm;rcases jl (dP n h R) k with e|e
  ·unfold dP at e;rw[e];omega
  unfold dP at e;rw[e];omega
 rw[e,e];exact h1
end
end Go.Proofs.YtfgeomlagfomgaaDoor
