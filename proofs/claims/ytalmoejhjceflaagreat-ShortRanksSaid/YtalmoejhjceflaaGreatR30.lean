/-
  Part 31 of a proof (walks and plain facts).
-/
import Derived.Test.YtalmoejhjceflaaGreatR29
set_option linter.all false
set_option maxRecDepth 100000
set_option maxHeartbeats 64000000
open Nat renaming reduceAdd → aa
namespace Go.Proofs.YtalmoejhjceflaaGreat
open Go.RowKit Go.Proofs.Tryz
theorem Uc (m:Nat):swp (m+1) m idF=Qs m:=by
 grind [swp,Qs,pX]
def Yb (n:Nat) (f:FF):Option Ch->TV
 |none=> .tup [(false,[.p (.raw (.slice none 0 0))]),(false,[.p (.raw (.bool false))])]
 |some c=> .tup [(false,[.p (.sl (ls (fR fZ) (mat n n (UX f c))))]),(false,[.p (.raw (.bool true))])]
structure StG (n:Nat) (f:FF) where
 i:Nat
 hi:i<=n
 h:scanF f n=scanI f (n-i) i
structure StJ (i:Nat) (f:FF) where
 k:Nat
 hk:k<=i
 h:scanJ f i i=scanJ f i k
theorem Xr (n:Nat) (f:FF) (t:1<=n) (U:n<=8) (V: ∀k,k<n->0<dk f (k+1)) (r: ∀i j,i<n->j<n->Sz (f i j) 1024):
  CallC prog 57 [da (mat n n f)] ⟨[],Yb n f (scanF f n)⟩:=by
 have O:=rZ n f t (by omega) r;have N:=vi n t (by omega);have s:=aT n n f;refine dr func57 rfl (by kernel_rfl) ?_;rw[ntmps57];refine an fun _ K=>?_;simp only[kd,da,List.replicate];apply K
 refine aQ [⟨1,_,_,_,O⟩] [] fun _ K=>?_;simp only[kd,da,YS,aa];apply K
 refine aQ [⟨2,_,_,_,N⟩] [] fun _ K=>?_;simp only[kd,aa,s];apply K
 refine ai (an fun _ K=>?_);simp only[kd,aa,s];apply K;refine aB (G:=StG n f) (fun g=>⟨(da (mat n n f)::jk::jk::jk::yg (Ff n f)::jk::.one (.sl 18 0 0 n)::j4 (j4 (j4 (jk::jk::jk::rN n::rN g.i::j16 (j16 (j16 (j4 (j4 (jk::jk::jk::[]))))))))),Hm [(18,gu 18 n n idF)]⟩) (fun g=>n-g.i) ⟨0,by omega,rfl⟩ ?_ ?_
 ·refine aj ⟨?_,trivial⟩ ?_
  ·exact fk 0 18 n n _
  simp[wk]
 rintro⟨i,S,C⟩;simp only;by_cases m:i<n
 ·have v:scanI f (n-i) i=match scanJ f i i with
   |some j=>some (.add i j)
   |none=>if 0<i/\ ¬LovF f i then some (.swp (i-1))else scanI f (n-(i+1)) (i+1):=by
   rw[show n-i=n-(i+1)+1 by omega];rfl
  refine an fun _ K=>?_;simp(disch:=omega) only[kd,da,yg];apply K
  refine be rfl ?_;refine ai (am ?_);refine an fun _ K=>?_;simp only[kd];apply K
  refine ai (an fun _ K=>?_);simp(disch:=omega) only[kd,aa,aK];apply K;refine aB (G:=StJ i f) (fun g=>⟨(da (mat n n f)::jk::jk::jk::yg (Ff n f)::jk::.one (.sl 18 0 0 n)::jk::rN i::.raw (.int .i64 ((g.k:Int)-1))::j4 (j4 (j4 (.raw (.int .i64 (n:Int))::rN i::j16 (j16 (j16 (j4 (j4 (jk::jk::jk::[]))))))))),Hm [(18,gu 18 n n idF)]⟩) (fun g=>g.k) ⟨i,by omega,rfl⟩ ?_ ?_
  ·refine aj ⟨rfl,trivial⟩ ?_;simp[wk]
  rintro⟨k,T,q⟩;simp only;cases k with
  |zero=>
   refine ai (an fun _ K=>?_);simp(disch:=omega) only[kd,da,yg];apply K;refine aq rfl (aZ ?_);show bf _ _ _ _;have w:scanJ f i i=none:=q;rw[w]at v;by_cases L:0<i
   ·have e:=CB n f i (by omega) m L r;by_cases o:LovF f i
    ·rw[decide_eq_true (show 3*(dd f i*dd f i)<=4*(dd f (i-1)*dd f (i+1)+lam f i (i-1)*lam f i (i-1))from o)]at e;have b:scanF f n=scanI f (n-(i+1)) (i+1):=by grind
     refine aQ [⟨6,_,_,_,e⟩] [] fun _ K=>?_;simp(disch:=omega) only[kd,da,yg,aa];apply K
     refine aq rfl (ak ?_);show bf _ _ _ _;refine cz fun _ K=>?_;simp(disch:=omega) only[kd,aK];apply K
     refine⟨⟨i+1,by omega,b⟩,by grind,aj ⟨rfl,trivial⟩ ?_⟩;simp[wk]
    rw[decide_eq_false (show ¬3*(dd f i*dd f i)<=4*(dd f (i-1)*dd f (i+1)+lam f i (i-1)*lam f i (i-1))from o)]at e;have b:scanF f n=some (.swp (i-1)):=by grind
    rw[b];have P:((i:Int)-1).toNat=i-1:=by omega
    have x:=bU (n:=n) (i:=i) 18 n m;have y:=bU (n:=n) (i:=i-1) 18 n (by omega);have J:((ju 18 (List.replicate n n)).set i [.sl 18 (i-1+1) 0 n])[i-1]?=some [.sl 18 (i-1+1) 0 n]:=by
     grind
    refine aQ [⟨6,_,_,_,e⟩] [] fun _ K=>?_;simp(disch:=omega) only[kd,da,yg,aa];apply K
    refine ay rfl ?_;refine ip b8 (by kernel_rfl) fun _ K=>?_;simp(disch:=omega) only[kd,aa,aK,P,y,x,J,Nat.reduceLeDiff,reduceCtorEq];apply K
    refine bf.weak ((AC 18 (i+1) (i-1+1) (gu 18 n n (swp i (i-1) idF)) (Bs idF m (by omega) (by omega))).trans (aj (tm:=(j4 (jk::jk::.one (.sl 18 0 0 n)::j16 (j16 (j16 (j16 (j4 (j4 (j4 ([])))))))))) (l:=[(18,gu 18 n n (swp i (i-1) idF))]) ⟨rfl,trivial⟩ (by simp[wk,Ub,lS,Xx,fp,Vq,Ov,sw]))) ?_;rw[show swp i (i-1) idF=Qs (i-1) by grind [Uc]];refine bf.weak ((bD 18 (iK rfl)).trans (aj (tm:=(j4 (jk::jk::da (mat n n (Qs (i-1)))::j16 (j16 (j16 (j16 (j4 (j4 (j4 ([])))))))))) (l:=[]) trivial (by simp[wk];exact(Rv (H:=Hm [(18,gu 18 n n (Qs (i-1)))]) (d:=18) (n:=n) (c:=n) (f:=Qs (i-1)) rfl).symm))) ?_;refine an fun _ K=>?_;simp only[kd,aa,da];apply K
    (refine aW ⟨.inr rfl,bW rfl ?_ rfl⟩;simp(disch:=omega) only[kd,results57,Yb,UX])
   have z:i=0:=by omega
   subst z;have b:scanF f n=scanI f (n-(0+1)) (0+1):=by grind
   refine an fun _ K=>?_;simp(disch:=omega) only[kd,aa];apply K
   refine aq rfl (ak ?_);show bf _ _ _ _;refine cz fun _ K=>?_;simp(disch:=omega) only[kd,aK];apply K
   refine⟨⟨1,by omega,b⟩,by grind,aj ⟨rfl,trivial⟩ ?_⟩;simp[wk]
  |succ j=>
   have Q:((j+1:Nat):Int)-1=(j:Int):=by omega
   rw[Q];have e:=Ir n f i j (by omega) m (by omega) r;by_cases o:SizF f i j
   ·rw[decide_eq_true (show 2*((lam f i j).natAbs:Int)<=dd f (j+1)from o)]at e;have b:scanJ f i i=scanJ f i j:=by rw[q];exact if_pos o
    refine ai (an fun _ K=>?_);simp(disch:=omega) only[kd,da,yg];apply K;refine ay rfl (ak ?_);refine ai (am ?_);refine aQ [⟨4,_,_,_,e⟩] [] fun _ K=>?_;simp only[kd,da,yg,aa];apply K
    refine aq rfl (ak ?_);show bf _ _ _ _;refine cz fun _ K=>?_;simp(disch:=omega) only[kd,aa,aK];apply K
    refine⟨⟨j,by omega,b⟩,by simp,aj ⟨rfl,trivial⟩ ?_⟩;simp[wk]
   rw[decide_eq_false (show ¬2*((lam f i j).natAbs:Int)<=dd f (j+1)from o)]at e;have b:scanJ f i i=some j:=by rw[q];exact if_neg o
   have u:scanF f n=some (.add i j):=by grind
   rw[u,show Yb n f (some (.add i j))= .tup [(false,[.p (.sl (ls (fR fZ) (mat n n (upd idF j i (cF f i j)))))]),(false,[.p (.raw (.bool true))])]from rfl];have h:0<dd f (j+1):=by grind [kE]
   have D:=GA (n:=n) (i:=i) (j:=j) (by omega) m (by omega) r;have F:=Dj (n:=n) (k:=j+1) (by omega) (by omega) r;have d1:=vk n f i j (by omega) m (by omega) r;have d2:=qO n f (j+1) (by omega) (by omega);rw[show((j+1:Nat):Int)=(j:Int)+1 by omega]at d2;have d3:=Fr (lam f i j) (dd f (j+1)) h (D.mono (by omega)) (F.mono (by omega));have B:=pK (n:=lam f i j) h;have d4:=Kd (nN (lam f i j) (dd f (j+1))) (nD (lam f i j) (dd f (j+1))) B ((zC D).mono (by omega)) ((zB F).mono (by omega));rw[ZT h]at d4;have sq:Sz (qF (lam f i j) (dd f (j+1))) 67174401:=by
    have R:=GZ (l:=lam f i j) h;have M:Sz ((lam f i j).natAbs+1:Int) (67174400+1):=Sz.add (D.le (by omega)) (mL (by omega));exact M.le (by omega)
   have d5:=Pa (qF (lam f i j) (dd f (j+1))) (sq.mono (by omega));rw[show -(qF (lam f i j) (dd f (j+1)))=cF f i j from rfl]at d5;have x:=bU (n:=n) (i:=j) 18 n (by omega);have y:=dS n idF (show j<n by omega);have I:=aw (idF j) m;generalize cF f i j=E at*
   generalize qF (lam f i j) (dd f (j+1))=Y at*
   generalize nN (lam f i j) (dd f (j+1))=W at*
   generalize nD (lam f i j) (dd f (j+1))=X at*
   refine ai (an fun _ K=>?_);simp(disch:=omega) only[kd,da,yg];apply K;refine ay rfl (ak ?_);refine ai (am ?_);refine aQ [⟨4,_,_,_,e⟩] [] fun _ K=>?_;simp only[kd,da,yg,aa];apply K
   refine ay rfl ?_;refine oh b8 [⟨8,_,_,_,d1⟩,⟨12,_,_,_,d2⟩,⟨13,_,_,_,d3⟩,⟨14,_,_,_,d4⟩,⟨15,_,_,_,d5⟩] [] (by kernel_rfl) fun _ K=>?_;simp(disch:=omega) only[kd,da,tZ,yg,tR,aa,x,aK,Nat.reduceBEq,y,fZ,I,iL];apply K
   refine bf.weak ((aj (tm:=(j4 (jk::jk::.one (.sl 18 0 0 n)::j16 (j16 (j16 (j16 (j4 (j4 (j4 ([])))))))))) (l:=[(18,gu 18 n n (upd idF j i E))]) ⟨rfl,trivial⟩ (by simp[wk])).trans ((bD 18 (iK rfl)).trans (aj (tm:=(j4 (jk::jk::da (mat n n (upd idF j i E))::j16 (j16 (j16 (j16 (j4 (j4 (j4 ([])))))))))) (l:=[]) trivial (by
    simp[wk];grind [Rv,Hm])))) ?_
   refine an fun _ K=>?_;simp only[kd,aa,da];apply K
   (refine aW ⟨.inr rfl,bW rfl ?_ rfl⟩;simp(disch:=omega) only[kd,results57])
 have A:i=n:=by omega
 subst A;have b:scanF f i=none:=by rw[C,abC];rfl
 rw[b];refine an fun _ K=>?_;simp(disch:=omega) only[kd,da,yg];apply K
 refine bv rfl ?_;show bf _ _ _ _;refine an fun _ K=>?_;simp only[kd];apply K
 (refine aW ⟨.inr rfl,bW rfl ?_ rfl⟩;simp(disch:=omega) only[kd,results57,Yb])
def ZU (L:List Int) (i k:Nat) (s:(Nat->Nat->Int)×Nat):(Nat->Nat->Int)×Nat:=(upd (upd s.1 i k (Int.tmod (L.getD s.2 0) 3)) k i (Int.tmod (L.getD s.2 0) 3),gI L s.2)
def Ry (L:List Int) (i:Nat) (s:(Nat->Nat->Int)×Nat):Nat->(Nat->Nat->Int)×Nat
 |0=>s
 |k+1=>ZU L i k (Ry L i s k)
def p9 (L:List Int) (s:(Nat->Nat->Int)×Nat):Nat->(Nat->Nat->Int)×Nat
 |0=>s
 |i+1=>Ry L i (p9 L s i) i
theorem Gy {L:List Int} {i:Nat} {s:(Nat->Nat->Int)×Nat} (h:s.2<=L.length): ∀k,(Ry L i s k).2<=L.length
 |0=>h
 |k+1=>sS (Gy h k)
theorem Gx {L:List Int} {s:(Nat->Nat->Int)×Nat} (h:s.2<=L.length): ∀i,(p9 L s i).2<=L.length
 |0=>h
 |i+1=>Gy (Gx h i) i
theorem Q9 (f:FF) (i j:Nat) (v:Int):upd f i j v i j=v:=by simp[upd]
theorem KZ (b:Nat) (L:List Int) (a n:Nat) (j:I8 L) (w:a<=L.length) (I:n<=8):
  CallT prog b 104 80 [cw b,.raw (.int .i64 (n:Int))] (Hk L a) ⟨l4 0 n n (p9 L (gU L a 6,kp L a n) n).1,.one (.sl 0 0 0 n)⟩ (Hk L (p9 L (gU L a 6,kp L a n) n).2):=by
 have u:=mq b L a n 6 j w I (by omega) (by omega);rw[show((6:Nat):Int)=6 from rfl]at u;have o:(gU L a 6,kp L a n).2<=L.length:=vK w n;refine j5 func80 rfl (by kernel_rfl) ?_;rw[ntmps80];refine FH @cw.eq_1 (k:=?_);refine si 2 u [] [] (by kernel_rfl) (by rfl) (by rfl) fun _ K=>?_;simp only[kd,cw,aa];apply K
 refine b6 (cQ (k:=?_));refine iO (G:=jx n) (fun g=>⟨(cw b::j4 (.one (.sl 10 0 0 n)::j4 (jk::jk::rN n::rN g.i::j16 (j4 (j4 (j4 (jk::jk::jk::[]))))))),Hm [(10,l4 10 n n (p9 L (gU L a 6,kp L a n) g.i).1)]⟩) (fun g=>Hk L (p9 L (gU L a 6,kp L a n) g.i).2) (fun g=>n-g.i) ⟨0,by omega⟩ ?_ rfl ?_
 ·refine aj ⟨?_,trivial⟩ ?_
  ·exact dR 0 10 n n _
  simp[wk]
 rintro⟨i,M⟩;simp only;have q:=Gx o i;by_cases h:i<n
 ·refine iQ @cw.eq_1 (k:=pe rfl (b6 (cA (cQ (k:=cQ (k:=?_))))));refine iO (G:=jx i) (fun g=>⟨(cw b::j4 (.one (.sl 10 0 0 n)::rN i::rN g.i::j4 (.raw (.int .i64 (n:Int))::rN i::j16 (j4 (j4 (j4 (jk::jk::jk::[]))))))),Hm [(10,l4 10 n n (Ry L i (p9 L (gU L a 6,kp L a n) i) g.i).1)]⟩) (fun g=>Hk L (Ry L i (p9 L (gU L a 6,kp L a n) i) g.i).2) (fun g=>i-g.i) ⟨0,by omega⟩ ?_ rfl ?_
  ·refine aj ⟨rfl,trivial⟩ ?_;simp[wk]
  rintro⟨k,N⟩;simp only;have e:=Gy (i:=i) q k;by_cases H:k<i
  ·have r:Ry L i (p9 L (gU L a 6,kp L a n) i) (k+1)=ZU L i k (Ry L i (p9 L (gU L a 6,kp L a n) i) k):=rfl;generalize Ry L i (p9 L (gU L a 6,kp L a n) i) k=s at*
   obtain⟨f,p⟩:=s;simp only at e⊢;have F:=Fq b L p j e;have J:=j.getD p;have t:=bU (n:=n) (i:=i) 10 n h;have y:=bU (n:=n) (i:=k) 10 n (by omega);have z:=d9 n f h;have A:=aw (f i) (show k<n by omega);have c:ZU L i k (f,p)=(upd (upd f i k (Int.tmod (L.getD p 0) 3)) k i (Int.tmod (L.getD p 0) 3),gI L p):=rfl;obtain⟨v,x⟩: ∃v,Int.tmod (L.getD p 0) 3=v:=⟨_,rfl⟩;rw[x]at c;have B:=d9 n (upd f i k v) h;have C:=d9 n (upd f i k v) (show k<n by omega);have D:(aN n (upd f i k v i))[k]?=some v:=by grind [aw,Q9]
   have E:=aw (upd f i k v k) h;refine b6 (iQ @cw.eq_1 (k:=gW rfl (iP (b6 (cA ?_)))));refine FG b8 6 F [] [] (by kernel_rfl) (by kernel_rfl) (by rfl) (by rfl) fun _ K=>?_;simp(disch:=omega) only[kd,cw,aa,t,x,z,A,gZ];apply K
   refine VX (aH y (aH t (aH B (aH D (aH C (aH E @gZ)))))) (k:=ss (k:=?_));refine⟨⟨k+1,by omega⟩,by grind,aj ⟨?_,trivial⟩ ?_,?_⟩
   ·rw[r,c];rfl
   ·simp[wk]
   grind
  have m:k=i:=by omega
  subst m;refine b6 (iQ @cw.eq_1 (k:=ck rfl (CW (ss (k:=?_)))));refine⟨⟨k+1,by omega⟩,by grind,aj ⟨rfl,trivial⟩ ?_,rfl⟩;simp[wk]
 have l:i=n:=by omega
 subst l;refine iQ @cw.eq_1 (k:=pb rfl (cQ (k:=?_)));refine ky ⟨.inr rfl,rfl,_,bG.refl _,?_⟩;refine⟨.one (.sl 10 0 0 i),10,?_,rfl,?_,rfl⟩
 ·simp(disch:=omega) only[kd,results80]
 grind [dR]
def Sh (b:Bool) (n i:Nat):Nat:=if b=true/\i+1=n/\3<n then i-2 else i-1
def jL (b:Bool) (n:Nat):Nat->Nat->Nat->Int
 |0=>fun _ _=>0
 |i+1=>if i=0 then upd (jL b n i) i i 2 else upd (upd (upd (jL b n i) i i 2) i (Sh b n i) (-1)) (Sh b n i) i (-1)
theorem NF {fork:Bool} {n i:Nat} (h:0<i):Sh fork n i<i:=by grind [Sh]
theorem If {f:FF} {i j a b:Nat} {v:Int} (h:a≠i\/b≠j):upd f i j v a b=f a b:=by
 unfold upd;by_cases c:a=i
 ·simp_all
 simp[c]
theorem Dc (c:Bool) (n:Nat): ∀i a b,i<=a\/i<=b->jL c n i a b=0
 |0,_,_,_=>rfl
 |i+1,a,b,h=>by
  have f:=Dc c n i a b (by omega);unfold jL;split
  ·grind [If]
  rename_i e;have:=NF (fork:=c) (n:=n) (show 0<i by omega);grind [If]
theorem IC (n:Nat) (b:Bool) (J:n<=8):
  CallC prog 81 [.raw (.int .i64 (n:Int)),.raw (.bool b)] ⟨l4 0 n n (jL b n n),.one (.sl 0 0 0 n)⟩:=by
 refine aA func81 rfl ntmps81 (aC (k:=ar (k:=ai (bC (k:=?_)))));refine aB (G:=jx n) (fun g=>⟨(.raw (.int .i64 (n:Int))::.raw (.bool b)::jk::jk::jk::.one (.sl 9 0 0 n)::j4 (jk::rN n::rN g.i::j16 (j16 (j4 (j4 (j4 ([]))))))),Hm [(9,kI 9 n n g.i (jL b n g.i))]⟩) (fun g=>n-g.i) ⟨0,by omega⟩ ?_ ?_
 ·refine aj ⟨?_,trivial⟩ ?_
  ·rfl
  simp[wk]
 rintro⟨i,A⟩;simp only;by_cases m:i<n
 ·have C:=Ba (i:=i) (n:=n) 9 n m;have K:=nH (i:=i) (n:=n) 9 n A;have D:=aT i n (jL b n i);have E:=uE (i:=i) (n:=n) (c:=n) 9 (jL b n i) m (fun j I=>Dc b n i i j (by omega));have s:=wF (i:=i+1) (k:=i) (n:=n) 9 n (by omega);have L:=nH (i:=i+1) (n:=n) 9 n (by omega);have F:=d9 (n:=i+1) n (jL b n i) (i:=i) (by omega);have H:=aw (jL b n i i) m;have h:jL b n (i+1)=if i=0 then upd (jL b n i) i i 2 else upd (upd (upd (jL b n i) i i 2) i (Sh b n i) (-1)) (Sh b n i) i (-1):=rfl
  generalize jL b n i=f at*
  refine ar (k:=be rfl (ai (am (bC (k:=aL (aH C (aH @aaL (aH @acf D))) (k:=?_))))));refine bf.weak (aj (tm:=(.raw (.int .i64 (n:Int))::.raw (.bool b)::jk::jk::jk::.one (.sl 9 0 0 n)::rN i::j4 (.raw (.int .i64 (n:Int))::rN i::j16 (j16 (j4 (j4 (j4 ([])))))))) (l:=[(9,kI 9 n n (i+1) f)]) ⟨?_,trivial⟩ (by simp[wk])) ?_
  ·first|exact E|rfl
  refine aL (aH s (aH F (aH H @gZ))) (k:=ar (k:=?_));obtain⟨o,e⟩: ∃o:Int,o=if b=true/\i+1=n/\3<n then(i:Int)-2 else(i:Int)-1:=⟨_,rfl⟩
  refine ai (l9 (S:=⟨(.raw (.int .i64 (n:Int))::.raw (.bool b)::jk::jk::jk::.one (.sl 9 0 0 n)::rN i::.raw (.int .i64 o)::jk::jk::jk::rN n::rN i::j16 (j16 (j4 (j4 (j4 ([])))))),Hm [(9,kI 9 n n (i+1) (upd f i i 2))]⟩) ?_ ?_)
  ·cases b with
   |false=>
    rw[if_neg (by simp)]at e;refine ar (k:=aq rfl (ak ?_));show bG _ _;refine aj ⟨rfl,trivial⟩ ?_;simp[wk,e]
   |true=>
    by_cases y:i+1=n
    ·by_cases z:3<n
     ·rw[if_pos ⟨rfl,y,z⟩]at e;refine ar (k:=ay rfl (bS (k:=?_)));refine aj ⟨rfl,trivial⟩ ?_;simp[wk,e]
     rw[if_neg (by omega)]at e;refine ar (k:=aq rfl (ak ?_));show bG _ _;refine aj ⟨rfl,trivial⟩ ?_;simp[wk,e]
    rw[if_neg (by omega)]at e;refine ar (k:=aq rfl (ak ?_));show bG _ _;refine aj ⟨rfl,trivial⟩ ?_;simp[wk,e]
  by_cases r:i=0
  ·subst r;rw[if_neg (by omega)]at e;rw[if_pos rfl]at h;refine ar (k:=aq rfl (ak (bS (k:=?_))));refine⟨⟨1,by omega⟩,by grind,aj ⟨?_,trivial⟩ ?_⟩
   ·grind
   simp[wk]
  have q:o=((Sh b n i:Nat):Int):=by
   grind [Sh]
  have B:=NF (fork:=b) (n:=n) (show 0<i by omega);rw[if_neg r]at h;subst q;generalize Sh b n i=k at*
  generalize upd f i i 2=f2 at*
  have t:=wF (i:=i+1) (k:=k) (n:=n) 9 n (by omega);have u:=d9 (n:=i+1) n f2 (i:=i) (by omega);have v:=aw (f2 i) (show k<n by omega);have w:=d9 (n:=i+1) n (upd f2 i k (-1)) (i:=k) (by omega);have x:=aw (upd f2 i k (-1) k) m;refine ar (k:=ay rfl (nn (aH s (aH t (aH u (aH v (aH @gZ (aH w x)))))) (k:=bS (k:=?_))));refine⟨⟨i+1,by omega⟩,by grind,aj ⟨?_,trivial⟩ ?_⟩
  ·simp only[h];rfl
  simp[wk]
 have p:i=n:=by omega
 subst p;refine ar (k:=bv rfl ?_);show bf _ _ _ _;rw[Gz];refine bC (k:=?_);refine aW ⟨.inr rfl,_,bG.refl _,?_⟩;refine⟨.one (.sl 9 0 0 i),9,?_,rfl,?_,rfl⟩
 ·simp(disch:=omega) only[kd,results81]
 grind [dR]
def GoodP (n:Nat) (f:FF):Prop:=SymF f n/\CC f n/\detF n f<=10000
theorem Oh (n:Nat) (f:FF) (b:1<=n) (x:n<=8) (c: ∀i j:Nat,I64 (f i j)) (r:Bool) (m:r=true↔GoodP n f):CallC prog 84 [cq (mat n n f)] ⟨[],.raw (.bool r)⟩:=by
 have q:=Yq n n f b (by omega) b (by omega) (fun i j _ _=>c i j);obtain⟨e,t,s⟩:=o9 n n f b (by omega) b (by omega) (fun i j _ _=>(c i j).sz (by omega));by_cases g:e=0
 ·obtain⟨_,_,z,y⟩:=t.1 g;subst g;have u:=iJ n f b (by omega) (fun i j _ _=>(c i j).sz (by omega));have v:=fc 10000 (by omega) (by omega);have w:=Cs (detF n f) 10000 ((qx (n:=n) (by omega) (fun i j _ _=>(c i j).sz (by omega))).mono (by omega)) (n4 (by decide) (by omega));have l:=AU (detF n f) 10000;have p:r=decide (detF n f<=10000):=by
   cases r with
   |true=>have:=(m.1 rfl).2.2;simp[this]
   |false=>
    have: ¬detF n f<=10000:=fun h=>by have:=m.2 ⟨z,y,h⟩;cases this
    simp[this]
  rw[p];generalize detF n f=d at*
  refine aA func84 rfl ntmps84 (aC (k:=bK [⟨1,_,_,_,q⟩] (k:=cO [⟨1,_,_,_,s⟩,⟨5,_,_,_,u⟩,⟨6,_,_,_,v⟩,⟨7,_,_,_,w⟩] l (k:=aD @results84))))
 have o:r=false:=by
  cases r with
  |false=>rfl
  |true=>have:=m.1 rfl;exact absurd (t.2 ⟨rfl,x,this.1,this.2.1⟩) g
 subst o;refine aA func84 rfl ntmps84 (aC (k:=bK [⟨1,_,_,_,q⟩] (k:=bL [⟨1,_,_,_,s⟩] (k:=aD @results84))))
end Go.Proofs.YtalmoejhjceflaaGreat
