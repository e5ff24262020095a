/-
  Part 33 of a proof (walks and plain facts).
-/
import Derived.Test.YtalmoejhjceflaaGreatQ31
set_option linter.all false
set_option maxRecDepth 100000
set_option maxHeartbeats 64000000
open Nat renaming reduceAdd → aa
namespace Go.Proofs.YtalmoejhjceflaaGreat
open Go.RowKit Go.Proofs.Tryz
theorem Xr (m:Nat):swp (m+1) m idF=P4 m:=by
 grind [swp,P4,rK]
def stT (n:Nat) (f:FF):Option Ch->TV
 |none=> .tup [(false,[.p (.raw (.slice none 0 0))]),(false,[.p (.raw (.bool false))])]
 |some c=> .tup [(false,[.p (.sl (ls (fR fZ) (mat n n (Yk f c))))]),(false,[.p (.raw (.bool true))])]
structure StG (n:Nat) (f:FF) where
 i:Nat
 hi:i<=n
 h:scanF f n=scanI f (n-i) i
structure StJ (i:Nat) (f:FF) where
 k:Nat
 hk:k<=i
 h:scanJ f i i=scanJ f i k
theorem aaH (n:Nat) (f:FF) (t:1<=n) (U:n<=8) (V: ∀k,k<n->0<dk f (k+1)) (r: ∀i j,i<n->j<n->Sz (f i j) 1024):
  CallC prog 57 [dr (mat n n f)] ⟨[],stT n f (scanF f n)⟩:=by
 have O:=jO n f t (by omega) r;have N:=yz n t (by omega);have s:=aU n n f;refine fL func57 rfl (by kernel_rfl) ?_;rw[ntmps57];refine aw fun _ K=>?_;simp only[kd,dr,List.replicate];apply K
 refine bC [⟨1,_,_,_,O⟩] [] fun _ K=>?_;simp only[kd,dr,V6,aa];apply K
 refine bC [⟨2,_,_,_,N⟩] [] fun _ K=>?_;simp only[kd,aa,s];apply K
 refine ai (aw fun _ K=>?_);simp only[kd,aa,s];apply K;refine ay (G:=StG n f) (fun g=>⟨(dr (mat n n f)::jk::jk::jk::xr (xe n f)::jk::.one (.sl 18 0 0 n)::j4 (j4 (j4 (jk::jk::jk::rN n::rN g.i::j16 (j16 (j16 (j4 (j4 (jk::jk::jk::[]))))))))),Hm [(18,ij 18 n n idF)]⟩) (fun g=>n-g.i) ⟨0,by omega,rfl⟩ ?_ ?_
 ·refine aj ⟨?_,trivial⟩ ?_
  ·exact gk 0 18 n n _
  simp[wk]
 rintro⟨i,S,C⟩;simp only;by_cases m:i<n
 ·have v:scanI f (n-i) i=match scanJ f i i with
   |some j=>some (.add i j)
   |none=>if 0<i/\ ¬LovF f i then some (.swp (i-1))else scanI f (n-(i+1)) (i+1):=by
   rw[show n-i=n-(i+1)+1 by omega];rfl
  refine aw fun _ K=>?_;simp(disch:=omega) only[kd,dr,xr];apply K
  refine aV rfl ?_;refine ai (am ?_);refine aw fun _ K=>?_;simp only[kd];apply K
  refine ai (aw fun _ K=>?_);simp(disch:=omega) only[kd,aa,aL];apply K;refine ay (G:=StJ i f) (fun g=>⟨(dr (mat n n f)::jk::jk::jk::xr (xe n f)::jk::.one (.sl 18 0 0 n)::jk::rN i::.raw (.int .i64 ((g.k:Int)-1))::j4 (j4 (j4 (.raw (.int .i64 (n:Int))::rN i::j16 (j16 (j16 (j4 (j4 (jk::jk::jk::[]))))))))),Hm [(18,ij 18 n n idF)]⟩) (fun g=>g.k) ⟨i,by omega,rfl⟩ ?_ ?_
  ·refine aj ⟨rfl,trivial⟩ ?_;simp[wk]
  rintro⟨k,T,q⟩;simp only;cases k with
  |zero=>
   refine ai (aw fun _ K=>?_);simp(disch:=omega) only[kd,dr,xr];apply K;refine ao rfl (aX ?_);show bA _ _ _ _;have w:scanJ f i i=none:=q;rw[w]at v;by_cases L:0<i
   ·have e:=Ft n f i (by omega) m L r;by_cases o:LovF f i
    ·rw[decide_eq_true (show 3*(dd f i*dd f i)<=4*(dd f (i-1)*dd f (i+1)+lam f i (i-1)*lam f i (i-1))from o)]at e;have b:scanF f n=scanI f (n-(i+1)) (i+1):=by grind
     refine bC [⟨6,_,_,_,e⟩] [] fun _ K=>?_;simp(disch:=omega) only[kd,dr,xr,aa];apply K
     refine ao rfl (ak ?_);show bA _ _ _ _;refine g9 fun _ K=>?_;simp(disch:=omega) only[kd,aL];apply K
     refine⟨⟨i+1,by omega,b⟩,by grind,aj ⟨rfl,trivial⟩ ?_⟩;simp[wk]
    rw[decide_eq_false (show ¬3*(dd f i*dd f i)<=4*(dd f (i-1)*dd f (i+1)+lam f i (i-1)*lam f i (i-1))from o)]at e;have b:scanF f n=some (.swp (i-1)):=by grind
    rw[b];have P:((i:Int)-1).toNat=i-1:=by omega
    have x:=cf (n:=n) (i:=i) 18 n m;have y:=cf (n:=n) (i:=i-1) 18 n (by omega);have J:((l9 18 (List.replicate n n)).set i [.sl 18 (i-1+1) 0 n])[i-1]?=some [.sl 18 (i-1+1) 0 n]:=by
     grind
    refine bC [⟨6,_,_,_,e⟩] [] fun _ K=>?_;simp(disch:=omega) only[kd,dr,xr,aa];apply K
    refine az rfl ?_;refine lP cu (by kernel_rfl) fun _ K=>?_;simp(disch:=omega) only[kd,aa,aL,P,y,x,J,Nat.reduceLeDiff,reduceCtorEq];apply K
    refine bA.weak ((Ly 18 (i+1) (i-1+1) (ij 18 n n (swp i (i-1) idF)) (Mz idF m (by omega) (by omega))).trans (aj (tm:=(j4 (jk::jk::.one (.sl 18 0 0 n)::j16 (j16 (j16 (j16 (j4 (j4 (j4 ([])))))))))) (l:=[(18,ij 18 n n (swp i (i-1) idF))]) ⟨rfl,trivial⟩ (by simp[wk,aaM,oW,abH,gW,swP,UO,sw]))) ?_;rw[show swp i (i-1) idF=P4 (i-1) by grind [Xr]];refine bA.weak ((bF 18 (jo rfl)).trans (aj (tm:=(j4 (jk::jk::dr (mat n n (P4 (i-1)))::j16 (j16 (j16 (j16 (j4 (j4 (j4 ([])))))))))) (l:=[]) trivial (by simp[wk];exact(RG (H:=Hm [(18,ij 18 n n (P4 (i-1)))]) (d:=18) (n:=n) (c:=n) (f:=P4 (i-1)) rfl).symm))) ?_;refine aw fun _ K=>?_;simp only[kd,aa,dr];apply K
    (refine aQ ⟨.inr rfl,b8 rfl ?_ rfl⟩;simp(disch:=omega) only[kd,results57,stT,Yk])
   have z:i=0:=by omega
   subst z;have b:scanF f n=scanI f (n-(0+1)) (0+1):=by grind
   refine aw fun _ K=>?_;simp(disch:=omega) only[kd,aa];apply K
   refine ao rfl (ak ?_);show bA _ _ _ _;refine g9 fun _ K=>?_;simp(disch:=omega) only[kd,aL];apply K
   refine⟨⟨1,by omega,b⟩,by grind,aj ⟨rfl,trivial⟩ ?_⟩;simp[wk]
  |succ j=>
   have Q:((j+1:Nat):Int)-1=(j:Int):=by omega
   rw[Q];have e:=Lw n f i j (by omega) m (by omega) r;by_cases o:SizF f i j
   ·rw[decide_eq_true (show 2*((lam f i j).natAbs:Int)<=dd f (j+1)from o)]at e;have b:scanJ f i i=scanJ f i j:=by rw[q];exact if_pos o
    refine ai (aw fun _ K=>?_);simp(disch:=omega) only[kd,dr,xr];apply K;refine az rfl (ak ?_);refine ai (am ?_);refine bC [⟨4,_,_,_,e⟩] [] fun _ K=>?_;simp only[kd,dr,xr,aa];apply K
    refine ao rfl (ak ?_);show bA _ _ _ _;refine g9 fun _ K=>?_;simp(disch:=omega) only[kd,aa,aL];apply K
    refine⟨⟨j,by omega,b⟩,by simp,aj ⟨rfl,trivial⟩ ?_⟩;simp[wk]
   rw[decide_eq_false (show ¬2*((lam f i j).natAbs:Int)<=dd f (j+1)from o)]at e;have b:scanJ f i i=some j:=by rw[q];exact if_neg o
   have u:scanF f n=some (.add i j):=by grind
   rw[u,show stT n f (some (.add i j))= .tup [(false,[.p (.sl (ls (fR fZ) (mat n n (upd idF j i (cF f i j)))))]),(false,[.p (.raw (.bool true))])]from rfl];have h:0<dd f (j+1):=by grind [mr]
   have D:=JU (n:=n) (i:=i) (j:=j) (by omega) m (by omega) r;have F:=Gi (n:=n) (k:=j+1) (by omega) (by omega) r;have d1:=yC n f i j (by omega) m (by omega) r;have d2:=uq n f (j+1) (by omega) (by omega);rw[show((j+1:Nat):Int)=(j:Int)+1 by omega]at d2;have d3:=rO (lam f i j) (dd f (j+1)) h (D.mono (by omega)) (F.mono (by omega));have B:=sM (n:=lam f i j) h;have d4:=Nm (nN (lam f i j) (dd f (j+1))) (nD (lam f i j) (dd f (j+1))) B ((CL D).mono (by omega)) ((CK F).mono (by omega));rw[abZ h]at d4;have sq:Sz (qF (lam f i j) (dd f (j+1))) 67174401:=by
    have R:=Kk (l:=lam f i j) h;have M:Sz ((lam f i j).natAbs+1:Int) (67174400+1):=Sz.add (D.le (by omega)) (pb (by omega));exact M.le (by omega)
   have d5:=G5 (qF (lam f i j) (dd f (j+1))) (sq.mono (by omega));rw[show -(qF (lam f i j) (dd f (j+1)))=cF f i j from rfl]at d5;have x:=cf (n:=n) (i:=j) 18 n (by omega);have y:=ez n idF (show j<n by omega);have I:=aB (idF j) m;generalize cF f i j=E at*
   generalize qF (lam f i j) (dd f (j+1))=Y at*
   generalize nN (lam f i j) (dd f (j+1))=W at*
   generalize nD (lam f i j) (dd f (j+1))=X at*
   refine ai (aw fun _ K=>?_);simp(disch:=omega) only[kd,dr,xr];apply K;refine az rfl (ak ?_);refine ai (am ?_);refine bC [⟨4,_,_,_,e⟩] [] fun _ K=>?_;simp only[kd,dr,xr,aa];apply K
   refine az rfl ?_;refine vI cu [⟨8,_,_,_,d1⟩,⟨12,_,_,_,d2⟩,⟨13,_,_,_,d3⟩,⟨14,_,_,_,d4⟩,⟨15,_,_,_,d5⟩] [] (by kernel_rfl) fun _ K=>?_;simp(disch:=omega) only[kd,dr,tZ,xr,tR,aa,x,aL,Nat.reduceBEq,y,fZ,I,js];apply K
   refine bA.weak ((aj (tm:=(j4 (jk::jk::.one (.sl 18 0 0 n)::j16 (j16 (j16 (j16 (j4 (j4 (j4 ([])))))))))) (l:=[(18,ij 18 n n (upd idF j i E))]) ⟨rfl,trivial⟩ (by simp[wk])).trans ((bF 18 (jo rfl)).trans (aj (tm:=(j4 (jk::jk::dr (mat n n (upd idF j i E))::j16 (j16 (j16 (j16 (j4 (j4 (j4 ([])))))))))) (l:=[]) trivial (by
    simp[wk];grind [RG,Hm])))) ?_
   refine aw fun _ K=>?_;simp only[kd,aa,dr];apply K
   (refine aQ ⟨.inr rfl,b8 rfl ?_ rfl⟩;simp(disch:=omega) only[kd,results57])
 have A:i=n:=by omega
 subst A;have b:scanF f i=none:=by rw[C,aeq];rfl
 rw[b];refine aw fun _ K=>?_;simp(disch:=omega) only[kd,dr,xr];apply K
 refine aW rfl ?_;show bA _ _ _ _;refine aw fun _ K=>?_;simp only[kd];apply K
 (refine aQ ⟨.inr rfl,b8 rfl ?_ rfl⟩;simp(disch:=omega) only[kd,results57,stT])
def stG (L:List Int) (i k:Nat) (s:(Nat->Nat->Int)×Nat):(Nat->Nat->Int)×Nat:=(upd (upd s.1 i k (Int.tmod (L.getD s.2 0) 3)) k i (Int.tmod (L.getD s.2 0) 3),iS L s.2)
def UN (L:List Int) (i:Nat) (s:(Nat->Nat->Int)×Nat):Nat->(Nat->Nat->Int)×Nat
 |0=>s
 |k+1=>stG L i k (UN L i s k)
def tf (L:List Int) (s:(Nat->Nat->Int)×Nat):Nat->(Nat->Nat->Int)×Nat
 |0=>s
 |i+1=>UN L i (tf L s i) i
theorem JS {L:List Int} {i:Nat} {s:(Nat->Nat->Int)×Nat} (h:s.2<=L.length): ∀k,(UN L i s k).2<=L.length
 |0=>h
 |k+1=>wq (JS h k)
theorem JR {L:List Int} {s:(Nat->Nat->Int)×Nat} (h:s.2<=L.length): ∀i,(tf L s i).2<=L.length
 |0=>h
 |i+1=>JS (JR h i) i
theorem Uy (f:FF) (i j:Nat) (v:Int):upd f i j v i j=v:=by simp[upd]
theorem N9 (b:Nat) (L:List Int) (a n:Nat) (j:I8 L) (w:a<=L.length) (I:n<=8):
  CallT prog b 104 80 [dC b,.raw (.int .i64 (n:Int))] (Pr L a) ⟨mA 0 n n (tf L (ja L a 6,mW L a n) n).1,.one (.sl 0 0 0 n)⟩ (Pr L (tf L (ja L a 6,mW L a n) n).2):=by
 have u:=oC b L a n 6 j w I (by omega) (by omega);rw[show((6:Nat):Int)=6 from rfl]at u;have o:(ja L a 6,mW L a n).2<=L.length:=DC w n;refine lU func80 rfl (by kernel_rfl) ?_;rw[ntmps80];refine I3 @dC.eq_1 (k:=?_);refine vS 2 u [] [] (by kernel_rfl) (by rfl) (by rfl) fun _ K=>?_;simp only[kd,dC,aa];apply K
 refine cd (dy (k:=?_));refine lR (G:=fY n) (fun g=>⟨(dC b::j4 (.one (.sl 10 0 0 n)::j4 (jk::jk::rN n::rN g.i::j16 (j4 (j4 (j4 (jk::jk::jk::[]))))))),Hm [(10,mA 10 n n (tf L (ja L a 6,mW L a n) g.i).1)]⟩) (fun g=>Pr L (tf L (ja L a 6,mW L a n) g.i).2) (fun g=>n-g.i) ⟨0,by omega⟩ ?_ rfl ?_
 ·refine aj ⟨?_,trivial⟩ ?_
  ·exact eh 0 10 n n _
  simp[wk]
 rintro⟨i,M⟩;simp only;have q:=JR o i;by_cases h:i<n
 ·refine mm @dC.eq_1 (k:=vR rfl (cd (dx (dy (k:=dy (k:=?_))))));refine lR (G:=fY i) (fun g=>⟨(dC b::j4 (.one (.sl 10 0 0 n)::rN i::rN g.i::j4 (.raw (.int .i64 (n:Int))::rN i::j16 (j4 (j4 (j4 (jk::jk::jk::[]))))))),Hm [(10,mA 10 n n (UN L i (tf L (ja L a 6,mW L a n) i) g.i).1)]⟩) (fun g=>Pr L (UN L i (tf L (ja L a 6,mW L a n) i) g.i).2) (fun g=>i-g.i) ⟨0,by omega⟩ ?_ rfl ?_
  ·refine aj ⟨rfl,trivial⟩ ?_;simp[wk]
  rintro⟨k,N⟩;simp only;have e:=JS (i:=i) q k;by_cases H:k<i
  ·have r:UN L i (tf L (ja L a 6,mW L a n) i) (k+1)=stG L i k (UN L i (tf L (ja L a 6,mW L a n) i) k):=rfl;generalize UN L i (tf L (ja L a 6,mW L a n) i) k=s at*
   obtain⟨f,p⟩:=s;simp only at e⊢;have F:=Qe b L p j e;have J:=j.getD p;have t:=cf (n:=n) (i:=i) 10 n h;have y:=cf (n:=n) (i:=k) 10 n (by omega);have z:=ff n f h;have A:=aB (f i) (show k<n by omega);have c:stG L i k (f,p)=(upd (upd f i k (Int.tmod (L.getD p 0) 3)) k i (Int.tmod (L.getD p 0) 3),iS L p):=rfl;obtain⟨v,x⟩: ∃v,Int.tmod (L.getD p 0) 3=v:=⟨_,rfl⟩;rw[x]at c;have B:=ff n (upd f i k v) h;have C:=ff n (upd f i k v) (show k<n by omega);have D:(aN n (upd f i k v i))[k]?=some v:=by grind [aB,Uy]
   have E:=aB (upd f i k v k) h;refine cd (mm @dC.eq_1 (k:=jf rfl (kh (cd (dx ?_)))));refine I1 cu 6 F [] [] (by kernel_rfl) (by kernel_rfl) (by rfl) (by rfl) fun _ K=>?_;simp(disch:=omega) only[kd,dC,aa,t,x,z,A,jr];apply K
   refine Zj (aC y (aC t (aC B (aC D (aC C (aC E @jr)))))) (k:=xB (k:=?_));refine⟨⟨k+1,by omega⟩,by grind,aj ⟨?_,trivial⟩ ?_,?_⟩
   ·rw[r,c];rfl
   ·simp[wk]
   grind
  have m:k=i:=by omega
  subst m;refine cd (mm @dC.eq_1 (k:=cK rfl (FN (xB (k:=?_)))));refine⟨⟨k+1,by omega⟩,by grind,aj ⟨rfl,trivial⟩ ?_,rfl⟩;simp[wk]
 have l:i=n:=by omega
 subst l;refine mm @dC.eq_1 (k:=vQ rfl (dy (k:=?_)));refine n7 ⟨.inr rfl,rfl,_,bJ.refl _,?_⟩;refine⟨.one (.sl 10 0 0 i),10,?_,rfl,?_,rfl⟩
 ·simp(disch:=omega) only[kd,results80]
 grind [eh]
def Vq (b:Bool) (n i:Nat):Nat:=if b=true/\i+1=n/\3<n then i-2 else i-1
def lE (b:Bool) (n:Nat):Nat->Nat->Nat->Int
 |0=>fun _ _=>0
 |i+1=>if i=0 then upd (lE b n i) i i 2 else upd (upd (upd (lE b n i) i i 2) i (Vq b n i) (-1)) (Vq b n i) i (-1)
theorem Q3 {fork:Bool} {n i:Nat} (h:0<i):Vq fork n i<i:=by grind [Vq]
theorem Li {f:FF} {i j a b:Nat} {v:Int} (h:a≠i\/b≠j):upd f i j v a b=f a b:=by
 unfold upd;by_cases c:a=i
 ·simp_all
 simp[c]
theorem F7 (c:Bool) (n:Nat): ∀i a b,i<=a\/i<=b->lE c n i a b=0
 |0,_,_,_=>rfl
 |i+1,a,b,h=>by
  have f:=F7 c n i a b (by omega);unfold lE;split
  ·grind [Li]
  rename_i e;have:=Q3 (fork:=c) (n:=n) (show 0<i by omega);grind [Li]
theorem LN (n:Nat) (b:Bool) (J:n<=8):
  CallC prog 81 [.raw (.int .i64 (n:Int)),.raw (.bool b)] ⟨mA 0 n n (lE b n n),.one (.sl 0 0 0 n)⟩:=by
 refine ax func81 rfl ntmps81 (aA (k:=ar (k:=ai (bi (k:=?_)))));refine ay (G:=fY n) (fun g=>⟨(.raw (.int .i64 (n:Int))::.raw (.bool b)::jk::jk::jk::.one (.sl 9 0 0 n)::j4 (jk::rN n::rN g.i::j16 (j16 (j4 (j4 (j4 ([]))))))),Hm [(9,kI 9 n n g.i (lE b n g.i))]⟩) (fun g=>n-g.i) ⟨0,by omega⟩ ?_ ?_
 ·refine aj ⟨?_,trivial⟩ ?_
  ·rfl
  simp[wk]
 rintro⟨i,A⟩;simp only;by_cases m:i<n
 ·have C:=D2 (i:=i) (n:=n) 9 n m;have K:=qa (i:=i) (n:=n) 9 n A;have D:=aU i n (lE b n i);have E:=xZ (i:=i) (n:=n) (c:=n) 9 (lE b n i) m (fun j I=>F7 b n i i j (by omega));have s:=zV (i:=i+1) (k:=i) (n:=n) 9 n (by omega);have L:=qa (i:=i+1) (n:=n) 9 n (by omega);have F:=ff (n:=i+1) n (lE b n i) (i:=i) (by omega);have H:=aB (lE b n i i) m;have h:lE b n (i+1)=if i=0 then upd (lE b n i) i i 2 else upd (upd (upd (lE b n i) i i 2) i (Vq b n i) (-1)) (Vq b n i) i (-1):=rfl
  generalize lE b n i=f at*
  refine ar (k:=aV rfl (ai (am (bi (k:=aH (aC C (aC @acX (aC @aeu D))) (k:=?_))))));refine bA.weak (aj (tm:=(.raw (.int .i64 (n:Int))::.raw (.bool b)::jk::jk::jk::.one (.sl 9 0 0 n)::rN i::j4 (.raw (.int .i64 (n:Int))::rN i::j16 (j16 (j4 (j4 (j4 ([])))))))) (l:=[(9,kI 9 n n (i+1) f)]) ⟨?_,trivial⟩ (by simp[wk])) ?_
  ·first|exact E|rfl
  refine aH (aC s (aC F (aC H @jr))) (k:=ar (k:=?_));obtain⟨o,e⟩: ∃o:Int,o=if b=true/\i+1=n/\3<n then(i:Int)-2 else(i:Int)-1:=⟨_,rfl⟩
  refine ai (qB (S:=⟨(.raw (.int .i64 (n:Int))::.raw (.bool b)::jk::jk::jk::.one (.sl 9 0 0 n)::rN i::.raw (.int .i64 o)::jk::jk::jk::rN n::rN i::j16 (j16 (j4 (j4 (j4 ([])))))),Hm [(9,kI 9 n n (i+1) (upd f i i 2))]⟩) ?_ ?_)
  ·cases b with
   |false=>
    rw[if_neg (by simp)]at e;refine ar (k:=ao rfl (ak ?_));show bJ _ _;refine aj ⟨rfl,trivial⟩ ?_;simp[wk,e]
   |true=>
    by_cases y:i+1=n
    ·by_cases z:3<n
     ·rw[if_pos ⟨rfl,y,z⟩]at e;refine ar (k:=az rfl (bu (k:=?_)));refine aj ⟨rfl,trivial⟩ ?_;simp[wk,e]
     rw[if_neg (by omega)]at e;refine ar (k:=ao rfl (ak ?_));show bJ _ _;refine aj ⟨rfl,trivial⟩ ?_;simp[wk,e]
    rw[if_neg (by omega)]at e;refine ar (k:=ao rfl (ak ?_));show bJ _ _;refine aj ⟨rfl,trivial⟩ ?_;simp[wk,e]
  by_cases r:i=0
  ·subst r;rw[if_neg (by omega)]at e;rw[if_pos rfl]at h;refine ar (k:=ao rfl (ak (bu (k:=?_))));refine⟨⟨1,by omega⟩,by grind,aj ⟨?_,trivial⟩ ?_⟩
   ·grind
   simp[wk]
  have q:o=((Vq b n i:Nat):Int):=by
   grind [Vq]
  have B:=Q3 (fork:=b) (n:=n) (show 0<i by omega);rw[if_neg r]at h;subst q;generalize Vq b n i=k at*
  generalize upd f i i 2=f2 at*
  have t:=zV (i:=i+1) (k:=k) (n:=n) 9 n (by omega);have u:=ff (n:=i+1) n f2 (i:=i) (by omega);have v:=aB (f2 i) (show k<n by omega);have w:=ff (n:=i+1) n (upd f2 i k (-1)) (i:=k) (by omega);have x:=aB (upd f2 i k (-1) k) m;refine ar (k:=az rfl (pQ (aC s (aC t (aC u (aC v (aC @jr (aC w x)))))) (k:=bu (k:=?_))));refine⟨⟨i+1,by omega⟩,by grind,aj ⟨?_,trivial⟩ ?_⟩
  ·simp only[h];rfl
  simp[wk]
 have p:i=n:=by omega
 subst p;refine ar (k:=aW rfl ?_);show bA _ _ _ _;rw[JT];refine bi (k:=?_);refine aQ ⟨.inr rfl,_,bJ.refl _,?_⟩;refine⟨.one (.sl 9 0 0 i),9,?_,rfl,?_,rfl⟩
 ·simp(disch:=omega) only[kd,results81]
 grind [eh]
def GoodP (n:Nat) (f:FF):Prop:=SymF f n/\xz f n/\detF n f<=10000
theorem RN (n:Nat) (f:FF) (b:1<=n) (x:n<=8) (c: ∀i j:Nat,I64 (f i j)) (r:Bool) (m:r=true↔GoodP n f):CallC prog 84 [cw (mat n n f)] ⟨[],.raw (.bool r)⟩:=by
 have q:=Nn n n f b (by omega) b (by omega) (fun i j _ _=>c i j);obtain⟨e,t,s⟩:=jP n n f b (by omega) b (by omega) (fun i j _ _=>(c i j).sz (by omega));by_cases g:e=0
 ·obtain⟨_,_,z,y⟩:=t.1 g;subst g;have u:=gD n f b (by omega) (fun i j _ _=>(c i j).sz (by omega));have v:=fh 10000 (by omega) (by omega);have w:=yv (detF n f) 10000 ((oB (n:=n) (by omega) (fun i j _ _=>(c i j).sz (by omega))).mono (by omega)) (kO (by decide) (by omega));have l:=DO (detF n f) 10000;have p:r=decide (detF n f<=10000):=by
   cases r with
   |true=>have:=(m.1 rfl).2.2;simp[this]
   |false=>
    have: ¬detF n f<=10000:=fun h=>by have:=m.2 ⟨z,y,h⟩;cases this
    simp[this]
  rw[p];generalize detF n f=d at*
  refine ax func84 rfl ntmps84 (aA (k:=bj [⟨1,_,_,_,q⟩] (k:=cj [⟨1,_,_,_,s⟩,⟨5,_,_,_,u⟩,⟨6,_,_,_,v⟩,⟨7,_,_,_,w⟩] l (k:=aE @results84))))
 have o:r=false:=by
  cases r with
  |false=>rfl
  |true=>have:=m.1 rfl;exact absurd (t.2 ⟨rfl,x,this.1,this.2.1⟩) g
 subst o;refine ax func84 rfl ntmps84 (aA (k:=bj [⟨1,_,_,_,q⟩] (k:=bE [⟨1,_,_,_,s⟩] (k:=aE @results84))))
end Go.Proofs.YtalmoejhjceflaaGreat
