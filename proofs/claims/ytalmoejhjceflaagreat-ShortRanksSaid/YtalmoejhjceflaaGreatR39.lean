/-
  Part 40 of a proof (walks and plain facts).
-/
import Derived.Test.YtalmoejhjceflaaGreatR38
set_option linter.all false
set_option maxRecDepth 100000
set_option maxHeartbeats 64000000
open Nat renaming reduceAdd → aa
open Nat renaming reduceEqDiff → ab
open List renaming replicate → ae
namespace Go.Proofs.YtalmoejhjceflaaGreat
open Go.RowKit Go.Proofs.Tryz
variable {b:List Int} {n:Nat} {x:Int} {c:FF}
def elF (f:FF) (k:Nat):Nat->Nat->Int:=fun i j=>bk f k (k+i) (k+j)
abbrev KV (n:Nat) (f:FF) (k:Nat):List (List Int):=mat (n-k) (n-k) (elF f k)
def t8 (n:Nat) (f:FF) (k:Nat):List (List (List Int)):=(List.range k).map (KV n f)
theorem Qo (n:Nat) (f:FF) (k:Nat):t8 n f k++[KV n f k]=t8 n f (k+1):=by simp[t8,abg]
theorem rH (n:Nat) (f:FF) (k:Nat):(t8 n f k).length=k:=by simp[t8]
theorem NZ (n:Nat) (f:FF):mat n n f=KV n f 0:=gQ fun i j _ _=>by
 show f i j=bk f 0 (0+i) (0+j);grind [dc]
theorem Dp {f:FF} {k:Nat} (c: ∀t,t<k->dk f (t+1)≠0) (i j:Nat):
  (elF f k 0 0*elF f k (i+1) (j+1)-elF f k (i+1) 0*elF f k 0 (j+1))/dk f k=elF f (k+1) i j:=by
 have b:dk f k≠0:=by
  cases k with
  |zero=>rw[cu];decide
  |succ k=>grind
 grind [sylv,elF,cd,Int.mul_ediv_cancel_left]
theorem lH (f:FF) (k:Nat):elF f k 0 0=dk f (k+1):=by
 rfl
def fM (M:List (List Int)):List PV:=[.sl (ls (fR fZ) M)]
theorem OI (l:List (List (List Int))) (M:List (List Int)):lc fM l++[[.p (.sl (ls (fR fZ) M))]]=lc fM (l++[M]):=by simp[lc,fM]
def NzP (n:Nat) (f:FF):Prop:= ∀t,t+1<n->dk f (t+1)≠0
open Classical in
noncomputable def Xu (n:Nat) (f:FF):TV:=if NzP n f then .tup [(false,[.p (.sl (ls fM (t8 n f n)))]),(false,[.p (.raw (.bool true))])]else .tup [(false,[.p (.raw (.slice none 0 0))]),(false,[.p (.raw (.bool false))])]
theorem xZ (h:NzP n c):Xu n c= .tup [(false,[.p (.sl (ls fM (t8 n c n)))]),(false,[.p (.raw (.bool true))])]:=if_pos h
theorem T8 (h: ¬NzP n c):Xu n c= .tup [(false,[.p (.raw (.slice none 0 0))]),(false,[.p (.raw (.bool false))])]:=if_neg h
structure SgG (n:Nat) (f:FF) where
 k:Nat
 s:Nat
 hk:k<n
 nz: ∀t,t<k->dk f (t+1)≠0
 hs:s+1<=1025*2^k
 sz: ∀i j,i<n-k->j<n-k->Sz (elF f k i j) s
 sl:Sz (dk f k) s
theorem CG (n:Nat) (f:FF) (m:1<=n) (r:n<=16) (Q: ∀i j,i<n->j<n->Sz (f i j) 1024):CallC prog 202 [da (mat n n f)] ⟨[],Xu n f⟩:=by
 have O:=LE n f m r;have M:=nC 1 (by omega) (by omega);have P:=Uf 235 (kZ (mat n n f)) n n f m r m r (fun i j o q=>Xs o q r ((Q i j o q).mono (by omega)));refine dr func202 rfl (by kernel_rfl) ?_;rw[ntmps202];refine an fun _ K=>?_;simp(disch:=omega) only[kd,aa,da,ae];apply K
 refine Kk ?_;refine aQ [⟨1,_,_,_,O⟩] [] fun _ K=>?_;simp only[kd,da,aa];apply K
 refine ai (an fun _ K=>?_);simp only[kd];apply K;refine aq rfl (ak ?_);show bf _ _ _ _;refine bf.weak ((qg 1 1 (cs:=kZ (mat n n f)) rfl rfl).trans (aj (tm:=(jk::.one (.p (.ptr (kZ (mat n n f))))::.raw (.slice none 0 0)::.raw (.bool false)::rN n::j16 (j16 (j16 (j4 (j4 (jk::[]))))))) (l:=[]) trivial (by simp[wk,ew,dF]))) ?_;refine aQ [⟨3,_,_,_,P⟩] [] fun _ K=>?_;simp only[kd,da,aa,iT];apply K
 refine aQ [⟨0,_,_,_,M⟩] [] fun _ K=>?_;simp(disch:=omega) only[kd,tZ,aa];apply K
 refine an fun _ K=>?_;simp only[kd];apply K
 refine ai (Ki ?_);show bf _ _ _ _;refine ai (an fun _ K=>?_);simp only[kd];apply K;refine aB (G:=SgG n f) (fun g=>⟨(jk::jk::.raw (.slice none 0 0)::.raw (.bool false)::rN n::jk::da (KV n f g.k)::.one (.ptr 7 0 0 0)::.one (.sl 30 0 0 g.k)::j4 (j4 (j4 (jk::jk::rN n::rN g.k::j16 (j16 (j4 (jk::[]))))))),Hm [(7,qt (dk f g.k)),(30,[⟨42,1,lc fM (t8 n f g.k)⟩])]⟩) (fun g=>n-g.k) ⟨0,1024,by omega,fun t I=>by omega,by omega,fun i j o q=>?_,?_⟩ ?_ ?_
 ·show Sz (bk f 0 (0+i) (0+j)) 1024;grind [dc]
 ·grind [cu,mL]
 ·refine(dZ (k:=8) (d:=30) 42 1 (by omega) rfl rfl).trans (aj ⟨?_,rfl,trivial⟩ ?_)
  ·rfl
  simp[wk];grind [NZ]
 rintro⟨k,s,U,D,V,sz,T⟩;simp only;have N:=jR (k:=k) (by omega);have B:s<=67174400:=by omega
 have F:=bF (n-k) (elF f k) (show 0<n-k by omega);have v:=aw (elF f k 0) (show 0<n-k by omega);have c:=I1 (elF f k 0 0) ((sz 0 0 (by omega) (by omega)).mono (by omega));have C:=Qo n f k;have y:=rH n f k;refine an fun _ K=>?_;simp(disch:=omega) only[kd,da];apply K
 refine be rfl ?_;refine ai (am ?_);refine an fun _ K=>?_;simp only[kd];apply K
 refine an fun _ K=>?_;simp(disch:=omega) only[kd,aa,Nat.reduceMul,Nat.reduceLeDiff,ab,y,OI,C,Nat.reduceBEq];apply K
 refine ai (am ?_);by_cases R:k=n-1
 ·have A:NzP n f:=fun t I=>D t (by omega)
  rw[xZ A];refine an fun _ K=>?_;simp(disch:=omega) only[kd,aa,aK];apply K
  refine ay rfl (aZ ?_);show bf _ _ _ _;have x:k+1=n:=by omega
  rw[x];have H:=rH n f n;refine an fun _ K=>?_;simp only[kd,aa];apply K
  refine aW ⟨.inr rfl,jt 30 (bO rfl) ?_ rfl⟩;have J:List.take n (t8 n f n)=t8 n f n:=aaz (by omega);simp(disch:=omega) only[kd,results202,ab,J]
 refine an fun _ K=>?_;simp(disch:=omega) only[kd,aa,aK];apply K
 refine aq rfl ?_;by_cases u:dk f (k+1)=0
 ·have z: ¬NzP n f:=fun h=>h k (by omega) u
  rw[T8 z];rw[lH,u]at c;refine aQ [⟨5,_,_,_,c⟩] [] fun _ K=>?_;simp(disch:=omega) only[kd,tZ,rz,aa,Int.reduceToNat,F,fR,v,lH,u,fZ];apply K
  refine ay rfl ?_;refine an fun _ K=>?_;simp only[kd];apply K
  (refine aW ⟨.inr rfl,bW rfl ?_ rfl⟩;simp(disch:=omega) only[kd,results202])
 have S:=Es u;rw[lH]at c v;refine aQ [⟨5,_,_,_,c⟩] [] fun _ K=>?_;simp(disch:=omega) only[kd,tZ,aa,Int.reduceToNat,F,fR,v,fZ];apply K
 refine aq rfl (ak ?_);show bf _ _ _ _;refine an fun _ K=>?_;simp(disch:=omega) only[kd,aa,ab];apply K
 refine bf.weak ((qg 10 10 (cs:=kZ (KV n f k)) rfl rfl).trans (aj (tm:=(jk::jk::.raw (.slice none 0 0)::.raw (.bool false)::rN n::jk::jk::.one (.ptr 7 0 0 0)::.one (.sl 30 0 0 (k+1))::rN k::.one (.p (.ptr (kZ (KV n f k))))::j4 (j4 (j4 (.raw (.int .i64 (n:Int))::rN k::j16 (j16 (j4 (jk::[])))))))) (l:=[(7,qt (dk f k)),(30,[⟨42,1,lc fM (t8 n f (k+1))⟩])]) ⟨rfl,rfl,trivial⟩ (by simp[wk,ew,dF]))) ?_;refine ai (vu 7 (cs:=fZ (dk f k)) rfl fun b=>?_);refine dV.weak (aj (tm:=(jk::jk::.raw (.slice none 0 0)::.raw (.bool false)::rN n::jk::jk::cw b::.one (.sl 30 0 0 (k+1))::rN k::.one (.p (.ptr (kZ (KV n f k))))::j4 (j4 (j4 (.raw (.int .i64 (n:Int))::rN k::j16 (j16 (j4 (jk::[])))))))) (l:=[(30,[⟨42,1,lc fM (t8 n f (k+1))⟩])]) ⟨rfl,trivial⟩ (by simp[wk,sN,i5])) ?_;have w:dk f k≠0:=by
  cases k with
  |zero=>rw[cu];decide
  |succ k=>grind
 have e:=Ug 237 (kZ (KV n f k)) b 65 (fZ (dk f k)) (n-(k+1)) (n-(k+1)) (fun i j=>(elF f k 0 0*elF f k (i+1) (j+1)-elF f k (i+1) 0*elF f k 0 (j+1))/dk f k) (by omega) (by omega) (by omega) (by omega)
  (fun i j o q=>Xt b (by omega) (by omega) (by omega) s B sz T w)
 rw[gQ fun i j _ _=>Dp (f:=f) (k:=k) D i j]at e;have L:((n-(k+1):Nat):Int)=(n:Int)-(k:Int)-1:=by omega
 rw[L]at e;refine fJ 9 e [] [] (by kernel_rfl) (by rfl) (by rfl) fun _ K=>?_;simp(disch:=omega) only[kd,da,aa,cw,aK,iT];apply K
 refine⟨rfl,?_⟩;show bf _ _ _ _;refine bf.weak (aj (tm:=(jk::jk::.raw (.slice none 0 0)::.raw (.bool false)::rN n::jk::da (KV n f (k+1))::.one (.ptr 7 0 0 0)::.one (.sl 30 0 0 (k+1))::jk::.one (.p (.ptr (kZ (KV n f k))))::j4 (j4 (j4 (.raw (.int .i64 (n:Int))::rN k::j16 (j16 (j4 (jk::[])))))))) (l:=[(7,qt (dk f k)),(30,[⟨42,1,lc fM (t8 n f (k+1))⟩])]) ⟨rfl,rfl,trivial⟩ (by simp[wk,FR,vP])) ?_;refine cz fun _ K=>?_;simp(disch:=omega) only[kd,aa,da,Int.reduceToNat,F,fR,v,fZ,ab];apply K
 show bf _ _ _ _;refine cz fun _ K=>?_;simp(disch:=omega) only[kd,aK];apply K
 have E: ∀t,t<k+1->dk f (t+1)≠0:=fun t I=>by
  grind
 refine⟨⟨k+1,2*s+1,by omega,E,by omega,fun i j o q=>?_,?_⟩,by simp only;omega,aj ⟨rfl,rfl,trivial⟩ ?_⟩
 ·rw[<- Dp D];exact((((sz 0 0 (by omega) (by omega)).mul (sz (i+1) (j+1) (by omega) (by omega))).sub ((sz (i+1) 0 (by omega) (by omega)).mul (sz 0 (j+1) (by omega) (by omega)))).ediv _).mono (by omega)
 ·rw[<- lH];exact(sz 0 0 (by omega) (by omega)).mono (by omega)
 simp[wk]
theorem YN (h:I64 x):jF x= .tup [(false,[.p (.raw (.int .i64 x))]),(false,[.p (.raw (.bool true))])]:=if_pos h
theorem I64.bg (h:I64 x):Bg x:=(h.sz (aar 2)).mono (by omega)
theorem SO {H:OH} {a:Nat} {f g:OObj} (h:H a=[f,g]) (n: ∀e∈f.elems,∀x∈e,isPure x=true\/ ∃c len,x= .sl a 1 c len) (j:dT g):qB H a:=fun r o b e l x m=>by
 rw[h]at b
 match r with
 |0=>
  grind
 |1=>
  injection b with b
  subst b;exact .inl (j e l x m)
 |r+2=>simp at b
theorem Ek (z:Int) (h:I64 z):CallC prog 188 [tZ z] ⟨[],.raw (.int .i64 z)⟩:=by
 have b:=DD z h.bg;rw[YN h]at b;refine aA func188 rfl ntmps188 (aC (k:=bK [⟨1,_,_,_,b⟩] (k:=bC (k:=aD @results188))))
theorem TQ (n:Nat) (f:FF) (b:1<=n) (l:n<=16) (m:NzP n f) (t: ∀i j,i<n->j<n->I64 (f i j)):
  CallC prog 187 [cq (mat n n f)] ⟨[],.agg [.p (.sl (ls fM (t8 n f n))),.p (.sl (ls fZ (aN (n+1) (dk f))))]⟩:=by
 have y:=tS n n f b l b l t;have r:=CG n f b l fun i j u z=>(t i j u z).sz (by omega)
 rw[xZ m]at r;have w:=nC 1 (by omega) (by omega);have h:=rH n f n;have o: ∀k,k<n->(t8 n f n)[k]?=some (KV n f k):=fun k A=>by simp[t8,A]
 have C:[[AV.p (.raw (.bool (decide ((1:Int)<0)))),.p (.sl (ls fU (au (Int.natAbs 1))))]]=lc fZ (aN 1 (dk f)):=by
  rfl
 refine aA func187 rfl ntmps187 (aC (k:=im [⟨1,_,_,_,y⟩] @Ru.eq_1 (k:=bK [⟨1,_,_,_,r⟩] (k:=?_))));refine iq 5 [⟨1,_,_,_,w⟩] [22] (by simp[wk]) (by decide) fun _ K=>?_;simp(disch:=omega) only[kd,tZ,aa,Nat.reduceMul,Nat.reduceLeDiff,ab];apply K
 refine⟨_,(lk 7 22 900 rfl rfl rfl (by simp[dT,isPure]) (by simp[dT,isPure]) (by omega) (by omega) (by omega)),by simp[wk],?_⟩;simp only[aaI,aaY,K7,acw,lS,fp,pn];intro _ K;simp(disch:=omega) only[kd,tZ,ab,aa];apply K;refine ai (f9 h (k:=?_));refine aB (G:=jx n) (fun q=>⟨(jk::jk::.one (.ptr 2 0 0 0)::j4 (.one (.ptr 900 0 0 0)::j16 (.one (.p (.sl (ls fM (t8 n f n))))::rN n::rN q.i::j4 (j4 (j4 (jk::jk::jk::[])))))),Hm [(2,[⟨224,2,[[.p (.raw (.slice none 0 0)),.p (.raw (.slice none 0 0))]]⟩]),(900,[⟨224,2,[[.p (.sl (ls fM (t8 n f n))),.sl 900 1 0 (q.i+1)]]⟩,⟨65,2,lc fZ (aN (q.i+1) (dk f))⟩])]⟩) (fun q=>n-q.i) ⟨0,by omega⟩ ?_ ?_
 ·refine aj ⟨rfl,?_,trivial⟩ ?_
  ·rfl
  simp[wk]
 rintro⟨i,u⟩;simp only;by_cases B:i<n
 ·have D:=o i B;have E:=bF (n-i) (elF f i) (show 0<n-i by omega);have F:=aw (elF f i 0) (show 0<n-i by omega);have c:=aI (i+1) (dk f);refine ar (k:=be rfl (ai (am (aL (aH D @fM.eq_1) (k:=nn (aH E (aH F (aH @lH (aH c @qJ)))) (k:=bS (k:=?_)))))));refine⟨⟨i+1,by omega⟩,by grind,aj ⟨rfl,?_,trivial⟩ ?_⟩
  ·rw[jS (i+1)];rfl
  simp[wk]
 have g:i=n:=by omega
 subst g;have c:=aI (i+1) (dk f);refine ar (k:=bv rfl ?_);show bf _ _ _ _;refine iq 1 [] [] (by simp[wk]) (by decide) fun _ K=>?_;simp only[kd,ab,aa];apply K
 refine⟨_,bD 900 (SO rfl (fun e s x v=>?_) (bo _ _ _)),by simp[wk],?_⟩
 ·simp only[aaq]at s;subst s;simp only[aaR,abj,or_false]at v;rcases v with rfl|rfl
  ·exact .inl rfl
  simp
 simp only[aaI,aaY,ew,dF];intro _ K;simp(disch:=omega) only[kd,ab,aa];apply K
 (refine aW ⟨.inr rfl,bW rfl ?_ rfl⟩;simp(disch:=omega) only[kd,results187,ab,aa])
 grind
def mW (n:Nat) (f:FF) (k:Nat):List Int:=aN (n-k-1) fun b=>bk f k k (k+(b+1))
def fd (n:Nat) (f:FF) (j:Nat):List (List Int):=(List.range j).map (mW n f)
theorem zr (n:Nat) (f:FF) (j:Nat):fd n f j++[mW n f j]=fd n f (j+1):=by simp[fd,abg]
theorem lN (n:Nat) (f:FF) (j:Nat):(fd n f j).length=j:=by simp[fd]
theorem OD {j k:Nat} (f:FF) (h:k<j):(fd n f j)[k]?=some (mW n f k):=by simp[fd,h]
abbrev XR (a:Nat) (B:Int) (n i j:Nat) (c b:List Int) (L:List (List Int)):List OObj:=[⟨222,4,[[.p (.raw (.int .i64 B)),.sl a 2 0 i,.sl a 3 0 j,.sl a 1 0 n]]⟩,⟨2,1,lc fI c⟩,⟨2,1,lc fI b⟩,⟨35,1,lc (fR fI) L⟩]
theorem UE (a d:Nat) (B:Int) (n i j:Nat) (c b:List Int) (L:List (List Int)):(XR a B n i j c b L).map (renO d)=XR d B n i j c b L:=by
 simp_all[renO,cb,iC]
structure XY (n:Nat) (f:FF):Prop where
 n1:1<=n
 n16:n<=16
 nz:NzP n f
 i: ∀i j,i<n->j<n->I64 (f i j)
 d: ∀k,k<=n->I64 (dk f k)
 b: ∀k j,k<n->j<n->I64 (bk f k k j)
theorem X6 (n:Nat):ae n [AV.p (.raw (.int .i64 0))]=lc fI (ae n 0):=by simp[lc,fI]
theorem Lp (h:XY n c) (B:Int):
  CallC prog 130 [cq (mat n n c),.raw (.int .i64 B)] ⟨XR 0 B n (n+1) n (ae n 0) (aN (n+1) (dk c)) (fd n c n),.one (.ptr 0 0 0 0)⟩:=by
 have N:=TQ n c h.n1 h.n16 h.nz h.i;have Q:=h.n1;have X:=h.n16;have H:=aT n n c;have D:=rH n c n;have v:=aI (n+1) (dk c);refine aA func130 rfl ntmps130 (aC (k:=?_));refine ai (Kj 5 19 17 3 (e:=222) (cs:=[.p (.raw (.int .i64 B)),.p (.raw (.slice none 0 0)),.p (.raw (.slice none 0 0)),.sl 17 0 0 n]) (ob:=⟨2,1,lc fI (ae n 0)⟩) (len:=n) [] [] ?_ (fun e O x S=>bo _ _ _ e O x S) (by omega) (by decide) fun K o=>?_)
 rotate_left 1
 ·simp(disch:=omega) only[kd,aa,H,Nat.reduceLeDiff];refine o _ ⟨⟨⟨_,_,rfl,rfl,rfl,rfl,rfl⟩,rfl,congrArg (fun l=>[OObj.mk _ 1 l]) (X6 n),rfl⟩,?_⟩;clear o K;intro K o;simp only[kd,aa,Wb];apply o;clear o K;refine bf.weak ((io 19 0 0 1 2 1 (by omega) rfl rfl rfl).trans (io 19 0 0 2 35 1 (by omega) rfl rfl rfl)) ?_;refine bL [⟨1,_,_,_,N⟩] (k:=ai (ar (k:=?_)));refine aB (G:=jx (n+1)) (fun q=>⟨(j4 (jk::.one (.ptr 19 0 0 0)::.one (.ptr 6 0 0 0)::j16 (.one (.p (.sl (ls fZ (aN (n+1) (dk c)))))::.raw (.int .i64 ((n+1:Nat):Int))::rN q.i::j16 (j16 (j16 (jk::[])))))),Hm [(6,[⟨224,2,[[.p (.sl (ls fM (t8 n c n))),.p (.sl (ls fZ (aN (n+1) (dk c))))]]⟩]),(19,XR 19 B n q.i 0 (ae n 0) (aN q.i (dk c)) [])]⟩) (fun q=>n+1-q.i) ⟨0,by omega⟩ ?_ ?_
  ·refine aj ⟨rfl,rfl,trivial⟩ ?_;simp[wk,v]
  rintro⟨i,V⟩;simp only;by_cases r:i<n+1
  ·have t:=Ek (dk c i) (h.d i (by omega));have w:=aw (dk c) r;have m:=aI i (dk c);refine ar (k:=be rfl (ai (am (aL w (k:=gX [⟨6,_,_,_,t⟩] (aH m @wK) (k:=bS (k:=?_)))))));refine⟨⟨i+1,by omega⟩,by grind,aj ⟨rfl,?_,trivial⟩ ?_⟩
   ·rw[jS i];rfl
   simp[wk]
  have z:i=n+1:=by omega
  subst z;refine ar (k:=bv rfl (ai (f9 D (k:=?_))));refine aB (G:=jx n) (fun q=>⟨(j4 (jk::.one (.ptr 19 0 0 0)::j16 (j16 (j4 (.one (.p (.sl (ls fM (t8 n c n))))::rN n::rN q.i::j16 (j4 (j4 (j4 (jk::jk::[]))))))))),Hm [(19,XR 19 B n (n+1) q.i (ae n 0) (aN (n+1) (dk c)) (fd n c q.i))]⟩) (fun q=>n-q.i) ⟨0,by omega⟩ ?_ ?_
  ·refine aj ⟨rfl,trivial⟩ ?_;simp[wk]
  rintro⟨k,W⟩;simp only;by_cases r:k<n
  ·have I:(t8 n c n)[k]?=some (KV n c k):=by simp[t8,r]
   have T:=bF (n-k) (elF c k) (show 0<n-k by omega);have U:=aI (n-k) (elF c k 0);have M:=aT (n-k) (n-k) (elF c k);have J:List.drop 1 (List.take (n-k) (aN (n-k) (elF c k 0)))=mW n c k:=by
    rw[aaz (by omega)];show _=aN _ _;apply aaC;intro b;rw[abR];by_cases L:b<n-k-1
    ·rw[aw _ (by omega),aw _ L,ab5 1 b];rfl
    grind [aI]
   have C:=lN n c k;have E:(mW n c k).length=n-k-1:=aI _ _;refine ar (k:=be rfl (ai (am (aL (aH I @fM.eq_1) (k:=bC (k:=?_))))));have s:1<=n-k:=by omega
   have P:=aI (n-k-1) (fun b=>bk c k k (k+(b+1)));refine ai (aL (aH T (aH U (aH s (aH (sO WD) (aH J E))))) (k:=?_));refine aB (G:=jx (n-k-1)) (fun q=>⟨(j4 (jk::.one (.ptr 19 0 0 0)::j4 (jk::.one (.sl 11 0 0 q.i)::j16 (j4 (j4 (j4 (jk::jk::.one (.p (.sl (ls fM (t8 n c n))))::rN n::rN k::j4 (jk::jk::.one (.p (.sl (ls fZ (mW n c k))))::.raw (.int .i64 ((n-k-1:Nat):Int))::rN q.i::j16 (j4 (jk::[])))))))))),Hm [(11,[⟨2,1,lc fI (aN q.i fun b=>bk c k k (k+(b+1)))⟩]),(19,XR 19 B n (n+1) k (ae n 0) (aN (n+1) (dk c)) (fd n c k))]⟩) (fun q=>n-k-1-q.i) ⟨0,by omega⟩ ?_ ?_
   ·refine(dZ (k:=11) (d:=11) 2 1 (by omega) rfl rfl).trans (aj ⟨rfl,rfl,trivial⟩ ?_);simp[wk]
   rintro⟨b,L⟩;simp only;by_cases F:b<n-k-1
   ·have t:=Ek (bk c k k (k+(b+1))) (h.b k (k+(b+1)) r (by omega));have w:(mW n c k)[b]?=some (bk c k k (k+(b+1))):=aw _ F;have m:=aI b (fun b=>bk c k k (k+(b+1)));refine ar (k:=be rfl (ai (am (aL w (k:=Nj [⟨2,_,_,_,t⟩] (aH m @wK) (k:=bS (k:=?_)))))));refine⟨⟨b+1,by omega⟩,by grind,aj ⟨?_,rfl,trivial⟩ ?_⟩
    ·rw[jS b];rfl
    simp[wk]
   have u:b=n-k-1:=by omega
   subst u;refine ar (k:=bv rfl ?_);show bf _ _ _ _;refine bf.weak (bD 11 (bO rfl)) ?_;simp only[aaI,aaY,ew,dF];refine eK (aH @aaz (aH C @oz)) (k:=bS (k:=?_));refine⟨⟨k+1,by omega⟩,by grind,aj ⟨?_,trivial⟩ ?_⟩
   ·rw[<- zr n c k];rfl
   simp[wk]
  have A:k=n:=by omega
  subst A;refine ar (k:=bv rfl (bC (k:=?_)));refine aW ⟨.inr rfl,_,bG.refl _,?_⟩;refine⟨.one (.ptr 19 0 0 0),19,?_,rfl,?_,rfl⟩
  ·simp(disch:=omega) only[kd,results130]
  grind [UE]
 intro j y g R
 match j with
 |0=>injection g with g;subst g;rfl
 |1=>injection g with g;subst g;rfl
 |2=>injection g with g;subst g;rfl
 |3=>omega
 |j+4=>simp at g
section
variable {n:Nat}
def uY:Nat->Nat
 |0=>0
 |m+1=>4*uY m+2147483648
theorem Ce: ∀{a b:Nat},a<=b->uY a<=uY b:=by
 intro a b h
 induction b with
 |zero=>grind
 |succ b c=>
  grind [uY]
theorem ZW (h:n<=7):uY n<=11727408201728:=aap (Ce h) (by decide)
theorem Ui {m:Nat} (h:m<=8):uY m<=46911780290560:=aap (Ce h) (by decide)
def o8 (y:List Int):Prop:= ∀i,i<y.length->(y.getD i 0).natAbs<=uY (y.length-i)
theorem o8.nil:o8 []:=fun i h=>by simp at h
theorem o8.cons (h:o8 b) (e:x.natAbs<=uY (b.length+1)):o8 (x::b):=fun i f=>by
 cases i with
 |zero=>exact e
 |succ i=>
  rw[List.getD_cons_succ,aaP,Nat.add_sub_add_right];exact h i (by grind)
theorem o8.at_ (h:o8 b) (i:Nat):(b.getD i 0).natAbs<=uY b.length:=by
 by_cases c:i<b.length
 ·exact aap (h i c) (Ce (by omega))
 grind
structure oS (n:Nat) (f:FF) (B:Int):Prop where
 r:RedR f n
 n8:n<=8
 b0:0<=B
 b1:B<=1073741824
def tX (f:FF) (k:Nat) (y:List Int) (m:Nat):Int:=smF (fun b=>bk f k k (k+(b+1))*y.getD b 0) m
def pT (f:FF) (n:Nat) (B:Int) (k:Nat) (x:Nat->Int):Int:=B*dk f k-BF n (bk f k) x x
theorem oN (f:FF) {k:Nat} (c:b.length+(k+1)=n):tX f k b b.length=uS f n k (aY n b):=by
 rw[<- Xg f c,sB _ _ _ (aar _)];rfl
section
variable {f:FF} {B:Int} (hv:oS n f B)
include hv
theorem oS.d {k:Nat} (b:k<=n):0<dk f k/\dk f k<65536:=by
 cases k with
 |zero=>rw[cu];omega
 |succ k=>exact⟨hv.r.2.1 k (by omega),lE (by omega) hv.n8 hv.r k (by omega)⟩
theorem oS.sized {k j:Nat} (g:k<j) (b:j<n):2*(bk f k k j).natAbs<=(dk f (k+1)).toNat:=by
 have e:=hv.d (k:=k+1) (by omega);have c:=(hv.r.2.2.2 k (by omega)).1 j b (by omega);rw[jo hv.r.1 k (by omega) (fun t h=>by have:=hv.r.2.1 t (by omega);omega) k j (by omega) b];omega
theorem oS.shP_bd {k:Nat} (p:b.length+(k+1)=n) (e:o8 b) {m:Nat} (q:m<=b.length):(tX f k b m).natAbs<=(dk f (k+1)).toNat*(4*uY b.length):=by
 have r:=hv.n8;refine aap (uT (B:=(dk f (k+1)).toNat/2*uY b.length) m fun c o=>?_) ?_
 ·rw[abk];have:=hv.sized (k:=k) (j:=k+(c+1)) (by omega) (by omega);exact aaT (by omega) (e.at_ c)
 have g:m*((dk f (k+1)).toNat/2*uY b.length)<=8*((dk f (k+1)).toNat/2*uY b.length):=aav _ (by omega);have h:8*((dk f (k+1)).toNat/2*uY b.length)=(8*((dk f (k+1)).toNat/2))*uY b.length:=(ab8 _ _ _).symm;have l:(8*((dk f (k+1)).toNat/2))*uY b.length<=(4*(dk f (k+1)).toNat)*uY b.length:=aav _ (by omega);grind
theorem oS.shP_c {k:Nat} (c:b.length+(k+1)=n) (g:o8 b) {m:Nat} (e:m<=b.length): -3074285718752788480<=tX f k b m/\tX f k b m<=3074285718752788480:=by
 have h:=hv.shP_bd c g e;have l:=hv.d (k:=k+1) (by omega);have o:=hv.n8;have j:=aaT (show(dk f (k+1)).toNat<=65535 by omega) (show 4*uY b.length<=46909632806912 by grind [ZW]);omega
theorem oS.rs0 {k:Nat} (c:k<=n) {x:Nat->Int} (g:gM f n B k x):0<=pT f n B k x/\pT f n B k x<=70368744177664:=by
 have b:=hv.r.pd;have h:=hv.d c;have j:=(jU b.1 b.2 x (n-k) k (by omega)).1;have e:B*dk f k<=1073741824*65536:=aa7 hv.b1 (by omega) (by omega) (by omega);grind [pT,gM]
theorem oS.sq {k:Nat} (c:k<n) {x:Nat->Int} (b:gM f n B (k+1) x):0<=mK f n B k x/\mK f n B k x<=4611686018427387904:=by
 have e:=hv.rs0 c b;have h:=hv.d (k:=k) (by omega);refine⟨Af hv.r.pd c b,?_⟩;show dk f k*pT f n B (k+1) x<=_;have g:dk f k*pT f n B (k+1) x<=65536*70368744177664:=aa7 (by omega) e.2 e.1 (by omega);omega
theorem oS.lohi {k:Nat} (j:b.length+(k+1)=n) (v:o8 b) (o:gM f n B (k+1) (aY n b)):
  (eB f n B k (aY n b)).natAbs<=uY (b.length+1)/\(fC f n B k (aY n b)).natAbs<=uY (b.length+1)/\0<=fC f n B k (aY n b)-eB f n B k (aY n b)+1:=by
 have z:=hv.d (k:=k+1) (by omega);have c:=hv.sq (k:=k) (by omega) o;have A:=nE c.1 c.2;have t:=hv.shP_bd j v (aar _);rw[oN f j]at t;have s:uY (b.length+1)=4*uY b.length+2147483648:=rfl;rw[s];unfold eB fC;generalize isqF (mK f n B k (aY n b))=r at*
 generalize uS f n k (aY n b)=l at*
 have e:dk f (k+1)=(((dk f (k+1)).toNat:Nat):Int):=by omega
 rw[e];generalize(dk f (k+1)).toNat=D at*
 have m:0<D:=by omega
 have g: ∀u:Int,(u.natAbs<=2147483648+D*(4*uY b.length))->(u/(D:Int)).natAbs<=4*uY b.length+2147483648:=fun u C=>Ww m (by
  grind)
 have w:=g (r+l) (by omega);have x:=g (r-l) (by omega);refine⟨by omega,by omega,?_⟩;have E:=abZ (r+l) (show(0:Int)<(D:Int) by omega);have F:=abZ (r-l) (show(0:Int)<(D:Int) by omega);generalize(r+l)/(D:Int)=p at*
 generalize(r-l)/(D:Int)=q at*
 refine ab9 fun h=>?_
 have G:(p+1+(q+1))*(D:Int)<=0*(D:Int):=abi (by omega) (by omega);grind
theorem oS.step {k:Nat} (m:b.length+(k+1)=n) {c:Int} (o:gM f n B (k+1) (aY n b)) (g:eB f n B k (aY n b)<=c) (l:c<=fC f n B k (aY n b)):
  gM f n B k (aY n (c::b))/\mK f n B k (aY n b)-(dk f (k+1)*c+uS f n k (aY n b))*(dk f (k+1)*c+uS f n k (aY n b))=dk f (k+1)*pT f n B k (aY n (c::b)):=by
 have e:=hv.r.pd;have j: ∀i,k<i->i<n->aY n (c::b) i=aY n b i:=fun i g _=>EJ m g
 have p:aY n (c::b) k=c:=EK m;have h:=(gM.tail e (k:=k+1) (by omega) (x':=aY n b) (fun i g l=>j i (by omega) l)).2 o;refine⟨(zi e (by omega) h).2 ?_,?_⟩
 ·grind [I7,I0]
 rw[<- B9 (B:=B) e (show k<n by omega) j,<- BZ j];have key:=lX e.1 e.2 (aY n (c::b)) (show k<n by omega);grind [zY,mK,pT]
end
/-! The walk. -/
section
variable {γ:Type} (yd:Nat->Int->γ->γ×Bool)
def lpM (b:Int->γ->γ×Bool):Nat->Int->γ->γ×Bool
 |0,_,g=>(g,true)
 |m+1,x,g=>match b x g with
  |(c,true)=>lpM b m (x+1) c
  |(c,false)=>(c,false)
noncomputable def jw (f:FF) (n:Nat) (B:Int):Nat->List Int->γ->γ×Bool
 |0,y,g=>yd n (fC f n B 0 (aY n y)-eB f n B 0 (aY n y)+1) g
 |k+1,y,g=>match yd (n-(k+1)) (fC f n B (k+1) (aY n y)-eB f n B (k+1) (aY n y)+1) g with
  |(b,true)=>lpM (fun c=>jw f n B k (c::y)) (fC f n B (k+1) (aY n y)-eB f n B (k+1) (aY n y)+1).toNat (eB f n B (k+1) (aY n y)) b
  |(b,false)=>(b,false)
theorem OO {e:γ->Prop} {b:Int->γ->γ×Bool} (j: ∀c g,e g->(b c g).2=true->e (b c g).1): ∀(m:Nat) (x:Int) (g:γ),e g->(lpM b m x g).2=true->e (lpM b m x g).1
 |0,_,_,f,_=>f
 |m+1,x,g,f,h=>by
  have k:=j x g f;unfold lpM at h⊢;generalize b x g=r at*
  obtain⟨l,t⟩:=r;cases t with
  |true=>exact OO j m _ _ (k rfl) h
  |false=>cases h
theorem Re {lv:γ->Prop} (b: ∀m c g,lv g->(yd m c g).2=true->lv (yd m c g).1) (f:FF) (n:Nat) (B:Int): ∀(k:Nat) (y:List Int) (g:γ),lv g->(jw yd f n B k y g).2=true->lv (jw yd f n B k y g).1
 |0,y,g,e,h=>b _ _ g e h
 |k+1,y,g,e,h=>by
  have q:=b (n-(k+1)) (fC f n B (k+1) (aY n y)-eB f n B (k+1) (aY n y)+1) g e;unfold jw at h⊢;generalize yd (n-(k+1)) (fC f n B (k+1) (aY n y)-eB f n B (k+1) (aY n y)+1) g=r at*
  obtain⟨j,t⟩:=r;cases t with
  |true=>exact OO (fun c g e h=>Re b f n B k (c::y) g e h) _ _ _ (q rfl) h
  |false=>cases h
end
end
end Go.Proofs.YtalmoejhjceflaaGreat
