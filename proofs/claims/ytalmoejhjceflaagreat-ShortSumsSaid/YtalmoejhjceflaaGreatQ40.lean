/-
  Part 41 of a proof (walks and plain facts).
-/
import Derived.Test.YtalmoejhjceflaaGreatQ39
set_option linter.all false
set_option maxRecDepth 100000
set_option maxHeartbeats 64000000
open Nat renaming reduceAdd → aa
open Nat renaming reduceEqDiff → ab
open List renaming replicate → ae
namespace Go.Proofs.YtalmoejhjceflaaGreat
open Go.RowKit Go.Proofs.Tryz
variable {b:List Int} {n:Nat} {x:Int} {c:Nat->Int} {e:FF}
theorem abs (h:I64 x):ky x= .tup [(false,[.p (.raw (.int .i64 x))]),(false,[.p (.raw (.bool true))])]:=if_pos h
theorem I64.bg (h:I64 x):Bg x:=(h.sz (acs 2)).mono (by omega)
theorem VO {H:OH} {a:Nat} {f g:OObj} (h:H a=[f,g]) (n: ∀e∈f.elems,∀x∈e,isPure x=true\/ ∃c len,x= .sl a 1 c len) (j:eB g):xG H a:=fun r o b e l x m=>by
 rw[h]at b
 match r with
 |0=>
  grind
 |1=>
  injection b with b
  subst b;exact .inl (j e l x m)
 |r+2=>simp at b
theorem Ht (z:Int) (h:I64 z):CallC prog 188 [tZ z] ⟨[],.raw (.int .i64 z)⟩:=by
 have b:=GF z h.bg;rw[abs h]at b;refine ax func188 rfl ntmps188 (aA (k:=bj [⟨1,_,_,_,b⟩] (k:=bi (k:=aE @results188))))
theorem W2 (n:Nat) (f:FF) (b:1<=n) (l:n<=16) (m:NzP n f) (t: ∀i j,i<n->j<n->I64 (f i j)):
  CallC prog 187 [cw (mat n n f)] ⟨[],.agg [.p (.sl (ls fM (xv n f n))),.p (.sl (ls fZ (aN (n+1) (dk f))))]⟩:=by
 have y:=xk n n f b l b l t;have r:=Fx n f b l fun i j u z=>(t i j u z).sz (by omega)
 rw[Bl m]at r;have w:=zT 1 (by omega) (by omega);have h:=vg n f n;have o: ∀k,k<n->(xv n f n)[k]?=some (N5 n f k):=fun k A=>by simp[xv,A]
 have C:[[AV.p (.raw (.bool (decide ((1:Int)<0)))),.p (.sl (ls fU (au (Int.natAbs 1))))]]=lc fZ (aN 1 (dk f)):=by
  rfl
 refine ax func187 rfl ntmps187 (aA (k:=dU [⟨1,_,_,_,y⟩] @UL.eq_1 (k:=bj [⟨1,_,_,_,r⟩] (k:=?_))));refine ia 5 [⟨1,_,_,_,w⟩] [22] (by simp[wk]) (by decide) fun _ K=>?_;simp(disch:=omega) only[kd,tZ,aa,Nat.reduceMul,Nat.reduceLeDiff,ab];apply K
 refine⟨_,(nf 7 22 900 rfl rfl rfl (by simp[eB,isPure]) (by simp[eB,isPure]) (by omega) (by omega) (by omega)),by simp[wk],?_⟩;simp only[acA,acT,Oj,aeK,oW,gW,rY];intro _ K;simp(disch:=omega) only[kd,tZ,ab,aa];apply K;refine ai (dR h (k:=?_));refine ay (G:=fY n) (fun q=>⟨(jk::jk::.one (.ptr 2 0 0 0)::j4 (.one (.ptr 900 0 0 0)::j16 (.one (.p (.sl (ls fM (xv n f n))))::rN n::rN q.i::j4 (j4 (j4 (jk::jk::jk::[])))))),Hm [(2,[⟨224,2,[[.p (.raw (.slice none 0 0)),.p (.raw (.slice none 0 0))]]⟩]),(900,[⟨224,2,[[.p (.sl (ls fM (xv n f n))),.sl 900 1 0 (q.i+1)]]⟩,⟨65,2,lc fZ (aN (q.i+1) (dk f))⟩])]⟩) (fun q=>n-q.i) ⟨0,by omega⟩ ?_ ?_
 ·refine aj ⟨rfl,?_,trivial⟩ ?_
  ·rfl
  simp[wk]
 rintro⟨i,u⟩;simp only;by_cases B:i<n
 ·have D:=o i B;have E:=bD (n-i) (elF f i) (show 0<n-i by omega);have F:=aB (elF f i 0) (show 0<n-i by omega);have c:=aD (i+1) (dk f);refine ar (k:=aV rfl (ai (am (aH (aC D @fM.eq_1) (k:=pQ (aC E (aC F (aC @np (aC c @nw)))) (k:=bu (k:=?_)))))));refine⟨⟨i+1,by omega⟩,by grind,aj ⟨rfl,?_,trivial⟩ ?_⟩
  ·rw[j7 (i+1)];rfl
  simp[wk]
 have g:i=n:=by omega
 subst g;have c:=aD (i+1) (dk f);refine ar (k:=aW rfl ?_);show bA _ _ _ _;refine ia 1 [] [] (by simp[wk]) (by decide) fun _ K=>?_;simp only[kd,ab,aa];apply K
 refine⟨_,bF 900 (VO rfl (fun e s x v=>?_) (bL _ _ _)),by simp[wk],?_⟩
 ·simp only[aco]at s;subst s;simp only[acR,ado,or_false]at v;rcases v with rfl|rfl
  ·exact .inl rfl
  simp
 simp only[acA,acT,fk,dP];intro _ K;simp(disch:=omega) only[kd,ab,aa];apply K
 (refine aQ ⟨.inr rfl,b8 rfl ?_ rfl⟩;simp(disch:=omega) only[kd,results187,ab,aa])
 grind
def pC (n:Nat) (f:FF) (k:Nat):List Int:=aN (n-k-1) fun b=>bk f k k (k+(b+1))
def gy (n:Nat) (f:FF) (j:Nat):List (List Int):=(List.range j).map (pC n f)
theorem CC (n:Nat) (f:FF) (j:Nat):gy n f j++[pC n f j]=gy n f (j+1):=by simp[gy,ade]
theorem nt (n:Nat) (f:FF) (j:Nat):(gy n f j).length=j:=by simp[gy]
theorem Sa {j k:Nat} (f:FF) (h:k<j):(gy n f j)[k]?=some (pC n f k):=by simp[gy,h]
abbrev wkO (a:Nat) (B:Int) (n i j:Nat) (c b:List Int) (L:List (List Int)):List OObj:=[⟨222,4,[[.p (.raw (.int .i64 B)),.sl a 2 0 i,.sl a 3 0 j,.sl a 1 0 n]]⟩,⟨2,1,lc fI c⟩,⟨2,1,lc fI b⟩,⟨35,1,lc (fR fI) L⟩]
theorem XZ (a d:Nat) (B:Int) (n i j:Nat) (c b:List Int) (L:List (List Int)):(wkO a B n i j c b L).map (renO d)=wkO d B n i j c b L:=by
 simp_all[renO,b6,gT]
structure WkH (n:Nat) (f:FF):Prop where
 n1:1<=n
 n16:n<=16
 nz:NzP n f
 i: ∀i j,i<n->j<n->I64 (f i j)
 d: ∀k,k<=n->I64 (dk f k)
 b: ∀k j,k<n->j<n->I64 (bk f k k j)
theorem ZU (n:Nat):ae n [AV.p (.raw (.int .i64 0))]=lc fI (ae n 0):=by simp[lc,fI]
theorem OG (h:WkH n e) (B:Int):
  CallC prog 130 [cw (mat n n e),.raw (.int .i64 B)] ⟨wkO 0 B n (n+1) n (ae n 0) (aN (n+1) (dk e)) (gy n e n),.one (.ptr 0 0 0 0)⟩:=by
 have N:=W2 n e h.n1 h.n16 h.nz h.i;have Q:=h.n1;have X:=h.n16;have H:=aU n n e;have D:=vg n e n;have v:=aD (n+1) (dk e);refine ax func130 rfl ntmps130 (aA (k:=?_));refine ai (Nu 5 19 17 3 (e:=222) (cs:=[.p (.raw (.int .i64 B)),.p (.raw (.slice none 0 0)),.p (.raw (.slice none 0 0)),.sl 17 0 0 n]) (ob:=⟨2,1,lc fI (ae n 0)⟩) (len:=n) [] [] ?_ (fun c O x S=>bL _ _ _ c O x S) (by omega) (by decide) fun K o=>?_)
 rotate_left 1
 ·simp(disch:=omega) only[kd,aa,H,Nat.reduceLeDiff];refine o _ ⟨⟨⟨_,_,rfl,rfl,rfl,rfl,rfl⟩,rfl,congrArg (fun l=>[OObj.mk _ 1 l]) (ZU n),rfl⟩,?_⟩;clear o K;intro K o;simp only[kd,aa,Zt];apply o;clear o K;refine bA.weak ((ng 19 0 0 1 2 1 (by omega) rfl rfl rfl).trans (ng 19 0 0 2 35 1 (by omega) rfl rfl rfl)) ?_;refine bE [⟨1,_,_,_,N⟩] (k:=ai (ar (k:=?_)));refine ay (G:=fY (n+1)) (fun q=>⟨(j4 (jk::.one (.ptr 19 0 0 0)::.one (.ptr 6 0 0 0)::j16 (.one (.p (.sl (ls fZ (aN (n+1) (dk e)))))::.raw (.int .i64 ((n+1:Nat):Int))::rN q.i::j16 (j16 (j16 (jk::[])))))),Hm [(6,[⟨224,2,[[.p (.sl (ls fM (xv n e n))),.p (.sl (ls fZ (aN (n+1) (dk e))))]]⟩]),(19,wkO 19 B n q.i 0 (ae n 0) (aN q.i (dk e)) [])]⟩) (fun q=>n+1-q.i) ⟨0,by omega⟩ ?_ ?_
  ·refine aj ⟨rfl,rfl,trivial⟩ ?_;simp[wk,v]
  rintro⟨i,V⟩;simp only;by_cases r:i<n+1
  ·have t:=Ht (dk e i) (h.d i (by omega));have w:=aB (dk e) r;have m:=aD i (dk e);refine ar (k:=aV rfl (ai (am (aH w (k:=eQ [⟨6,_,_,_,t⟩] (aC m @qb) (k:=bu (k:=?_)))))));refine⟨⟨i+1,by omega⟩,by grind,aj ⟨rfl,?_,trivial⟩ ?_⟩
   ·rw[j7 i];rfl
   simp[wk]
  have z:i=n+1:=by omega
  subst z;refine ar (k:=aW rfl (ai (dR D (k:=?_))));refine ay (G:=fY n) (fun q=>⟨(j4 (jk::.one (.ptr 19 0 0 0)::j16 (j16 (j4 (.one (.p (.sl (ls fM (xv n e n))))::rN n::rN q.i::j16 (j4 (j4 (j4 (jk::jk::[]))))))))),Hm [(19,wkO 19 B n (n+1) q.i (ae n 0) (aN (n+1) (dk e)) (gy n e q.i))]⟩) (fun q=>n-q.i) ⟨0,by omega⟩ ?_ ?_
  ·refine aj ⟨rfl,trivial⟩ ?_;simp[wk]
  rintro⟨k,W⟩;simp only;by_cases r:k<n
  ·have I:(xv n e n)[k]?=some (N5 n e k):=by simp[xv,r]
   have T:=bD (n-k) (elF e k) (show 0<n-k by omega);have U:=aD (n-k) (elF e k 0);have M:=aU (n-k) (n-k) (elF e k);have J:List.drop 1 (List.take (n-k) (aN (n-k) (elF e k 0)))=pC n e k:=by
    rw[ack (by omega)];show _=aN _ _;apply acz;intro b;rw[adq];by_cases L:b<n-k-1
    ·rw[aB _ (by omega),aB _ L,adN 1 b];rfl
    grind [aD]
   have C:=nt n e k;have E:(pC n e k).length=n-k-1:=aD _ _;refine ar (k:=aV rfl (ai (am (aH (aC I @fM.eq_1) (k:=bi (k:=?_))))));have s:1<=n-k:=by omega
   have P:=aD (n-k-1) (fun b=>bk e k k (k+(b+1)));refine ai (aH (aC T (aC U (aC s (aC (dW oF) (aC J E))))) (k:=?_));refine ay (G:=fY (n-k-1)) (fun q=>⟨(j4 (jk::.one (.ptr 19 0 0 0)::j4 (jk::.one (.sl 11 0 0 q.i)::j16 (j4 (j4 (j4 (jk::jk::.one (.p (.sl (ls fM (xv n e n))))::rN n::rN k::j4 (jk::jk::.one (.p (.sl (ls fZ (pC n e k))))::.raw (.int .i64 ((n-k-1:Nat):Int))::rN q.i::j16 (j4 (jk::[])))))))))),Hm [(11,[⟨2,1,lc fI (aN q.i fun b=>bk e k k (k+(b+1)))⟩]),(19,wkO 19 B n (n+1) k (ae n 0) (aN (n+1) (dk e)) (gy n e k))]⟩) (fun q=>n-k-1-q.i) ⟨0,by omega⟩ ?_ ?_
   ·refine(cz (k:=11) (d:=11) 2 1 (by omega) rfl rfl).trans (aj ⟨rfl,rfl,trivial⟩ ?_);simp[wk]
   rintro⟨b,L⟩;simp only;by_cases F:b<n-k-1
   ·have t:=Ht (bk e k k (k+(b+1))) (h.b k (k+(b+1)) r (by omega));have w:(pC n e k)[b]?=some (bk e k k (k+(b+1))):=aB _ F;have m:=aD b (fun b=>bk e k k (k+(b+1)));refine ar (k:=aV rfl (ai (am (aH w (k:=vU [⟨2,_,_,_,t⟩] (aC m @qb) (k:=bu (k:=?_)))))));refine⟨⟨b+1,by omega⟩,by grind,aj ⟨?_,rfl,trivial⟩ ?_⟩
    ·rw[j7 b];rfl
    simp[wk]
   have u:b=n-k-1:=by omega
   subst u;refine ar (k:=aW rfl ?_);show bA _ _ _ _;refine bA.weak (bF 11 (bf rfl)) ?_;simp only[acA,acT,fk,dP];refine dF (aC @ack (aC C @lH)) (k:=bu (k:=?_));refine⟨⟨k+1,by omega⟩,by grind,aj ⟨?_,trivial⟩ ?_⟩
   ·rw[<- CC n e k];rfl
   simp[wk]
  have A:k=n:=by omega
  subst A;refine ar (k:=aW rfl (bi (k:=?_)));refine aQ ⟨.inr rfl,_,bJ.refl _,?_⟩;refine⟨.one (.ptr 19 0 0 0),19,?_,rfl,?_,rfl⟩
  ·simp(disch:=omega) only[kd,results130]
  grind [XZ]
 intro j y g R
 match j with
 |0=>injection g with g;subst g;rfl
 |1=>injection g with g;subst g;rfl
 |2=>injection g with g;subst g;rfl
 |3=>omega
 |j+4=>simp at g
theorem uZ {F:Nat->Int} {B:Nat}: ∀k,(∀p,p<k->(F p).natAbs<=B)->(bW F k).natAbs<=k*B
 |0,_=>by simp[bW]
 |k+1,h=>by
  have b:=uZ k fun p c=>h p (by omega)
  grind [bW]
section
variable {n:Nat}
theorem rl {F:Nat->Int} {k:Nat} (h: ∀i,i<k->F i=0): ∀m,bW F (k+m)=bW (fun a=>F (k+a)) m
 |0=>by
  rw[ac9,aO k (G:=fun _=>0) h,dV];rfl
 |m+1=>by rw[<- aeU,bW,bW,rl h m]
theorem lC {m:Nat} (g:Nat->Int) (y:List Int): ∀l,l<=m->dt (aN m g) y l=bW (fun b=>g b*y.getD b 0) l
 |0,_=>rfl
 |l+1,h=>by
  show dt (aN m g) y l+(aN m g).getD l 0*y.getD l 0=_;rw[lC g y l (by omega),acm,aB _ (by omega)];rfl
theorem KM {k a:Nat} (c:b.length+(k+1)=n):aJ n b (k+1+a)=b.getD a 0:=by
 grind [aJ]
theorem Ig {k i:Nat} (e:b.length+(k+1)=n) (c:i<k+1):aJ n (0::b) i=0:=by
 grind [aJ]
def ec (f:FF) (k:Nat):Nat->Nat->Int:=fun a b=>bk f k (k+a) (k+b)
theorem Ky (f:FF) {k:Nat} (g:b.length+(k+1)=n):dt (aN b.length fun j=>ec f k 0 (j+1)) b b.length=jb f n k (aJ n b):=by
 rw[lC _ _ _ (acs _),jb,show n=k+1+b.length by omega,rl fun i e=>if_pos (by omega)];refine aO _ fun a c=>?_
 rw[if_neg (by omega),KM (by omega)];show bk f k (k+0) (k+(a+1))*_=_;grind
def AD (g:FF) (y:List Int):Nat->Int
 |0=>0
 |i+1=>AD g y i+y.getD i 0*dt (aN y.length fun j=>g (i+1) (j+1)) y y.length
theorem S8 (g:FF) (y:List Int): ∀i,AD g y i=bW (fun a=>y.getD a 0*dt (aN y.length fun j=>g (a+1) (j+1)) y y.length) i
 |0=>rfl
 |i+1=>by rw[AD,bW,S8 g y i]
theorem aan (f:FF) {k:Nat} (g:b.length+(k+1)=n):AD (ec f k) b b.length=BF n (bk f k) (aJ n (0::b)) (aJ n (0::b)):=by
 have l: ∀a,aJ n (0::b) (k+1+a)=b.getD a 0:=fun a=>by rw[iI g (by omega),KM g]
 have e: ∀i,bW (fun j=>bk f k i j*aJ n (0::b) j) n=bW (fun c=>bk f k i (k+1+c)*b.getD c 0) b.length:=fun i=>by
  rw[show n=k+1+b.length by omega,rl fun j h=>by grind [Ig]];grind
 rw[S8];unfold BF;rw[aO n (G:=fun i=>aJ n (0::b) i*bW (fun c=>bk f k i (k+1+c)*b.getD c 0) b.length) fun i _=>by rw[e]];rw[show n=k+1+b.length by omega,rl fun j h=>by grind [Ig]];refine aO _ fun a _=>?_
 rw[show k+1+b.length=n by omega,l,lC _ _ _ (acs _)]
 congr 1
 refine aO _ fun c _=>?_
 show bk f k (k+(a+1)) (k+(c+1))*_=_;grind
theorem LZ (c:PD e n) {k:Nat} (g:b.length+(k+1)=n) (B:Int):
  jb e n k (aJ n b)*jb e n k (aJ n b)-dk e (k+1)*(AD (ec e k) b b.length-B*dk e k)=fH e n B k (aJ n b):=by
 have h: ∀i,k<i->i<n->aJ n (0::b) i=aJ n b i:=fun i j _=>iI g j
 rw[aan e g,<- yk (B:=B) c (show k<n by omega) h,<- yh h];have key:=lN c.1 c.2 (aJ n (0::b)) (show k<n by omega);grind [wA,jD,fH]
def UR:Nat->Nat
 |0=>0
 |m+1=>4*UR m+67108864
theorem Rl {M:Nat} (f:0<n) (h:x.natAbs<=n*M):(x/(n:Int)).natAbs<=M:=by
 have e:((n*M:Nat):Int)=(M:Int)*(n:Int):=by grind
 have b:x/(n:Int)<(M:Int)+1:=Int.ediv_lt_of_lt_mul (by omega) (by grind);have c: -(M:Int)<=x/(n:Int):=agm (by omega) (by grind);omega
theorem V9 (m:RedR e n) (W:n<=4) (Q:0<=x) (G:x<=262144) {k:Nat} (s:k<n) (C:fj e n x (k+1) c) {T:Nat} (N: ∀j,k<j->j<n->(c j).natAbs<=T):
  (b9 e n x k c).natAbs<=4*T+67108864/\(cq e n x k c).natAbs<=4*T+67108864:=by
 have o:=m.pd;have V:=m.2.1 k s;have I:=eZ (by omega) (by omega) m k s;have U:0<dk e k/\dk e k<65536:=by
  cases k with
  |zero=>rw[ce];omega
  |succ k=>exact⟨m.2.1 k (by omega),eZ (by omega) (by omega) m k (by omega)⟩
 have K:=(im o.1 o.2 c (n-(k+1)) (k+1) (by omega)).1;have p:=nR o s C;have A:fH e n x k c<=1125899906842624:=by
  unfold fH;generalize BF n (bk e (k+1)) c c=q at*
  generalize dk e (k+1)=d at*
  generalize dk e k=b at*
  have R:x*d<=262144*65536:=acZ G (by omega) (by omega) (by omega);have S:b*(x*d-q)<=b*(262144*65536):=acw (by omega) (by omega);omega
 obtain⟨y,z,_⟩:=de p;have L:isqF (fH e n x k c)<=33554432:=ad7 fun h=>by
  have:=acZ (show 33554433<=isqF (fH e n x k c) by omega) (show 33554433<=isqF (fH e n x k c) by omega) (by omega) y;omega
 have F:(jb e n k c).natAbs<=n*((dk e (k+1)).toNat*T):=by
  refine uZ n fun j v=>?_
  by_cases w:j<=k
  ·omega
  rw[if_neg w,adt];have M:=(m.2.2.2 k (by omega)).1 j v (by omega);rw[iO o.1 k (by omega) (fun t X=>by have:=o.2 t (by omega);omega) k j s v];exact acU (by omega) (N j (by omega) v)
 have J:(jb e n k c).natAbs<=(dk e (k+1)).toNat*(4*T):=by
  refine acl F ?_;simp_all[acu,afl]
 unfold b9 cq;generalize isqF (fH e n x k c)=r at*
 generalize jb e n k c=l at*
 clear p A z F C K;have g:dk e (k+1)=(((dk e (k+1)).toNat:Nat):Int):=by omega
 rw[g];generalize(dk e (k+1)).toNat=D at*
 have H:0<D:=by omega
 have E: ∀u:Int,(u.natAbs<=33554432+D*(4*T))->(u/(D:Int)).natAbs<=4*T+33554432:=fun u Y=>Rl H (by
  grind)
 have O:=E (r+l) (by omega);have P:=E (r-l) (by omega);omega
theorem iG: ∀m,m<=4->UR m<=5704253440
 |0,_=>by decide
 |1,_=>by decide
 |2,_=>by decide
 |3,_=>by decide
 |4,_=>by decide
 |m+5,h=>by omega
def xQ (y:List Int):Prop:= ∀i,i<y.length->(y.getD i 0).natAbs<=UR (y.length-i)
theorem xQ.nil:xQ []:=fun i h=>by simp at h
theorem xQ.cons (h:xQ b) (e:x.natAbs<=UR (b.length+1)):xQ (x::b):=fun i f=>by
 cases i with
 |zero=>exact e
 |succ i=>
  rw[agA,acC,agq];exact h i (by grind)
theorem Na: ∀{a b:Nat},a<=b->UR a<=UR b:=by
 intro a b h
 induction b with
 |zero=>grind
 |succ b c=>
  grind [UR]
theorem xQ.bd (h:xQ b) (z:Int) (e:z∈b):z.natAbs<=UR b.length:=by
 obtain⟨i,c,rfl⟩:=List.mem_iff_getElem.1 e;have:=h i c;rw[acm,acy c]at this;exact acl this (Na (by omega))
theorem j9 (q:RedR e n) (p:n<=4) (g:0<=x) (h:x<=262144) {k:Nat} (o:b.length+(k+1)=n) (r:xQ b) (l:fj e n x (k+1) (aJ n b)):
  (b9 e n x k (aJ n b)).natAbs<=UR (b.length+1)/\(cq e n x k (aJ n b)).natAbs<=UR (b.length+1):=
 V9 q p g h (by omega) l fun j s m=>by
  have c:=KM (a:=j-(k+1)) o;rw[show k+1+(j-(k+1))=j by omega]at c;rw[c];exact acl (r (j-(k+1)) (by omega)) (Na (by omega))
end
section
variable {n:Nat}
def yo:Nat->Nat
 |0=>0
 |m+1=>4*yo m+2147483648
theorem E9: ∀{a b:Nat},a<=b->yo a<=yo b:=by
 intro a b h
 induction b with
 |zero=>grind
 |succ b c=>
  grind [yo]
theorem ab1 (h:n<=7):yo n<=11727408201728:=acl (E9 h) (by decide)
theorem Xw {m:Nat} (h:m<=8):yo m<=46911780290560:=acl (E9 h) (by decide)
def rQ (y:List Int):Prop:= ∀i,i<y.length->(y.getD i 0).natAbs<=yo (y.length-i)
theorem rQ.nil:rQ []:=fun i h=>by simp at h
theorem rQ.cons (h:rQ b) (e:x.natAbs<=yo (b.length+1)):rQ (x::b):=fun i f=>by
 cases i with
 |zero=>exact e
 |succ i=>
  rw[agA,acC,agq];exact h i (by grind)
theorem rQ.at_ (h:rQ b) (i:Nat):(b.getD i 0).natAbs<=yo b.length:=by
 by_cases c:i<b.length
 ·exact acl (h i c) (E9 (by omega))
 grind
structure pJ (n:Nat) (f:FF) (B:Int):Prop where
 r:RedR f n
 n8:n<=8
 b0:0<=B
 b1:B<=1073741824
def xq (f:FF) (k:Nat) (y:List Int) (m:Nat):Int:=bW (fun b=>bk f k k (k+(b+1))*y.getD b 0) m
def sV (f:FF) (n:Nat) (B:Int) (k:Nat) (x:Nat->Int):Int:=B*dk f k-BF n (bk f k) x x
theorem rk (f:FF) {k:Nat} (c:b.length+(k+1)=n):xq f k b b.length=jb f n k (aJ n b):=by
 rw[<- Ky f c,lC _ _ _ (acs _)];rfl
section
variable {f:FF} {B:Int} (hv:pJ n f B)
include hv
theorem pJ.d {k:Nat} (b:k<=n):0<dk f k/\dk f k<65536:=by
 cases k with
 |zero=>rw[ce];omega
 |succ k=>exact⟨hv.r.2.1 k (by omega),eZ (by omega) hv.n8 hv.r k (by omega)⟩
theorem pJ.sized {k j:Nat} (g:k<j) (b:j<n):2*(bk f k k j).natAbs<=(dk f (k+1)).toNat:=by
 have e:=hv.d (k:=k+1) (by omega);have c:=(hv.r.2.2.2 k (by omega)).1 j b (by omega);rw[iO hv.r.1 k (by omega) (fun t h=>by have:=hv.r.2.1 t (by omega);omega) k j (by omega) b];omega
theorem pJ.shP_bd {k:Nat} (p:b.length+(k+1)=n) (e:rQ b) {m:Nat} (q:m<=b.length):(xq f k b m).natAbs<=(dk f (k+1)).toNat*(4*yo b.length):=by
 have r:=hv.n8;refine acl (uZ (B:=(dk f (k+1)).toNat/2*yo b.length) m fun c o=>?_) ?_
 ·rw[adt];have:=hv.sized (k:=k) (j:=k+(c+1)) (by omega) (by omega);exact acU (by omega) (e.at_ c)
 have g:m*((dk f (k+1)).toNat/2*yo b.length)<=8*((dk f (k+1)).toNat/2*yo b.length):=acu _ (by omega);have h:8*((dk f (k+1)).toNat/2*yo b.length)=(8*((dk f (k+1)).toNat/2))*yo b.length:=(ad1 _ _ _).symm;have l:(8*((dk f (k+1)).toNat/2))*yo b.length<=(4*(dk f (k+1)).toNat)*yo b.length:=acu _ (by omega);grind
theorem pJ.shP_c {k:Nat} (c:b.length+(k+1)=n) (g:rQ b) {m:Nat} (e:m<=b.length): -3074285718752788480<=xq f k b m/\xq f k b m<=3074285718752788480:=by
 have h:=hv.shP_bd c g e;have l:=hv.d (k:=k+1) (by omega);have o:=hv.n8;have j:=acU (show(dk f (k+1)).toNat<=65535 by omega) (show 4*yo b.length<=46909632806912 by grind [ab1]);omega
theorem pJ.rs0 {k:Nat} (e:k<=n) (h:fj f n B k c):0<=sV f n B k c/\sV f n B k c<=70368744177664:=by
 have b:=hv.r.pd;have j:=hv.d e;have l:=(im b.1 b.2 c (n-k) k (by omega)).1;have g:B*dk f k<=1073741824*65536:=acZ hv.b1 (by omega) (by omega) (by omega);grind [sV,fj]
theorem pJ.sq {k:Nat} (e:k<n) (b:fj f n B (k+1) c):0<=fH f n B k c/\fH f n B k c<=4611686018427387904:=by
 have g:=hv.rs0 e b;have j:=hv.d (k:=k) (by omega);refine⟨nR hv.r.pd e b,?_⟩;show dk f k*sV f n B (k+1) c<=_;have h:dk f k*sV f n B (k+1) c<=65536*70368744177664:=acZ (by omega) g.2 g.1 (by omega);omega
theorem pJ.lohi {k:Nat} (j:b.length+(k+1)=n) (v:rQ b) (o:fj f n B (k+1) (aJ n b)):
  (b9 f n B k (aJ n b)).natAbs<=yo (b.length+1)/\(cq f n B k (aJ n b)).natAbs<=yo (b.length+1)/\0<=cq f n B k (aJ n b)-b9 f n B k (aJ n b)+1:=by
 have z:=hv.d (k:=k+1) (by omega);have c:=hv.sq (k:=k) (by omega) o;have A:=pZ c.1 c.2;have t:=hv.shP_bd j v (acs _);rw[rk f j]at t;have s:yo (b.length+1)=4*yo b.length+2147483648:=rfl;rw[s];unfold b9 cq;generalize isqF (fH f n B k (aJ n b))=r at*
 generalize jb f n k (aJ n b)=l at*
 have e:dk f (k+1)=(((dk f (k+1)).toNat:Nat):Int):=by omega
 rw[e];generalize(dk f (k+1)).toNat=D at*
 have m:0<D:=by omega
 have g: ∀u:Int,(u.natAbs<=2147483648+D*(4*yo b.length))->(u/(D:Int)).natAbs<=4*yo b.length+2147483648:=fun u C=>Rl m (by
  grind)
 have w:=g (r+l) (by omega);have x:=g (r-l) (by omega);refine⟨by omega,by omega,?_⟩;have E:=aeh (r+l) (show(0:Int)<(D:Int) by omega);have F:=aeh (r-l) (show(0:Int)<(D:Int) by omega);generalize(r+l)/(D:Int)=p at*
 generalize(r-l)/(D:Int)=q at*
 refine ad7 fun h=>?_
 have G:(p+1+(q+1))*(D:Int)<=0*(D:Int):=ac2 (by omega) (by omega);grind
theorem pJ.step {k:Nat} (m:b.length+(k+1)=n) {c:Int} (o:fj f n B (k+1) (aJ n b)) (g:b9 f n B k (aJ n b)<=c) (l:c<=cq f n B k (aJ n b)):
  fj f n B k (aJ n (c::b))/\fH f n B k (aJ n b)-(dk f (k+1)*c+jb f n k (aJ n b))*(dk f (k+1)*c+jb f n k (aJ n b))=dk f (k+1)*sV f n B k (aJ n (c::b)):=by
 have e:=hv.r.pd;have j: ∀i,k<i->i<n->aJ n (c::b) i=aJ n b i:=fun i g _=>iI m g
 have p:aJ n (c::b) k=c:=jD m;have h:=(fj.tail e (k:=k+1) (by omega) (x':=aJ n b) (fun i g l=>j i (by omega) l)).2 o;refine⟨(iY e (by omega) h).2 ?_,?_⟩
 ·grind [mw,ms]
 rw[<- yk (B:=B) e (show k<n by omega) j,<- yh j];have key:=lN e.1 e.2 (aJ n (c::b)) (show k<n by omega);grind [wA,fH,sV]
end
/-! The walk. -/
section
variable {γ:Type} (yd:Nat->Int->γ->γ×Bool)
def lpM (b:Int->γ->γ×Bool):Nat->Int->γ->γ×Bool
 |0,_,g=>(g,true)
 |m+1,x,g=>match b x g with
  |(c,true)=>lpM b m (x+1) c
  |(c,false)=>(c,false)
noncomputable def kX (f:FF) (n:Nat) (B:Int):Nat->List Int->γ->γ×Bool
 |0,y,g=>yd n (cq f n B 0 (aJ n y)-b9 f n B 0 (aJ n y)+1) g
 |k+1,y,g=>match yd (n-(k+1)) (cq f n B (k+1) (aJ n y)-b9 f n B (k+1) (aJ n y)+1) g with
  |(b,true)=>lpM (fun c=>kX f n B k (c::y)) (cq f n B (k+1) (aJ n y)-b9 f n B (k+1) (aJ n y)+1).toNat (b9 f n B (k+1) (aJ n y)) b
  |(b,false)=>(b,false)
theorem Sk {e:γ->Prop} {b:Int->γ->γ×Bool} (j: ∀c g,e g->(b c g).2=true->e (b c g).1): ∀(m:Nat) (x:Int) (g:γ),e g->(lpM b m x g).2=true->e (lpM b m x g).1
 |0,_,_,f,_=>f
 |m+1,x,g,f,h=>by
  have k:=j x g f;unfold lpM at h⊢;generalize b x g=r at*
  obtain⟨l,t⟩:=r;cases t with
  |true=>exact Sk j m _ _ (k rfl) h
  |false=>cases h
theorem Uz {lv:γ->Prop} (b: ∀m c g,lv g->(yd m c g).2=true->lv (yd m c g).1) (f:FF) (n:Nat) (B:Int): ∀(k:Nat) (y:List Int) (g:γ),lv g->(kX yd f n B k y g).2=true->lv (kX yd f n B k y g).1
 |0,y,g,e,h=>b _ _ g e h
 |k+1,y,g,e,h=>by
  have q:=b (n-(k+1)) (cq f n B (k+1) (aJ n y)-b9 f n B (k+1) (aJ n y)+1) g e;unfold kX at h⊢;generalize yd (n-(k+1)) (cq f n B (k+1) (aJ n y)-b9 f n B (k+1) (aJ n y)+1) g=r at*
  obtain⟨j,t⟩:=r;cases t with
  |true=>exact Sk (fun c g e h=>Uz b f n B k (c::y) g e h) _ _ _ (q rfl) h
  |false=>cases h
end
end
end Go.Proofs.YtalmoejhjceflaaGreat
