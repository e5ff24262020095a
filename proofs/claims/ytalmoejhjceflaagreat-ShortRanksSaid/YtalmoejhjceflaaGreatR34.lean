/-
  Part 35 of a proof (walks and plain facts).
-/
import Derived.Test.YtalmoejhjceflaaGreatR33
set_option linter.all false
set_option maxRecDepth 100000
set_option maxHeartbeats 64000000
open List renaming replicate → ae
namespace Go.Proofs.YtalmoejhjceflaaGreat
open Go.RowKit Go.Proofs.Tryz
variable {n:Nat}
abbrev X8:Option (Nat×Nat)->TV
 |some (p,c)=> .tup [(false,[.p (.raw (.int .i64 (p:Int)))]),(false,[.p (.raw (.int .i64 (c:Int)))]),(false,[.p (.raw (.bool true))])]
 |none=> .tup [(false,[.p (.raw (.int .i64 0))]),(false,[.p (.raw (.int .i64 0))]),(false,[.p (.raw (.bool false))])]
theorem PH (p c:Nat):X8 (some (p,c))= .tup [(false,[.p (.raw (.int .i64 (p:Int)))]),(false,[.p (.raw (.int .i64 (c:Int)))]),(false,[.p (.raw (.bool true))])]:=rfl
theorem PG:X8 none= .tup [(false,[.p (.raw (.int .i64 0))]),(false,[.p (.raw (.int .i64 0))]),(false,[.p (.raw (.bool false))])]:=rfl
structure PvI (n k:Nat) (f:FF) (R:Option (Nat×Nat)) where
 i:Nat
 hk:k<=i
 hi:i<=n
 e:pvQ n f k (n-i) i=R
structure Z0 (n k:Nat) (r:Nat->Int) (C:Option Nat) where
 j:Nat
 hk:k<=j
 hj:j<=n
 e:pvC r (n-j) j=C
theorem Tu (n k:Nat) (f:FF) (D:n<=16) (u:k<=n) (x: ∀i j,i<n->j<n->Sz (f i j) 268435456):
  CallC prog 174 [da (mat n n f),.raw (.int .i64 (k:Int))] ⟨[],X8 (pvQ n f k (n-k) k)⟩:=by
 obtain⟨R,r⟩: ∃R,R=pvQ n f k (n-k) k:=⟨_,rfl⟩;rw[<- r];have l:=aT n n f;refine aA func174 rfl ntmps174 (aC (k:=ai (bC (k:=?_))));refine aB (G:=PvI n k f R) (fun g=>⟨(da (mat n n f)::rN k::j4 (jk::rN g.i::j16 (j4 (j4 (j4 (jk::[])))))),Hm []⟩) (fun g=>n-g.i) ⟨k,aar _,u,r.symm⟩ ?_ ?_
 ·refine aj trivial ?_;simp[wk]
 rintro⟨i,A,y,b⟩;simp only;by_cases s:i<n
 ·have m:=bF n f s;have l1:=aI n (f i);have v:IntKind.i64.wrap ((i:Int)+1)=((i+1:Nat):Int):=by rw[aK (by omega) (by omega)];omega
  rw[show n-i=n-(i+1)+1 by omega,pvQ]at b;refine ai (aL l (k:=ay rfl (ak (ai (am (bC (k:=?_)))))));refine aB (G:=Z0 n k (f i) (pvC (f i) (n-k) k)) (fun g=>⟨(da (mat n n f)::rN k::j4 (jk::rN i::rN g.j::j16 (j4 (j4 (j4 ([])))))),Hm []⟩) (fun g=>n-g.j) ⟨k,aar _,u,rfl⟩ ?_ ?_
  ·refine aj trivial ?_;simp[wk]
  rintro⟨j,B,z,e⟩;simp only;by_cases t:j<n
  ·have q:=aw (f i) t;have w:IntKind.i64.wrap ((j:Int)+1)=((j+1:Nat):Int):=by rw[aK (by omega) (by omega)];omega
   have c:=mI (f i j) ((x i j s t).mono (by omega));rw[show n-j=n-(j+1)+1 by omega,pvC]at e;by_cases o:f i j=0
   ·rw[if_pos o]at e;rw[o]at c q;refine ai (aL (aH m l1) (k:=ay rfl (ak (ai (am (cO [⟨7,_,_,_,c⟩] (aH @rz (aH m q)) (k:=aq rfl (ak (jm w (k:=?_))))))))));refine⟨⟨j+1,by omega,by omega,e⟩,by simp only;omega,aj trivial ?_⟩;simp[wk]
   rw[if_neg o]at e;rw[<- e]at b;have b:some (i,j)=R:=b;subst b;have C:=Es o;refine ai (aL (aH m l1) (k:=ay rfl (ak (ai (am (cO [⟨7,_,_,_,c⟩] (aH m q) (k:=ay rfl (bC (k:=aD @results174)))))))))
  have h:j=n:=by omega
  subst h;rw[abC,pvC]at e;rw[<- e]at b;have b:pvQ j f k (j-(i+1)) (i+1)=R:=b;refine ai (aL (aH m l1) (k:=aq rfl (aZ (jm v (k:=?_)))));refine⟨⟨i+1,by omega,by omega,b⟩,by simp only;omega,aj trivial ?_⟩;simp[wk]
 have p:i=n:=by omega
 subst p;rw[abC,pvQ]at b;subst b;refine ai (aL l (k:=aq rfl (aZ (bC (k:=aD @results174)))))
theorem PW {k:Nat} {g:FF} {last:Int} (h:pvQ n g k (n-k) k=none):rkQ n (n-k) k g last=k:=by
 cases b:n-k with
 |zero=>rfl
 |succ m=>rw[rkQ,h]
theorem PX {k p c:Nat} {g:FF} {last:Int} (e:k<n) (h:pvQ n g k (n-k) k=some (p,c)):rkQ n (n-k) k g last=rkQ n (n-(k+1)) (k+1) (MJ k last (exQ p c k g)) (exQ p c k g k k):=by
 have b:n-k=n-(k+1)+1:=by omega
 rw[b,rkQ,h]
theorem Ud (p k:Nat) (g:FF):swp p k g=fun i=>g (mU p k i):=by
 funext i;unfold swp mU;split
 ·rfl
 split<;>rfl
def Dd (c k:Nat) (g:FF) (i:Nat):Nat->Nat->Int:=fun a b=>if a<i then g a (mU c k b)else g a b
theorem Si (c k:Nat) (g:FF) (i a b:Nat):upd (upd (Dd c k g i) i c (g i k)) i k (g i c) a b=Dd c k g (i+1) a b:=by
 unfold upd Dd mU;by_cases h:a=i
 ·subst h;by_cases f:b=k
  ·subst f;by_cases e:b=c
   ·subst e;simp
   simp[e]
  by_cases e:b=c
  ·subst e;simp[f]
  simp[f,e]
 have:a<i+1↔a<i:=by omega
 simp[h,this]
theorem Sj (c k:Nat) (g:FF):Dd c k g 0=g:=by
 funext a b;unfold Dd;rw[if_neg (by omega)]
theorem Wj (c k:Nat) (g:FF) {a b:Nat} (e:a<n):Dd c k g n a b=g a (mU c k b):=by
 unfold Dd;rw[if_pos e]
theorem Qu (d n k:Nat) (b:k<n):((ju d (ae n n)).set k [.sl d (k+1) 0 n]).set k [.sl d (k+1) 0 n]=ju d (ae n n):=by
 rw[List.set_set];apply aaC;intro i;rw[aa3,cJ,aaL];by_cases h:k=i
 ·subst h;rw[if_pos rfl,if_pos b,bU d n b]
 rw[if_neg h]
theorem El (R:Option (Nat×Nat)):oL ⟨[],X8 R⟩:=⟨by cases R<;>rfl,fun o b=>by simp at b⟩
theorem Ss {b:Array Oper} {d:Nat} {R:Option (Nat×Nat)} {s:AS} (c:cwD b n=some d):YG b n ⟨[],X8 R⟩ s=s.put (some d) (X8 R):=by
 unfold YG;rw[c];cases R<;>rfl
structure RkG (n:Nat) (f:FF) where
 k:Nat
 g:Nat->Nat->Int
 last:Int
 b:Nat
 hk:k<=n
 e:rkQ n (n-k) k g last=rkF n f
 hl:last≠0
 hb:b+1<=1025*2^k
 sg: ∀i j,i<n->j<n->Sz (g i j) b
 sl:Sz last b
theorem TC (n:Nat) (f:FF) (t:1<=n) (Y:n<=16) (hf: ∀i j,i<n->j<n->Sz (f i j) 1024):
  CallC prog 124 [da (mat n n f)] ⟨[],.tup [(false,[.p (.raw (.int .i64 (rkF n f:Int)))]),(false,[.p (.raw (.bool true))])]⟩:=by
 have hC:=Fl n n f (by omega) t (by omega) (fun i j r o=>(hf i j r o).mono (by omega));have hS:=fc 1 (by omega) (by omega);have cH:=qc (mat n n f);rw[ig (mA f t Y t Y)]at cH;refine aA func124 rfl ntmps124 (aC (k:=ai (bK [⟨1,_,_,_,cH⟩] (k:=bC (k:=aq rfl (ak (bK [⟨1,_,_,_,hC⟩] (k:=bL [⟨0,_,_,_,hS⟩] (k:=bC (k:=?_))))))))));refine aB (G:=RkG n f) (fun g=>⟨(j4 (jk::jk::jk::.one (.sl 25 0 0 n)::.one (.ptr 8 0 0 0)::rN g.k::j16 (j16 (j16 (j16 (j16 (j16 (j16 (j16 (j4 (j4 (j4 ([]))))))))))))),Hm [(8,qt g.last),(25,gu 25 n n g.g)]⟩) (fun g=>n-g.k) ⟨0,f,1,1024,by omega,rfl,by omega,by omega,hf,mL (by omega)⟩ ?_ ?_
 ·refine aj ⟨?_,?_,trivial⟩ ?_
  ·rfl
  ·exact fk 0 25 n n f
  simp[wk]
 rintro⟨k,g,last,b,hk,I,hl,hb,H,aa⟩;simp only;have ab:=jR (k:=k) (by omega);have ac:b<=67174400:=by omega
 have cP:=Tu n k g Y hk fun i j r o=>(H i j r o).mono (by omega)
 refine ai (am ?_)
 first|refine vw 2 cP (El _) [] [] (by simp[wk]) (by decide) fun K s=>?_|refine ai (vw 2 cP (El _) [] [] (by simp[wk]) (by decide) fun K s=>?_)
 simp only[kd];apply s;clear s K;refine⟨⟨⟨_,rfl,.inr ⟨25,0,0,n,rfl,iK (d:=25) (n:=n) (c:=n) (f:=g) rfl,Rv (d:=25) (n:=n) (c:=n) (f:=g) rfl⟩,.inl ⟨rfl,rfl⟩,trivial⟩,⟨32,rfl,fun _=>rfl⟩⟩,by simp[wk],?_⟩;intro K s;rw[Ss (d:=32) rfl];cases U:pvQ n g k (n-k) k with
 |none=>
  rw[PW U]at I;rw[PG];simp only[kd,Nat.reduceAdd];apply s;clear s K;show bf _ _ _ _;refine ai (bC (k:=ay rfl (bC (k:=?_))));rw[I]
  (refine aW ⟨.inr rfl,bW rfl ?_ rfl⟩;simp(disch:=omega) only[kd,results124])
 |some pc=>
  obtain⟨p,c⟩:=pc;obtain⟨h1,h2,h3,h4,h5⟩:=xp _ _ _ _ U;have e:k<n:=by omega
  rw[PX e U]at I;rw[PH];simp only[kd,Nat.reduceAdd];apply s;clear s K;show bf _ _ _ _;refine ai (bC (k:=aq rfl (ak ?_)));refine ai (l9 (S:=⟨(j4 (jk::jk::jk::.one (.sl 25 0 0 n)::.one (.ptr 8 0 0 0)::rN k::jk::rN c::j16 (j16 (j16 (j16 (j16 (j16 (j16 (j16 (j4 (j4 (jk::jk::[])))))))))))),Hm [(8,qt last),(25,gu 25 n n (swp p k g))]⟩) ?_ ?_)
  ·have m:=bU (n:=n) (i:=p) 25 n (by omega);have g2:=bU (n:=n) (i:=k) 25 n e;by_cases v:p=k
   ·subst v;have T:((ju 25 (ae n n)).set p [.sl 25 (p+1) 0 n])[p]?=some [.sl 25 (p+1) 0 n]:=by
     rw[abA (by rw[cJ,aaL];omega)]
    refine nn (aH m (aH T (Qu 25 n p e))) (k:=?_);rw[x5];refine aj ⟨rfl,rfl,trivial⟩ ?_;simp[wk]
   have T:((ju 25 (ae n n)).set p [.sl 25 (k+1) 0 n])[k]?=some [.sl 25 (k+1) 0 n]:=by
    rw[abq v,g2]
   refine nn (aH g2 (aH m T)) (k:=?_);refine(AC 25 (p+1) (k+1) (gu 25 n n (swp p k g)) (Bs g (by omega) e (acE v))).trans (aj ⟨rfl,rfl,trivial⟩ ?_);simp[wk,Ub,lS,Xx,fp,Vq,Ov,sw]
  have hG:exQ p c k g=fun a b=>swp p k g a (mU c k b):=by rw[Ud];rfl
  have D:exQ p c k g k k≠0:=by
   have:exQ p c k g k k=g p c:=by unfold exQ mU;grind
   rw[this];exact h5
  have l: ∀i j,i<n->j<n->Sz (exQ p c k g i j) b:=fun i j r o=>H _ _ (p7 (by omega) e r) (p7 (by omega) e o)
  have A: ∀a b,a<n->Dd c k (swp p k g) n a b=exQ p c k g a b:=fun a b B=>by rw[Wj c k _ B,hG]
  generalize exQ p c k g=h at*
  generalize swp p k g=m at*
  clear hG;refine ai (bC (k:=?_));refine aB (G:=jx n) (fun q=>⟨(j4 (jk::jk::jk::.one (.sl 25 0 0 n)::.one (.ptr 8 0 0 0)::rN k::jk::rN c::j16 (j16 (j4 (j4 (jk::jk::rN n::rN q.i::j16 (j16 (j16 (j16 (j16 (j4 (j4 (j4 (jk::jk::[])))))))))))))),Hm [(8,qt last),(25,gu 25 n n (Dd c k m q.i))]⟩) (fun q=>n-q.i) ⟨0,by omega⟩ ?_ ?_
  ·rw[Sj];refine aj ⟨rfl,rfl,trivial⟩ ?_;simp[wk]
  rintro⟨i,ad⟩;simp only;by_cases r:i<n
  ·have w:=bU (n:=n) (i:=i) 25 n r;have M:=dS n (Dd c k m i) r;have z:=dS n (upd (Dd c k m i) i c (m i k)) r;have Q:=aw (upd (Dd c k m i) i c (m i k) i) e;have e0:Dd c k m i i=m i:=by funext b;unfold Dd;rw[if_neg (by omega)]
   have O:(aN n (Dd c k m i i))[k]?=some (m i k):=by rw[e0,aw _ e]
   have P:(aN n (Dd c k m i i))[c]?=some (m i c):=by rw[e0,aw _ (by omega)]
   have ei:IntKind.i64.wrap ((i:Int)+1)=((i+1:Nat):Int):=by rw[aK (by omega) (by omega)];omega
   refine ar (k:=be rfl (ai (am (bC (k:=nn (aH w (aH M (aH O (aH P (aH @iL (aH z Q)))))) (k:=jm ei (k:=?_)))))));refine⟨⟨i+1,by omega⟩,by simp only;omega,aj ⟨rfl,?_,trivial⟩ ?_⟩
   ·show _::_=_::_;rw[bQ fun a b _ _=>Si c k m i a b]
   simp[wk]
  have V:i=n:=by omega
  subst V;have E:gu 25 i i (Dd c k m i)=gu 25 i i h:=by
   show _::_=_::_;rw[bQ fun a b B _=>A a b B]
  rw[E];clear E A;have R:IntKind.i64.wrap ((k:Int)+1)=((k+1:Nat):Int):=by rw[aK (by omega) (by omega)];omega
  refine ar (k:=bv rfl (ai (f9 R (k:=?_))));refine aB (G:=Zi i k) (fun q=>⟨(j4 (jk::jk::jk::.one (.sl 25 0 0 i)::.one (.ptr 8 0 0 0)::rN k::j4 (.raw (.int .i64 (q.i:Int))::j16 (j16 (j16 (j16 (j16 (j16 (j16 (j16 (j4 (jk::jk::jk::[])))))))))))),Hm [(8,qt last),(25,gu 25 i i (dH k last h q.i (k+1)))]⟩) (fun q=>i-q.i) ⟨k+1,by omega,by omega⟩ ?_ ?_
  ·rw[Jl];refine aj ⟨rfl,rfl,trivial⟩ ?_;simp[wk]
  rintro⟨u,X,ag⟩;simp only;by_cases J:u<i
  ·have w:=bU (n:=i) (i:=u) 25 i J;have eu:IntKind.i64.wrap ((u:Int)+1)=((u+1:Nat):Int):=by rw[aK (by omega) (by omega)];omega
   refine ai (ar (k:=ay rfl (ak (ai (am (f9 R (k:=?_)))))));refine aB (G:=Zi i k) (fun q=>⟨(j4 (jk::jk::jk::.one (.sl 25 0 0 i)::.one (.ptr 8 0 0 0)::rN k::j4 (.raw (.int .i64 (u:Int))::rN q.i::j16 (j16 (j16 (j16 (j16 (j16 (j16 (j16 (j4 (jk::jk::[])))))))))))),Hm [(8,qt last),(25,gu 25 i i (dH k last h u q.i))]⟩) (fun q=>i-q.i) ⟨k+1,by omega,by omega⟩ ?_ ?_
   ·refine aj ⟨rfl,rfl,trivial⟩ ?_;simp[wk]
   rintro⟨j,W,af⟩;simp only;have M:=dS i (dH k last h u j) J;by_cases o:j<i
   ·have L:=bU (n:=i) (i:=k) 25 i e;have N:=dS i (dH k last h u j) e;have z:(aN i (dH k last h u j k))[k]?=some (h k k):=by rw[aw _ e,iM _ _ (by omega)]
    have O:(aN i (dH k last h u j u))[j]?=some (h u j):=by rw[aw _ o,iM _ _ (by omega)]
    have P:(aN i (dH k last h u j u))[k]?=some (h u k):=by rw[aw _ e,iM _ _ (by omega)]
    have Q:(aN i (dH k last h u j k))[j]?=some (h k j):=by rw[aw _ o,iM _ _ (by omega)]
    have ej:IntKind.i64.wrap ((j:Int)+1)=((j+1:Nat):Int):=by rw[aK (by omega) (by omega)];omega
    have z1:=l k k e e;have z2:=l u j J o;have z3:=l u k J e;have z4:=l k j e o;have c1:=jY (h k k) (h u j) (z1.mono (by omega)) (z2.mono (by omega));have c2:=jY (h u k) (h k j) (z3.mono (by omega)) (z4.mono (by omega));have c3:=MS (h k k*h u j) (h u k*h k j) ((z1.mul z2).mono (by omega)) ((z3.mul z4).mono (by omega));have c4:=CD (h k k*h u j-h u k*h k j) last hl (((z1.mul z2).sub (z3.mul z4)).mono (by omega)) (aa.mono (by omega));refine ai (aL w (k:=ay rfl (ak (ai (am (gX [⟨19,_,_,_,c1⟩,⟨34,_,_,_,c2⟩,⟨35,_,_,_,c3⟩,⟨37,_,_,_,c4⟩] (aH w (aH L (aH N (aH z (aH M (aH O (aH P (aH Q @iL)))))))) (k:=jm ej (k:=?_))))))));refine⟨⟨j+1,by omega,by omega⟩,by simp only;omega,aj ⟨rfl,?_,trivial⟩ ?_⟩
    ·show _::_=_::_;rw[bQ fun a b _ _=>Jk last h X W a b]
    simp[wk]
   have C:j=i:=by omega
   subst C;refine ai (aL w (k:=aq rfl (aZ (jm eu (k:=?_)))));refine⟨⟨u+1,by omega,by omega⟩,by simp only;omega,aj ⟨rfl,?_,trivial⟩ ?_⟩
   ·show _::_=_::_;rw[bQ fun a b _ hb=>Pf last h u a b hb]
   simp[wk]
  have F:u=i:=by omega
  subst F;have L:=bU (n:=u) (i:=k) 25 u e;have N:=dS u (dH k last h u (k+1)) e;have z:(aN u (dH k last h u (k+1) k))[k]?=some (h k k):=by rw[aw _ e,iM _ _ (by omega)]
  refine ai (ar (k:=aq rfl (aZ (eK (aH L (aH N z)) (k:=jm R (k:=?_))))));refine⟨⟨k+1,MJ k last h,h k k,2*b+1,by omega,I,D,by rw[abl];omega,fun x y Z hy=>?_,(l k k e e).mono (by omega)⟩,by simp only;omega,aj ⟨rfl,?_,trivial⟩ ?_⟩
  ·unfold MJ;split
   ·exact((((l k k e e).mul (l x y Z hy)).sub ((l x k Z e).mul (l k y e hy))).ediv last).mono (by omega)
   exact(l x y Z hy).mono (by omega)
  ·show _::_=_::_;rw[bQ fun a b B _=>Pe last h a b B]
  simp[wk]
def xL (L:List (List Int)) (a i:Nat):Int:=(L.getD a []).getD i 0
theorem J9 (m:Nat) (X:FF) (i j:Nat):oZ (m+1) X i j=oZ m X i j+X m i*X m j:=rfl
theorem Vt {n:Nat} {X:FF} {m:Nat}: ∀a,a<=m->(∀b i,b<m->i<n->Sz (X b i) 2)-> ∀i j,i<n->j<n->Sz (oZ a X i j) (4+a)
 |0,_,_,i,j,_,_=>uX _
 |a+1,g,c,i,j,e,f=>by
  rw[J9];exact Sz.add (k:=4+a) (Vt a (by omega) c i j e f) ((Sz.mul (c a i (by omega) e) (c a j (by omega) f)).mono (by omega))
def Fh (a:Nat) (X:FF) (i j:Nat):Nat->Nat->Int:=fun p q=>if p<i\/(p=i/\q<j)then oZ (a+1) X p q else oZ a X p q
theorem UF (a:Nat) (X:FF) (i j p q:Nat):upd (Fh a X i j) i j (oZ a X i j+X a i*X a j) p q=Fh a X i (j+1) p q:=by
 unfold upd Fh;by_cases b:p=i
 ·subst b;by_cases c:q=j
  ·subst c;simp[J9]
  have:q<j+1↔q<j:=by omega
  simp[c,this]
 simp[b]
theorem XU (a:Nat) (X:FF) (i p q:Nat) (b:q<n):Fh a X i n p q=Fh a X (i+1) 0 p q:=by
 unfold Fh;have:(p<i\/p=i/\q<n)↔(p<i+1\/p=i+1/\q<0):=by omega
 simp only[this]
theorem UG (a:Nat) (X:FF):Fh a X 0 0=oZ a X:=by
 funext p q;unfold Fh;rw[if_neg (by omega)]
theorem XT (a:Nat) (X:FF) (p q:Nat) (b:p<n):Fh a X n 0 p q=oZ (a+1) X p q:=by
 unfold Fh;rw[if_pos (by omega)]
theorem Zf (a:Nat) (X:FF) (i j:Nat):Fh a X i j i j=oZ a X i j:=by unfold Fh;rw[if_neg (by omega)]
theorem W4 (n:Nat) (L:List (List Int)) (w:1<=n) (hn:n<=8) (hm:L.length<=20) (C: ∀x∈L,x.length=n) (v: ∀x∈L,∀z∈x,z.natAbs<=1099511627776):
  CallC prog 65 [.raw (.int .i64 (n:Int)),cq L] ⟨[],.raw (.int .i64 (rkF n (oZ L.length (xL L)):Int))⟩:=by
 have m: ∀a x i,L[a]?=some x->i<n->x[i]?=some (xL L a i)/\(xL L a i).natAbs<=1099511627776:=fun a x i g e=>by
  have h1:=C x (aai g);obtain⟨z,y⟩:=getElem?_of_lt (show i<x.length by omega);have:xL L a i=z:=by
   unfold xL;rw[aaw,aaw,g];show(x[i]?).getD 0=z;rw[y];rfl
  rw[this];exact⟨y,v x (aai g) z (aai y)⟩
 have t: ∀a i,a<L.length->i<n->Sz (xL L a i) 2/\(xL L a i).natAbs<=1099511627776:=fun a i h e=>by
  obtain⟨x,g⟩:=getElem?_of_lt h;have:=(m a x i g e).2;exact⟨by show _<_;omega,this⟩
 generalize xL L=X at*
 have A:=fun a (h:a<=L.length)=>Vt (n:=n) a h fun b i v e=>(t b i v e).1
 have B:=vG n n (by omega) (by omega);rw[qL,pJ]at B;have cR:=TC n (oZ L.length X) w (by omega) fun i j e o=>(A L.length (aar _) i j e o).mono (by omega)
 generalize rkF n (oZ L.length X)=rk at*
 refine aA func65 rfl ntmps65 (aC (k:=bK [⟨2,_,_,_,B⟩] (k:=ai (bC (k:=?_)))));refine aB (G:=jx L.length) (fun q=>⟨(j4 (jk::.one (.sl 14 0 0 n)::j4 (j4 (jk::cq L::rN L.length::rN q.i::j16 (j16 (j4 (j4 (j4 (jk::jk::jk::[]))))))))),Hm [(14,gu 14 n n (oZ q.i X))]⟩) (fun q=>L.length-q.i) ⟨0,by omega⟩ ?_ ?_
 ·refine aj ⟨fk 0 14 n n _,trivial⟩ ?_;simp[wk]
 rintro⟨a,S⟩;simp only;by_cases h:a<L.length
 ·obtain⟨x,g⟩:=getElem?_of_lt h;have Z:=C x (aai g);have P:IntKind.i64.wrap ((a:Int)+1)=((a+1:Nat):Int):=by rw[aK (by omega) (by omega)];omega
  refine ar (k:=be rfl (ai (am (aL g (k:=bC (k:=?_))))));refine aB (G:=jx n) (fun q=>⟨(j4 (jk::.one (.sl 14 0 0 n)::jk::mY x::j4 (jk::jk::jk::cq L::rN L.length::rN a::j4 (.raw (.int .i64 (n:Int))::rN q.i::j16 (j16 (j4 (j4 (jk::[])))))))),Hm [(14,gu 14 n n (Fh a X q.i 0))]⟩) (fun q=>n-q.i) ⟨0,by omega⟩ ?_ ?_
  ·rw[UG];refine aj ⟨rfl,trivial⟩ ?_;simp[wk]
  rintro⟨i,T⟩;simp only;by_cases e:i<n
  ·have Q:IntKind.i64.wrap ((i:Int)+1)=((i+1:Nat):Int):=by rw[aK (by omega) (by omega)];omega
   obtain⟨x1,b1⟩:=m a x i g e;refine ar (k:=be rfl (ai (am (bC (k:=bC (k:=?_))))));refine aB (G:=jx n) (fun q=>⟨(j4 (jk::.one (.sl 14 0 0 n)::jk::mY x::rN i::j4 (jk::jk::cq L::rN L.length::rN a::j4 (.raw (.int .i64 (n:Int))::rN i::jk::jk::jk::rN n::rN q.i::j16 (j16 (j4 ([]))))))),Hm [(14,gu 14 n n (Fh a X i q.i))]⟩) (fun q=>n-q.i) ⟨0,by omega⟩ ?_ ?_
   ·refine aj ⟨rfl,trivial⟩ ?_;simp[wk]
   rintro⟨j,U⟩;simp only;by_cases o:j<n
   ·have R:IntKind.i64.wrap ((j:Int)+1)=((j+1:Nat):Int):=by rw[aK (by omega) (by omega)];omega
    obtain⟨x2,b2⟩:=m a x j g o;have F:=bU (n:=n) (i:=i) 14 n e;have I:=dS n (Fh a X i j) e;have J:(aN n (Fh a X i j i))[j]?=some (oZ a X i j):=by rw[aw _ o,Zf]
    have D:=(t a i h e).1;have E:=(t a j h o).1;have K:=fc (X a i) (by omega) (by omega);have M:=fc (X a j) (by omega) (by omega);have N:=jY (X a i) (X a j) (D.mono (by omega)) (E.mono (by omega));have O:=ve (oZ a X i j) (X a i*X a j) ((A a (by omega) i j e o).mono (by omega)) ((D.mul E).mono (by omega));refine ar (k:=be rfl (ai (am (bC (k:=gX [⟨16,_,_,_,K⟩,⟨21,_,_,_,M⟩,⟨22,_,_,_,N⟩,⟨23,_,_,_,O⟩] (aH F (aH I (aH J (aH x1 (aH x2 @iL))))) (k:=jm R (k:=?_)))))));refine⟨⟨j+1,by omega⟩,by simp only;omega,aj ⟨?_,trivial⟩ ?_⟩
    ·show _::_=_::_;rw[bQ fun p q _ _=>UF a X i j p q]
    simp[wk]
   have s:j=n:=by omega
   subst s;refine ar (k:=bv rfl (jm Q (k:=?_)));refine⟨⟨i+1,by omega⟩,by simp only;omega,aj ⟨?_,trivial⟩ ?_⟩
   ·show _::_=_::_;rw[bQ fun p q _ Y=>XU a X i p q Y]
   simp[wk]
  have r:i=n:=by omega
  subst r;refine ar (k:=bv rfl (jm P (k:=?_)));refine⟨⟨a+1,by omega⟩,by simp only;omega,aj ⟨?_,trivial⟩ ?_⟩
  ·show _::_=_::_;rw[bQ fun p q V _=>XT a X p q V]
  simp[wk]
 have u:a=L.length:=by omega
 subst u;generalize oZ L.length X=W at*
 refine ar (k:=bv rfl ?_);show bf _ _ _ _;refine bf.weak ((bD 14 (iK (d:=14) (n:=n) (c:=n) (f:=W) rfl)).trans (aj (tm:=(j4 (jk::da (mat n n W)::j16 (j16 (j16 (j4 (j4 (jk::jk::jk::[])))))))) (l:=[]) trivial (by
  simp[wk]
  (repeat' apply aaj)<;>first|rfl|exact(Rv (H:=Hm [(14,gu 14 n n W)]) (d:=14) (n:=n) (c:=n) (f:=W) rfl).symm))) ?_
 refine bK [⟨1,_,_,_,cR⟩] (k:=bC (k:=aD @results65))
theorem PU (n:Nat): ∀m k (b:FF) (last:Int),rkQ n m k b last<=k+m
 |0,k,_,_=>aar k
 |m+1,k,b,last=>by
  rw[rkQ];split
  ·omega
  exact aap (PU n m (k+1) _ _) (by omega)
theorem Xc (n:Nat) (W:FF):rkF n W<=n:=by
 have:=PU n n 0 W 1;rwa[aa6]at this
theorem eA (l:List Nat) (r:l.length<=1073741824):CallC prog 167 [cY l] ⟨[],cY (dD l)⟩:=by
 refine aA func167 rfl ntmps167 (aC (k:=?_));refine ai (aB (G:={n:Nat//n<=l.length/\dD l=dD (l.take n)}) (fun n=>⟨(cY (l.take n.1)::j16 (j4 ([]))),Hm []⟩) (fun n=>n.1) ⟨l.length,aar _,by simp⟩ ?_ ?_)
 ·refine aj trivial ?_;simp[wk]
 rintro⟨n,s,p⟩;simp only;have c:(l.take n).length=n:=by simp;omega
 by_cases o:0<n
 ·obtain⟨a,q⟩:=getElem?_of_lt (l:=l) (k:=n-1) (by omega);have j:((n:Int)-1).toNat=n-1:=by omega
  have f:(l.take n)[n-1]?=some a:=by grind
  have m:l.take n=l.take (n-1)++[a]:=by
   have:=ac3 (i:=n-1) (l:=l) (by omega);grind
  refine ai (aL (aH c (aH j f)) (k:=?_));refine bi rfl (fun e=>ak ?_) (fun e=>aZ ?_)
  ·have h:a=0:=by grind
   refine am (eK (aH c (aH j (sO A2))) (k:=?_));refine⟨⟨n-1,by omega,?_⟩,by simp only;omega,aj trivial ?_⟩
   ·simp_all[n5]
   simp[wk,List.take_take,acW (show n-1<=n by omega)]
  have h:a≠0:=by grind
  have b:dD l=l.take n:=by grind [Ao]
  show bf _ _ _ _;refine ar (k:=aD (aH @results167 b))
 have g:n=0:=by omega
 subst g;have b:dD l=l.take 0:=by grind [dD]
 refine ai (ar (k:=bi rfl (fun e=>by cases e) (fun e=>aZ (bC (k:=aD (aH @results167 b))))))
theorem eE (neg:Bool) (n:Nat):CallC prog 164 [.raw (.bool neg),cY (au n)] ⟨[],tZ (f4 neg n)⟩:=by
 by_cases b:n=0
 ·subst b;rw[cj,show tZ (f4 neg 0)= .agg [.p (.raw (.bool false)),.p (.sl (ls fU []))] by
   grind [f4,cj]]
  refine aA func164 rfl ntmps164 (aC (k:=ai (ar (k:=ay rfl (ar (k:=?_))))));refine aW ⟨.inr rfl,?_⟩;refine⟨_,gn 4,lW (d:=1000) rfl ?_ rfl⟩;simp(disch:=omega) only[kd,results164,zH,zO,Fa,Fi,Nat.reduceAdd]
 have e:=fD (n:=n);have c:(au n).length≠0:=by omega
 rw[show tZ (f4 neg n)= .agg [.p (.raw (.bool neg)),.p (.sl (ls fU (au n)))] by
  grind [rA,JE]]
 refine aA func164 rfl ntmps164 (aC (k:=ai (ar (k:=aq rfl (ak (ar (k:=aD @results164)))))))
theorem iZ (u:Nat) (h:u<18446744073709551616):CallC prog 165 [.raw (.int .u64 u)] ⟨[],cY (au u)⟩:=by
 have b:Lmb [u%4294967296,u/4294967296]:=by intro a g;grind
 have e:=eA [u%4294967296,u/4294967296] (by simp);rw[ee b,Aq]at e;have f:IntKind.u32.wrap (u:Int)=((u%4294967296:Nat):Int):=by rfl
 have c:IntKind.u32.wrap ((u:Int).fdiv (2^(min (32:Int).toNat IntKind.u64.bits)))=((u/4294967296:Nat):Int):=by
  rw[abQ];show(Int.fdiv (u:Int) 4294967296)%4294967296=_;grind
 simp only[Int.reduceToNat]at c;refine aA func165 rfl ntmps165 (aC (k:=cO [⟨6,_,_,_,e⟩] (aH @Ja (aH f c)) (k:=aD @results165)))
theorem qG (l:List Nat) (n:Lmb l) (q:l.length<=2):CallC prog 208 [cY l] ⟨[],.raw (.int .u64 (natV l:Nat))⟩:=by
 refine aA func208 rfl ntmps208 (aC (k:=bC (k:=ai (bC (k:=?_)))));refine aB (G:=Yo l) (fun g=>⟨(jk::jk::jk::.raw (.int .u64 (g.u:Int))::jk::jk::cY l::rN l.length::rN g.i::j4 (j4 (j4 (jk::[])))),Hm []⟩) (fun g=>l.length-g.i) ⟨0,0,⟨by omega,by omega⟩,rfl⟩ ?_ ?_
 ·refine aj trivial ?_;simp[wk]
 rintro⟨i,u,r,m⟩;simp only;have b:=eZ n i;rw[<- m]at b;by_cases p:i<l.length
 ·obtain⟨a,h⟩:=getElem?_of_lt p;have o:=bZ n h;have hu2:=bj h;rw[<- m]at hu2;refine ar (k:=be rfl (ai (am (aL h (k:=?_)))));have j:i=0\/i=1:=by omega
  rcases j with rfl|rfl
  ·have f:IntKind.u64.wrap ((a:Int)*2^min (32*((0:Nat):Int)).toNat IntKind.u64.bits)=(a:Int):=by
    grind [IntKind.wrap_u64]
   have hu0:u=0:=by omega
   have c:=BA u a (by omega) (by omega);rw[hu0,Nat.zero_or,<- hu0]at c;refine eK (aH f c) (k:=bS (k:=?_));refine⟨⟨1,a,⟨by omega,by omega⟩,by grind⟩,by grind,aj trivial ?_⟩;simp[wk]
  have f:IntKind.u64.wrap ((a:Int)*2^min (32*((1:Nat):Int)).toNat IntKind.u64.bits)=((a*4294967296:Nat):Int):=by
   rw[aa1];show((a:Int)*4294967296)%_=_;omega
  simp only[Nat.pow_one]at b;have c:=BA u (a*4294967296) (by omega) (by omega);rw[show a*4294967296=a*2^32 from rfl,uK _ _ _ b,show a*2^32=a*4294967296 from rfl]at c;refine eK (aH f c) (k:=bS (k:=?_));refine⟨⟨2,a*4294967296+u,⟨by omega,by omega⟩,by grind⟩,by grind,aj trivial ?_⟩;simp[wk]
 have e:u=natV l:=by grind
 rw[<- e];refine ar (k:=bv rfl (bC (k:=aD @results208)))
theorem nC (n:Int) (f: -9223372036854775808<=n) (g:n<=9223372036854775807):CallC prog 117 [.raw (.int .i64 n)] ⟨[],tZ n⟩:=by
 have e:=iZ n.natAbs (by omega);by_cases h:n<0
 ·have b:=eE true n.natAbs;have c:IntKind.u64.wrap (0-IntKind.u64.wrap n)=((n.natAbs:Nat):Int):=by grind [IntKind.wrap_u64]
  rw[show f4 true n.natAbs=n by grind [f4]]at b;refine aA func117 rfl ntmps117 (aC (k:=ai (ar (k:=ay rfl (cO [⟨3,_,_,_,e⟩,⟨4,_,_,_,b⟩] c (k:=aD @results117))))))
 have b:=eE false n.natAbs;have c:IntKind.u64.wrap n=((n.natAbs:Nat):Int):=by rw[aa1];omega
 rw[show f4 false n.natAbs=n by grind [f4]]at b;refine aA func117 rfl ntmps117 (aC (k:=ai (ar (k:=aq rfl (ak (cO [⟨2,_,_,_,e⟩,⟨3,_,_,_,b⟩] c (k:=aD @results117)))))))
theorem I1 (z:Int) (h:Bg z):CallC prog 121 [tZ z] ⟨[],.raw (.int .i64 (sg z))⟩:=by
 have b:=eA (au z.natAbs) h.len;rw[ii]at b;have g:=fD (n:=z.natAbs);rcases Int.lt_trichotomy z 0 with c|c|c
 ·have e:sg z= -1:=by simp[sg,c]
  have f:(au z.natAbs).length≠0:=by omega
  rw[e];refine aA func121 rfl ntmps121 (aC (k:=ai (am (bL [⟨2,_,_,_,b⟩] (k:=aq rfl (bC (k:=ay rfl (bC (k:=aD @results121)))))))))
 ·subst c;rw[show sg 0=0 from rfl];rw[Int.natAbs_zero,cj]at b;rw[show tZ 0= .agg [.p (.raw (.bool false)),.p (.sl (ls fU []))]from by grind];refine aA func121 rfl ntmps121 (aC (k:=ai (am (bL [⟨2,_,_,_,b⟩] (k:=ay rfl (bC (k:=aD @results121)))))))
 have e:sg z=1:=by grind [sg]
 have f:(au z.natAbs).length≠0:=by omega
 rw[e];refine aA func121 rfl ntmps121 (aC (k:=ai (am (bL [⟨2,_,_,_,b⟩] (k:=aq rfl (bC (k:=aq rfl (ak (bC (k:=aD @results121))))))))))
theorem DD (z:Int) (h:Bg z):CallC prog 222 [tZ z] ⟨[],jF z⟩:=by
 have b:=eA (au z.natAbs) h.len;rw[ii]at b;have l:=h.len;by_cases g:2<(au z.natAbs).length
 ·have j:=wN g;rw[show jF z= .tup [(false,[.p (.raw (.int .i64 0))]),(false,[.p (.raw (.bool false))])] by grind [jF]];refine aA func222 rfl ntmps222 (aC (k:=bK [⟨2,_,_,_,b⟩] (k:=ai (ar (k:=ay rfl (bC (k:=aD @results222)))))))
 have j:=gP (n:=z.natAbs) (by omega);have c:=qG (au z.natAbs) (aE _) (by omega);rw[az]at c;by_cases m:z<0
 ·by_cases f:z.natAbs<=9223372036854775808
  ·have e:IntKind.i64.wrap (IntKind.u64.wrap (0-(z.natAbs:Int)))=z:=by
    grind [IntKind.wrap_u64,IntKind.wrap_i64]
   rw[show jF z= .tup [(false,[.p (.raw (.int .i64 z))]),(false,[.p (.raw (.bool true))])] by grind [jF]];refine aA func222 rfl ntmps222 (aC (k:=bK [⟨2,_,_,_,b⟩] (k:=ai (ar (k:=aq rfl (ak (bK [⟨1,_,_,_,c⟩] (k:=ai (am (ar (k:=ay rfl (f9 e (k:=aD @results222)))))))))))))
  rw[show jF z= .tup [(false,[.p (.raw (.int .i64 0))]),(false,[.p (.raw (.bool false))])] by grind [jF]];refine aA func222 rfl ntmps222 (aC (k:=bK [⟨2,_,_,_,b⟩] (k:=ai (ar (k:=aq rfl (ak (bK [⟨1,_,_,_,c⟩] (k:=ai (am (ar (k:=aq rfl (ar (k:=aq rfl (ak (bC (k:=aD @results222))))))))))))))))
 by_cases f:z.natAbs<9223372036854775808
 ·have e:IntKind.i64.wrap (z.natAbs:Int)=z:=by rw[IntKind.wrap_i64];omega
  rw[show jF z= .tup [(false,[.p (.raw (.int .i64 z))]),(false,[.p (.raw (.bool true))])] by grind [jF]];refine aA func222 rfl ntmps222 (aC (k:=bK [⟨2,_,_,_,b⟩] (k:=ai (ar (k:=aq rfl (ak (bK [⟨1,_,_,_,c⟩] (k:=ai (am (ar (k:=aq rfl (ar (k:=ay rfl (f9 e (k:=aD @results222)))))))))))))))
 rw[show jF z= .tup [(false,[.p (.raw (.int .i64 0))]),(false,[.p (.raw (.bool false))])] by grind [jF]];refine aA func222 rfl ntmps222 (aC (k:=bK [⟨2,_,_,_,b⟩] (k:=ai (ar (k:=aq rfl (ak (bK [⟨1,_,_,_,c⟩] (k:=ai (am (ar (k:=aq rfl (ar (k:=aq rfl (ak (bC (k:=aD @results222))))))))))))))))
/-! Clone: a walk of the older kind, for it holds the slice against nil. -/
theorem vW (A:Option Addr) (c:Nat) (x:List Int) (w:World) (hx:RdI .u32 w A x) (hl:x.length*4<=140737488355328):
  Calls prog 209 #[.slice A x.length c] w fun e w'=> ∃v,e= .returned v/\w'.ownsRow w.heap.size 165 1 v x.length (x.map (Value.int .u32))/\Ext w w':=by
 have hnil:=fun(w:World) (n c:Nat)=>adV (P:=prog) w 63 165 A n c 0 0 underlying63
 cases A with
 |none=>
  have hx0:x=[]:=by
   cases x with
   |nil=>rfl
   |cons a l=>obtain⟨_,_,h,_⟩:=hx (by simp);cases h
  subst hx0
  go_enter func209,ntmps209
  go_wp2_with fail
  go_ret
  exact⟨_,rfl,acH _ _ _ _,Ext.refl _⟩
 |some a=>
  go_enter func209,ntmps209
  go_wp2_with (at_builtin;refine iI _ rfl (.tmp 5) (.tmp 6) _ rfl w.heap.size 165 (.int .u32 0) 1 4 underlying63 Tryz.inU32 rfl (by omega) _ 0 [] rfl (acZ w #[] 0 (aar _) (aaW _) rfl) (some a) x.length c _ rfl (Rd.ext hx ((Ext.refl _).alloc _)) (by simp) qV (by simp only[maxLen];omega) (by omega) (by simp) ?_;intro v1 w1 hown1 hg1 _)
  go_ret
  exact⟨_,rfl,by simpa using hown1,zo hg1 (acZ w #[] 0 (aar _) (aaW _) rfl:World.ownsRow _ w.heap.size 165 1 _ 0 []) ((Ext.refl w).alloc _) (aar _)⟩
theorem Jx {X:Nat->Prop} {w:World} {l:List Nat} {v:Value} (h:bM X w (.sl (ls fU l)) v): ∃A c,v= .slice A l.length c/\l.length<=c/\RdI .u32 w A (l.map fun n:Nat=>(n:Int)):=by
 generalize e:PV.sl (ls fU l)=x at h;cases h with
 |raw v h=>cases e
 |ptr b j E f t u q r=>cases e
 |nil a c=>
  injection e with e
  have B:l=[]:=by simp_all[ls]
  subst B;exact⟨a,c,rfl,aaW _,RdI.nil _ _ _⟩
 |sl b j s cap I f t u o g C q r=>
  injection e with e
  subst e;rw[co]at g C;refine⟨some ⟨b,j,none⟩,cap,by rw[co],g,fun D=>⟨b,j,rfl,fun i x e=>?_⟩⟩;rw[aam,aam]at e;obtain⟨J,p,rfl⟩:=aak.1 e;obtain⟨z,H,rfl⟩:=aak.1 p;have m:(ls fU l)[i]?=some (fU z):=by grind [dO]
  have y:s=1:=by rw[<- o _ (aai m)];rfl
  subst y;have F:=q i _ 0 _ m rfl;have G:=oI (r i _ 0 _ m rfl);grind
theorem Pr {p:World} {k:Nat} {v:Value} {l:List Nat} {Y:Nat->Prop} (s: ∀b,Y b->b<k) (D:l.length<=9223372036854775807) (h:p.ownsRow k 165 1 v l.length ((l.map fun n:Nat=>(n:Int)).map (Value.int .u32))):bM Y p (.sl (ls fU l)) v:=by
 obtain⟨C,r⟩:=h;rcases r with⟨o,E⟩|⟨g,cap,cur,o,B,t,y,u,F,G⟩
 ·have:l=[]:=abW (by omega);subst this;rw[o];exact bM.nil _ _
 rw[o];have c: ∀(i:Nat) z,l[i]?=some z->cur[i]?=some (.int .u32 (z:Int)):=fun i z q=>by
  have A:((l.map fun n:Nat=>(n:Int)).map (Value.int .u32))[i]?=some (.int .u32 (z:Int)):=by grind
  grind
 have:=bM.sl (X:=Y) (w:=p) g 0 1 cap (ls fU l) (fun i _=>(cur[i]?).getD undef) (fun h=>absurd (s _ h) (by omega)) (aaD.1 t).1 (fun e f=>by
  obtain⟨z,_,rfl⟩:=aau.1 f;rfl) (by grind [co]) (by grind [co]) (fun i e j x f m=>by
  grind [dO,fU,cell_of_row]) (fun i e j x f m=>by
  rw[dO]at f;obtain⟨z,q,rfl⟩:=aak.1 f;cases j with
  |succ j=>simp[fU]at m
  |zero=>
   simp[fU]at m;subst m;simp only[c i z q,abD];exact bM.raw _ rfl)
 grind [co]
theorem DC (l:List Nat) (x:l.length<=1073741824):CallC prog 209 [cY l] ⟨[],cY l⟩:=by
 refine vS (by kernel_rfl) fun X w vs t q p=>?_
 obtain⟨y,s,r⟩:=sC p (j:=0) rfl;obtain⟨A,c,rfl,u,m⟩:=Jx r;obtain rfl:vs= #[.slice A l.length c]:=by
  grind
 have b:(l.map fun n:Nat=>(n:Int)).length=l.length:=ab0 _;have:=vW A c (l.map fun n:Nat=>(n:Int)) w m (by omega);rw[b]at this;refine this.mono fun e z ⟨v,f,g,h⟩=>⟨v,f,fun B H Y o=>Pr o (by omega) g,h⟩
theorem A8 (z:Int) (h:Bg z):CallC prog 236 [tZ z] ⟨[],tZ z⟩:=by
 have c:=eA (au z.natAbs) h.len;rw[ii]at c;have e:=DC (au z.natAbs) h.len;have b:=eE (decide (z<0)) z.natAbs;rw[Br]at b;refine aA func236 rfl ntmps236 (aC (k:=di [⟨4,_,_,_,c⟩,⟨5,_,_,_,e⟩,⟨6,_,_,_,b⟩] (k:=aD @results236)))
end Go.Proofs.YtalmoejhjceflaaGreat
