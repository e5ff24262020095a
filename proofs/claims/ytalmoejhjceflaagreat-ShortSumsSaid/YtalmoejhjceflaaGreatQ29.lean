/-
  Part 30 of a proof (walks and plain facts).
-/
import Derived.Test.YtalmoejhjceflaaGreatQ28
set_option linter.all false
set_option maxRecDepth 100000
set_option maxHeartbeats 64000000
namespace Go.Proofs.YtalmoejhjceflaaGreat
open Go.RowKit Go.Proofs.Tryz
variable {n m:Nat} {b:FF} {x:Int}
theorem kO {k:Nat} (h:x.natAbs<4294967296) (b:1<=k):Sz x k:=by
 grind [Sz]
theorem pc (k:Nat):Sz 0 k:=by grind [Sz]
theorem aaO {p k:Nat} (l:p<n) (f:k<n) (h: ∀i j,i<n->j<n->Sz (b i j) m): ∀i j,i<n->j<n->Sz (swp p k b i j) m:=fun i j c e=>by
 unfold swp;grind
theorem aah {k:Nat} (last:Int) (c:k<n) (h: ∀i j,i<n->j<n->Sz (b i j) m): ∀i j,i<n->j<n->Sz (YC k last b i j) (2*m+1):=fun x y e f=>by
 unfold YC;split
 ·exact((((h k k c c).mul (h x y e f)).sub ((h x k e c).mul (h k y c f))).ediv last).mono (by omega)
 exact(h x y e f).mono (by omega)
theorem LX {n:Nat} (s:n<=16): ∀m k g last neg b,n-k=m->k<=n->(∀i j,i<n->j<n->Sz (g i j) b)->Sz last b->b+1<=1025*2^k->Sz (detG n k g last neg) 67174400
 |0,k,g,last,neg,b,r,q,e,c,o=>by
  have l:=qX (k:=k) (by omega);rw[detG,if_neg (by omega)];split
  ·exact c.neg.mono (by omega)
  exact c.mono (by omega)
 |m+1,k,g,last,neg,b,r,q,e,c,o=>by
  rw[detG,if_pos (by omega)];split
  ·exact pc _
  rename_i u;have t:=Ke (f:=g) (n:=n) (k:=k) (n-k) k rfl;have h:=aaO (p:=piv g n k k) (k:=k) (by omega) (by omega) e;exact LX s m (k+1) _ _ _ (2*b+1) (by omega) (by omega) (aah last (by omega) h) ((h k k (by omega) (by omega)).mono (by omega)) (by omega)
theorem oB {n:Nat} {f:FF} (c:n<=16) (b: ∀i j,i<n->j<n->Sz (f i j) 1024):Sz (detF n f) 67174400:=
 LX c n 0 f 1 false 1024 rfl (by omega) b (pb (by omega)) (by omega)
theorem jq (f:FF) (h:1<=n):((mat n m f).headD []).length=m:=by
 have:=kw (M:=mat n m f) (by rw[aU];omega);grind [bD,aD]
theorem oP (f:FF) (e:1<=n) (h:n<=16) (b:1<=m) (g:m<=16):IL (mat n m f):=by
 refine⟨by rw[aU];omega,by rw[aU];omega,fun r j=>?_⟩;grind [List.mem_iff_getElem?,aU,bD,aD,jq]
theorem U7 {M:List (List Int)} (h:IL M):M=mat M.length (M.headD []).length (ent M):=Mt fun r b=>(h.2.2 r b).2.2
theorem MX (f:FF) (b:1<=n) (c:n<=16):YL (mat n n f)= .tup [(false,[.p (.raw (.int .i64 (n:Int)))]),(false,[.p (.raw (.bool true))])]:=by
 grind [SqP,oP,aU,jq,YL]
theorem aaE (f:FF) (b:1<=n) (h:n≠m):YL (mat n m f)= .tup [(false,[.p (.raw (.int .i64 0))]),(false,[.p (.raw (.bool false))])]:=by
 unfold YL;rw[if_neg];intro e;have:=e.2;grind [aU,jq]
abbrev xe (n:Nat) (f:FF):List Int:=aN n fun k=>detF (k+1) f
def V6 (n:Nat) (f:FF):TV:= .tup [(false,[.p (.sl (ls fZ (xe n f)))]),(false,[.p (.raw (.bool true))])]
theorem Tr (k:Nat) (f:FF):((List.range (k+1)).map fun i=>(List.range (k+1)).map (f i))=mat (k+1) (k+1) f:=rfl
theorem jO (n:Nat) (f:FF) (l:1<=n) (h:n<=16) (s: ∀i j,i<n->j<n->Sz (f i j) 1024):CallC prog 98 [dr (mat n n f)] ⟨[],V6 n f⟩:=by
 have b:=Fw (mat n n f);rw[MX f l h]at b;refine ax func98 rfl ntmps98 (aA (k:=bj [⟨1,_,_,_,b⟩] (k:=ai (bi (k:=ao rfl (ak (bi (k:=ai (bi (k:=?_))))))))));refine ay (G:=fY n) (fun g=>⟨(dr (mat n n f)::jk::.raw (.slice none 0 0)::.raw (.bool false)::rN n::jk::.one (.sl 31 0 0 g.i)::rN g.i::j16 (j4 (j4 (jk::[])))),Hm [(31,[⟨65,2,lc fZ (xe g.i f)⟩])]⟩) (fun g=>n-g.i) ⟨0,by omega⟩ ?_ ?_
 ·refine(cz (k:=6) (d:=31) 65 2 (by omega) rfl rfl).trans (aj ⟨rfl,trivial⟩ ?_);simp[wk]
 rintro⟨k,w⟩;simp only;by_cases y:k<n
 ·have c:=tX k k (by omega) (by omega);rw[<- ade]at c;have m:=tn n n f (List.range (k+1)) (List.range (k+1)) h h (fun x t=>by grind) (fun x t=>by grind) (by simp;omega) (by simp;omega);rw[Tr]at m;have o:=gD (k+1) f (by omega) (by omega) (fun i j u v=>s i j (by omega) (by omega));have q:lc fZ (xe k f)++[[.p (.raw (.bool (decide (detF (k+1) f<0)))),.p (.sl (ls fU (au (detF (k+1) f).natAbs)))]]=lc fZ (xe (k+1) f):=by
   grind [nw,j7]
  refine ai (ar (k:=az rfl (ak (ai (am (vU [⟨4,_,_,_,c⟩,⟨7,_,_,_,c⟩,⟨8,_,_,_,m⟩,⟨9,_,_,_,o⟩] (aC @aD q) (k:=bu (k:=?_))))))));refine⟨⟨k+1,by omega⟩,by grind,aj ⟨rfl,trivial⟩ ?_⟩;simp[wk]
 have e:k=n:=by omega
 subst e;refine ai (ar (k:=ao rfl (aX (bi (k:=?_)))));refine aQ ⟨.inr rfl,dp 31 (bf rfl) ?_ rfl⟩;have r:List.take k (xe k f)=xe k f:=ack (by rw[aD];omega);simp(disch:=omega) only[kd,results98,r,V6]
structure SyG (n:Nat) (f:FF) where
 i:Nat
 hi:i<=n
 ok: ∀a,a<i-> ∀b,b<a->f a b=f b a
structure SyI (n i:Nat) (f:FF) where
 j:Nat
 hj:j<=i
 ok: ∀b,b<j->f i b=f b i
theorem NT (a:Int):mN a a=0:=by simp[mN]
theorem Q7 {a:Int} (h:a≠x):mN a x≠0:=by grind [mN]
theorem pH (n:Nat) (f:FF) (D:n<=16) (w: ∀i j,i<n->j<n->Sz (f i j) 1024) (r:Bool) (x:r=true↔SymF f n):CallC prog 103 [dr (mat n n f)] ⟨[],.raw (.bool r)⟩:=by
 have o:=aU n n f;refine ax func103 rfl ntmps103 (aA (k:=ai (dR o (k:=?_))));refine ay (G:=SyG n f) (fun g=>⟨(dr (mat n n f)::jk::.raw (.bool false)::jk::jk::jk::rN n::rN g.i::j16 (j4 (j4 ([])))),Hm []⟩) (fun g=>n-g.i) ⟨0,by omega,fun a m=>by omega⟩ ?_ ?_
 ·refine aj trivial ?_;simp[wk]
 rintro⟨i,B,ok⟩;simp only;by_cases c:i<n
 ·refine ar (k:=aV rfl (ai (am (bi (k:=bi (k:=?_))))));refine ay (G:=SyI n i f) (fun g=>⟨(dr (mat n n f)::jk::.raw (.bool false)::rN i::rN g.j::jk::rN n::rN i::j16 (j4 (j4 ([])))),Hm []⟩) (fun g=>i-g.j) ⟨0,by omega,fun a m=>by omega⟩ ?_ ?_
  ·refine aj trivial ?_;simp[wk]
  rintro⟨j,C,A⟩;simp only;by_cases y:j<i
  ·have s:=bD n f c;have t:=bD n f (show j<n by omega);have h:=aB (f i) (show j<n by omega);have u:=aB (f j) c;have l:=yv (f i j) (f j i) ((w i j c (by omega)).mono (by omega)) ((w j i (by omega) c).mono (by omega));by_cases e:f i j=f j i
   ·rw[e,NT]at l;rw[e]at h;refine ai (ar (k:=az rfl (ak (ai (am (ch [⟨14,_,_,_,l⟩] (aC s (aC h (aC t u))) (k:=ao rfl (ak (bu (k:=?_))))))))));refine⟨⟨j+1,by omega,fun b v=>?_⟩,by simp only;omega,aj trivial ?_⟩
    ·grind
    simp[wk]
   have p:r=false:=by
    cases r with
    |false=>rfl
    |true=>exact absurd (x.1 rfl i c j (by omega)) e
   subst p;have z:=Q7 e;refine ai (ar (k:=az rfl (ak (ai (am (ch [⟨14,_,_,_,l⟩] (aC s (aC h (aC t u))) (k:=az rfl (bi (k:=aE @results103)))))))))
  refine ai (ar (k:=ao rfl (aX (bu (k:=?_)))));refine⟨⟨i+1,by omega,fun a m b v=>?_⟩,by simp only;omega,aj trivial ?_⟩
  ·grind
  simp[wk]
 have q:r=true:=x.2 fun a m b v=>by
  grind
 subst q;refine ar (k:=aW rfl (bi (k:=aE @results103)))
structure DfG (n:Nat) (f:FF) where
 i:Nat
 hi:i<=n
 ok: ∀a,a<i->0<detF (a+1) f
theorem Tx (h:0<x):sg x=1:=by grind [sg]
theorem W8 (h: ¬0<x):sg x<=0:=by grind [sg]
theorem yw (n:Nat) (f:FF) (l:1<=n) (t:n<=16) (h: ∀i j,i<n->j<n->Sz (f i j) 1024) (z:SymF f n) (r:Bool) (u:r=true↔xz f n):CallC prog 104 [dr (mat n n f)] ⟨[],.raw (.bool r)⟩:=by
 have w:=jO n f l t h;have x:=pH n f t h true (by simp[z]);refine ax func104 rfl ntmps104 (aA (k:=dU [⟨1,_,_,_,w⟩] @V6.eq_1 (k:=ai (bE [⟨4,_,_,_,x⟩] (k:=ao rfl (ak (ai (dR @aD (k:=?_)))))))));refine ay (G:=DfG n f) (fun g=>⟨(jk::jk::.raw (.bool false)::j16 (.one (.p (.sl (ls fZ (xe n f))))::rN n::rN g.i::j4 (jk::jk::jk::[]))),Hm []⟩) (fun g=>n-g.i) ⟨0,by omega,fun a e=>by omega⟩ ?_ ?_
 ·refine aj trivial ?_;simp[wk]
 rintro⟨i,C,ok⟩;simp only;by_cases s:i<n
 ·have v:(xe n f)[i]?=some (detF (i+1) f):=aB _ s;have A:=oB (n:=i+1) (f:=f) (by omega) (fun a b e B=>h a b (by omega) (by omega));have c:=kW (detF (i+1) f) (A.mono (by omega));refine ar (k:=aV rfl (ai (am (aH v (k:=?_)))));by_cases m:0<detF (i+1) f
  ·rw[Tx m]at c;refine bE [⟨1,_,_,_,c⟩] (k:=ao rfl (ak (bu (k:=?_))));refine⟨⟨i+1,by omega,fun a e=>?_⟩,by simp only;omega,aj trivial ?_⟩
   ·grind
   simp[wk]
  have o:r=false:=by
   cases r with
   |false=>rfl
   |true=>exact absurd (u.1 rfl i s) m
  subst o;have y:=W8 m;refine bE [⟨1,_,_,_,c⟩] (k:=az rfl (bi (k:=aE @results104)))
 have q:r=true:=u.2 fun a e=>ok a (by omega)
 subst q;refine ar (k:=aW rfl (bi (k:=aE @results104)))
theorem DO (a b:Int):decide (mN a b<=0)=decide (a<=b):=by
 grind [mN]
theorem Vu (a b:Int):decide (0<=mN a b)=decide (b<=a):=by
 grind [mN]
theorem A8 (n:Nat) (f:FF) (c:1<=n) (g:n<=16) (e: ∀i j,i<n->j<n->Sz (f i j) 1024):CallC prog 54 [dr (mat n n f)] ⟨[],.raw (.bool (decide (detF n f<=10000)))⟩:=by
 have l:=gD n f c g e;have m:=fh 10000 (by omega) (by omega);have h:=yv (detF n f) 10000 ((oB g e).mono (by omega)) (kO (by decide) (by omega));have b:=DO (detF n f) 10000;refine ax func54 rfl ntmps54 (aA (k:=cj [⟨1,_,_,_,l⟩,⟨2,_,_,_,m⟩,⟨3,_,_,_,h⟩] b (k:=aE @results54)))
theorem jP (n c:Nat) (f:FF) (g:1<=n) (l:n<=16) (s:1<=c) (u:c<=16) (o: ∀i j,i<n->j<c->Sz (f i j) 1024):
  ∃e:Int,(e=0↔(n=c/\n<=8/\SymF f n/\xz f n))/\CallC prog 50 [dr (mat n c f)] ⟨[],.raw (.int .i64 e)⟩:=by
 have b:=Fw (mat n c f);by_cases p:n=c
 ·subst p;rw[MX f g l]at b;by_cases t:8<n
  ·refine⟨3,by omega,?_⟩;refine ax func50 rfl ntmps50 (aA (k:=bj [⟨1,_,_,_,b⟩] (k:=ai (am (ar (k:=az rfl (bi (k:=aE @results50))))))))
  by_cases h:SymF f n
  ·have m:=pH n f l o true (by simp[h]);by_cases q:xz f n
   ·have r:=yw n f g l o h true (by simp[q]);refine⟨0,by grind,?_⟩;refine ax func50 rfl ntmps50 (aA (k:=bj [⟨1,_,_,_,b⟩] (k:=ai (am (ar (k:=ao rfl (bj [⟨1,_,_,_,m⟩] (k:=ao rfl (bj [⟨1,_,_,_,r⟩] (k:=ao rfl (ak (bi (k:=aE @results50)))))))))))))
   have r:=yw n f g l o h false (by simp[q]);refine⟨5,by simp[q],?_⟩;refine ax func50 rfl ntmps50 (aA (k:=bj [⟨1,_,_,_,b⟩] (k:=ai (am (ar (k:=ao rfl (bj [⟨1,_,_,_,m⟩] (k:=ao rfl (bj [⟨1,_,_,_,r⟩] (k:=az rfl (bi (k:=aE @results50))))))))))))
  have m:=pH n f l o false (by simp[h]);refine⟨4,by simp[h],?_⟩;refine ax func50 rfl ntmps50 (aA (k:=bj [⟨1,_,_,_,b⟩] (k:=ai (am (ar (k:=ao rfl (bj [⟨1,_,_,_,m⟩] (k:=az rfl (bi (k:=aE @results50))))))))))
 rw[aaE f g p]at b;refine⟨3,by simp[p],?_⟩;refine ax func50 rfl ntmps50 (aA (k:=bj [⟨1,_,_,_,b⟩] (k:=ai (am (ar (k:=az rfl (bi (k:=aE @results50))))))))
theorem W5 (i j:Nat) (f:FF):((List.range j++[i]).map fun r=>(List.range (j+1)).map (f r))=mat (j+1) (j+1) (uk f i j):=by
 rw[mat,ade,ac1,ac1]
 congr 1
 ·refine acH fun r b=>?_
  have:=acV.1 b;rw[<- ade];exact dT (m:=j+1) fun c _=>by grind [uk]
 simp only[acA,acT];rw[<- ade]
 congr 1
 exact dT (m:=j+1) fun c _=>by grind [uk]
theorem Mk {i:Nat} (h:i<n) (l:m<n) (g: ∀i m,i<n->m<n->Sz (b i m) 1024): ∀r c,r<m+1->c<m+1->Sz (uk b i m r c) 1024:=fun r c o e=>by
 grind [uk]
theorem JU {n i j:Nat} (h:n<=16) (e:i<n) (g:j<n) (c: ∀i j,i<n->j<n->Sz (b i j) 1024):Sz (lam b i j) 67174400:=
 oB (by omega) (Mk e g c)
theorem Gi {n k:Nat} (g:n<=16) (e:k<=n) (c: ∀i j,i<n->j<n->Sz (b i j) 1024):Sz (dd b k) 67174400:=by
 grind [dd,pb,oB]
theorem yC (n:Nat) (f:FF) (i j:Nat) (e:n<=16) (m:i<n) (o:j<n) (l: ∀i j,i<n->j<n->Sz (f i j) 1024):
  CallC prog 110 [dr (mat n n f),.raw (.int .i64 (i:Int)),.raw (.int .i64 (j:Int))] ⟨[],tZ (lam f i j)⟩:=by
 have c:=tn n n f (List.range j++[i]) (List.range (j+1)) e e (fun x p=>by
  grind) (fun x p=>by grind) (by simp;omega) (by simp;omega)
 rw[W5]at c;have h:=gD (j+1) (uk f i j) (by omega) (by omega) (Mk m o l);refine ax func110 rfl ntmps110 (aA (k:=bi (k:=ai (bi (k:=?_)))));refine ay (G:=fY j) (fun g=>⟨(dr (mat n n f)::rN i::rN j::jk::jk::jk::.one (.ptr 6 0 0 0)::.one (.sl 18 0 0 g.i)::.one (.sl 22 0 0 g.i)::rN g.i::j16 (j4 (j4 ([])))),Hm [(6,ru),(18,[⟨3,1,lc fN (List.range g.i)⟩]),(22,[⟨3,1,lc fN (List.range g.i)⟩])]⟩) (fun g=>j-g.i) ⟨0,by omega⟩ ?_ ?_
 ·refine(cz (k:=7) (d:=18) 3 1 (by omega) rfl rfl).trans ((cz (k:=8) (d:=22) 3 1 (by omega) rfl rfl).trans (aj ⟨rfl,rfl,rfl,trivial⟩ ?_));simp[wk]
 rintro⟨k,q⟩;simp only;by_cases r:k<j
 ·refine ai (ar (k:=az rfl (ak (ai (am (aH (aC @aeG @qc) (k:=dF (aC @aeG @qc) (k:=bu (k:=?_)))))))));refine⟨⟨k+1,by omega⟩,by grind,aj ⟨rfl,?_,?_,trivial⟩ ?_⟩
  ·rw[ade];rfl
  ·rw[ade];rfl
  simp[wk]
 have b:k=j:=by omega
 subst b;refine ai (ar (k:=ao rfl (aX ?_)));show bA _ _ _ _;refine ia 9 [⟨9,_,_,_,c⟩,⟨10,_,_,_,h⟩] [] (by simp[wk]) (by decide) fun _ K=>?_;simp(disch:=omega) only[kd,dr,EW,tZ,Nat.reduceAdd,Nat.reduceMul,Nat.reduceLeDiff,Nat.reduceEqDiff,aeG,qc,Nat.reduceBEq];apply K
 refine⟨⟨(j4 (jk::jk::.one (.ptr 6 0 0 0)::j16 (dr (mat n n f)::jk::jk::jk::EW (List.range k++[i])::jk::jk::jk::EW (List.range (k+1))::jk::jk::[]))),Hm [(6,ru)]⟩,(bF 18 (bf rfl)).trans ((bF 22 (bf rfl)).trans (aj ⟨rfl,trivial⟩ ?_)),by simp[wk],?_⟩
 ·simp[wk,fk,dP,aF,Hm,iK,gz,ade,ack]
 intro _ K;simp(disch:=omega) only[kd,dr,EW,tZ,Nat.reduceAdd,Nat.reduceBEq];apply K;rw[<- lam]
 (refine aQ ⟨.inr rfl,b8 rfl ?_ rfl⟩;simp(disch:=omega) only[kd,results110,Nat.reduceAdd,tZ])
theorem uq (n:Nat) (f:FF) (k:Nat) (j:n<=16) (h:k<=n):
  CallC prog 111 [xr (xe n f),.raw (.int .i64 (k:Int))] ⟨[],tZ (dd f k)⟩:=by
 have e:=fh 1 (by omega) (by omega);by_cases b:k=0
 ·subst b;rw[show dd f 0=1 from rfl];refine ax func111 rfl ntmps111 (aA (k:=ai (ar (k:=az rfl (bE [⟨0,_,_,_,e⟩] (k:=aE @results111))))))
 rw[show dd f k=detF k f from if_neg b];have g:((k:Int)-1).toNat=k-1:=by omega
 have c:(xe n f)[k-1]?=some (detF k f):=by grind [aB]
 refine ax func111 rfl ntmps111 (aA (k:=ai (ar (k:=ao rfl (ak (aH (aC g c) (k:=aE @results111)))))))
theorem Lw (n:Nat) (f:FF) (i j:Nat) (c:n<=16) (m:i<n) (o:j<n) (e: ∀i j,i<n->j<n->Sz (f i j) 1024):
  CallC prog 107 [dr (mat n n f),xr (xe n f),.raw (.int .i64 (i:Int)),.raw (.int .i64 (j:Int))] ⟨[],.raw (.bool (decide (2*((lam f i j).natAbs:Int)<=dd f (j+1))))⟩:=by
 have p:=JU c m o e;have v:=Gi (k:=j+1) c (by omega) e;have b:Sz ((lam f i j).natAbs:Int) 67174400:=p.le (by omega);have w:Sz (2*((lam f i j).natAbs:Int)) (1+67174400):=Sz.mul (kO (by decide) (by omega)) b;have q:=fh 2 (by omega) (by omega);have r:=yC n f i j c m o e;have s:=QH (lam f i j) (p.mono (by omega));have t:=io 2 ((lam f i j).natAbs:Int) (kO (by decide) (by omega)) (b.mono (by omega));have h:=uq n f (j+1) c (by omega);rw[show((j+1:Nat):Int)=(j:Int)+1 by omega]at h;have u:=yv (2*((lam f i j).natAbs:Int)) (dd f (j+1)) (w.mono (by omega)) (v.mono (by omega));have g:=DO (2*((lam f i j).natAbs:Int)) (dd f (j+1));generalize lam f i j=l at*
 generalize dd f (j+1)=d at*
 refine ax func107 rfl ntmps107 (aA (k:=cj [⟨0,_,_,_,q⟩,⟨4,_,_,_,r⟩,⟨5,_,_,_,s⟩,⟨6,_,_,_,t⟩,⟨10,_,_,_,h⟩,⟨11,_,_,_,u⟩] g (k:=aE @results107)))
theorem Ft (n:Nat) (f:FF) (i:Nat) (c:n<=16) (r:i<n) (H:0<i) (e: ∀i j,i<n->j<n->Sz (f i j) 1024):
  CallC prog 112 [dr (mat n n f),xr (xe n f),.raw (.int .i64 (i:Int))] ⟨[],.raw (.bool (decide (3*(dd f i*dd f i)<=4*(dd f (i-1)*dd f (i+1)+lam f i (i-1)*lam f i (i-1)))))⟩:=by
 have g:=JU (j:=i-1) c r (by omega) e;have d0:=Gi (k:=i-1) c (by omega) e;have d1:=Gi (k:=i) c (by omega) e;have d2:=Gi (k:=i+1) c (by omega) e;have m:=yC n f i (i-1) c r (by omega) e;have o:=uq n f (i-1) c (by omega);have p:=uq n f (i+1) c (by omega);have q:=uq n f i c (by omega);rw[show((i+1:Nat):Int)=(i:Int)+1 by omega]at p;rw[show((i-1:Nat):Int)=(i:Int)-1 by omega]at m o;have E:=fh 4 (by omega) (by omega);have D:=fh 3 (by omega) (by omega);generalize lam f i (i-1)=l at*
 generalize dd f (i-1)=a at*
 generalize dd f (i+1)=b at*
 generalize dd f i=d at*
 have s:Sz (a*b) 134348800:=(d0.mul d2).mono (by omega);have t:Sz (l*l) 134348800:=(g.mul g).mono (by omega);have u:Sz (a*b+l*l) 134348801:=s.add t;have F:Sz (4*(a*b+l*l)) 134348802:=(Sz.mul (kO (k:=1) (by decide) (by omega)) u).mono (by omega);have v:Sz (d*d) 134348800:=(d1.mul d1).mono (by omega);have G:Sz (3*(d*d)) 134348802:=(Sz.mul (kO (k:=1) (by decide) (by omega)) v).mono (by omega);have w:=io a b (d0.mono (by omega)) (d2.mono (by omega));have x:=io l l (g.mono (by omega)) (g.mono (by omega));have y:=rD (a*b) (l*l) (s.mono (by omega)) (t.mono (by omega));have z:=io 4 (a*b+l*l) (kO (by decide) (by omega)) (u.mono (by omega));have A:=io d d (d1.mono (by omega)) (d1.mono (by omega));have B:=io 3 (d*d) (kO (by decide) (by omega)) (v.mono (by omega));have C:=yv (4*(a*b+l*l)) (3*(d*d)) (F.mono (by omega)) (G.mono (by omega));have h:=Vu (4*(a*b+l*l)) (3*(d*d));refine ax func112 rfl ntmps112 (aA (k:=bE [⟨4,_,_,_,m⟩] (k:=da [⟨0,_,_,_,E⟩,⟨4,_,_,_,o⟩,⟨8,_,_,_,p⟩,⟨9,_,_,_,w⟩,⟨12,_,_,_,x⟩,⟨13,_,_,_,y⟩,⟨14,_,_,_,z⟩] (k:=ch [⟨1,_,_,_,D⟩,⟨4,_,_,_,q⟩,⟨7,_,_,_,q⟩,⟨8,_,_,_,A⟩,⟨9,_,_,_,B⟩,⟨10,_,_,_,C⟩] h (k:=aE @results112)))))
structure RdG (n:Nat) (f:FF) where
 i:Nat
 hi:i<=n
 ok: ∀a,a<i->(∀b,b<a->SizF f a b)/\(0<a->LovF f a)
structure RdJ (n i:Nat) (f:FF) where
 j:Nat
 hj:j<=i
 ok: ∀b,b<j->SizF f i b
theorem O4 (n:Nat) (f:FF) (v:1<=n) (u:n<=16) (o: ∀i j,i<n->j<n->Sz (f i j) 1024) (r:Bool) (w:r=true↔Y8 f n):
  CallC prog 91 [dr (mat n n f)] ⟨[],.raw (.bool r)⟩:=by
 have z:=jO n f v u o;have t:=aU n n f;refine ax func91 rfl ntmps91 (aA (k:=dU [⟨1,_,_,_,z⟩] @V6.eq_1 (k:=ai (dR t (k:=?_)))));refine ay (G:=RdG n f) (fun g=>⟨(dr (mat n n f)::jk::.raw (.bool false)::xr (xe n f)::j4 (j4 (jk::rN n::rN g.i::j16 (j4 (jk::jk::jk::[]))))),Hm []⟩) (fun g=>n-g.i) ⟨0,by omega,fun a l=>by omega⟩ ?_ ?_
 ·refine aj trivial ?_;simp[wk]
 rintro⟨i,C,ok⟩;simp only;by_cases m:i<n
 ·refine ar (k:=aV rfl (ai (am (bi (k:=ai (bi (k:=?_)))))));refine ay (G:=RdJ n i f) (fun g=>⟨(dr (mat n n f)::jk::.raw (.bool false)::xr (xe n f)::jk::rN i::rN g.j::j4 (jk::jk::rN n::rN i::j16 (j4 (jk::jk::jk::[])))),Hm []⟩) (fun g=>i-g.j) ⟨0,by omega,fun a l=>by omega⟩ ?_ ?_
  ·refine aj trivial ?_;simp[wk]
  rintro⟨j,D,A⟩;simp only;by_cases s:j<i
  ·have c:=Lw n f i j u m (by omega) o;by_cases h:SizF f i j
   ·rw[decide_eq_true (show 2*((lam f i j).natAbs:Int)<=dd f (j+1)from h)]at c;refine ai (ar (k:=az rfl (ak (ai (am (bj [⟨4,_,_,_,c⟩] (k:=ao rfl (ak (bu (k:=?_))))))))));refine⟨⟨j+1,by omega,fun b B=>?_⟩,by simp only;omega,aj trivial ?_⟩
    ·grind
    simp[wk]
   have e:r=false:=by
    cases r with
    |false=>rfl
    |true=>exact absurd ((w.1 rfl i m).1 j s) h
   subst e;rw[decide_eq_false (show ¬2*((lam f i j).natAbs:Int)<=dd f (j+1)from h)]at c;refine ai (ar (k:=az rfl (ak (ai (am (bj [⟨4,_,_,_,c⟩] (k:=az rfl (bi (k:=aE @results91)))))))))
  have q:j=i:=by omega
  subst q;refine ai (ar (k:=ao rfl (aX ?_)));show bA _ _ _ _;by_cases y:0<j
  ·have c:=Ft n f j u m y o;by_cases h:LovF f j
   ·rw[decide_eq_true (show 3*(dd f j*dd f j)<=4*(dd f (j-1)*dd f (j+1)+lam f j (j-1)*lam f j (j-1))from h)]at c;refine bE [⟨6,_,_,_,c⟩] (k:=ao rfl (ak (bu (k:=?_))));refine⟨⟨j+1,by omega,fun a l=>?_⟩,by simp only;omega,aj trivial ?_⟩
    ·grind
    simp[wk]
   have e:r=false:=by
    cases r with
    |false=>rfl
    |true=>exact absurd ((w.1 rfl j m).2 y) h
   subst e;rw[decide_eq_false (show ¬3*(dd f j*dd f j)<=4*(dd f (j-1)*dd f (j+1)+lam f j (j-1)*lam f j (j-1))from h)]at c;refine bE [⟨6,_,_,_,c⟩] (k:=az rfl (bi (k:=aE @results91)))
  have p:j=0:=by omega
  subst p;refine ar (k:=ao rfl (ak (bu (k:=?_))));refine⟨⟨1,by omega,fun a l=>?_⟩,by simp only;omega,aj trivial ?_⟩
  ·grind
  simp[wk]
 have x:r=true:=w.2 fun a l=>ok a (by omega)
 subst x;refine ar (k:=aW rfl (bi (k:=aE @results91)))
def I64 (z:Int):Prop:= -9223372036854775808<=z/\z<=9223372036854775807
theorem I64.sz (h:I64 x) {k:Nat} (b:2<=k):Sz x k:=by
 have:Sz x 2:=by
  unfold Sz;have:=h.1;have:=h.2;omega
 exact this.mono b
def MI (M:List (List Int)):Prop:= ∀r∈M,∀z∈r,I64 z
theorem MI.ent {M:List (List Int)} (h:MI M) (i j:Nat):I64 (ent M i j):=by
 simp only[Go.Proofs.YtalmoejhjceflaaGreat.ent,acm];cases b:M[i]? with
 |none=>simp[I64]
 |some r=>
  simp only[ads];cases c:r[j]? with
  |none=>simp[I64]
  |some z=>exact h r (acd b) z (acd c)
theorem aaF (e:1<=n):Sq (mat n m b)↔n=m:=by
 grind [Sq,mat,aD]
theorem IJ {g:FF} (h: ∀i j,i<n->j<n->b i j=g i j) (q:RedR b n):RedR g n:=by
 obtain⟨y,z,A,o⟩:=q;have x: ∀k,k<=n->dk g k=dk b k:=fun k u=>nk fun i j e s=>(h i j (by omega) (by omega)).symm
 have w: ∀t i,t<n->i<n->bk g t i t=bk b t i t:=fun t i m e=>by
  have v:dk (uk g i t) (t+1)=bk g t i t:=Jt (fun r c B p=>by grind [uk]) (fun c p=>by grind [uk]);grind [uk,Jt]
 refine⟨fun i e j s=>by grind,fun k u=>by grind,by grind,fun t m=>⟨fun i e l=>?_,?_⟩⟩
 ·have:=(o t m).1 i e l;grind
 grind [Qb]
theorem tl (e:1<=n):Y7 (mat n m b)↔n=m/\n<=8/\RedR b n:=by
 grind [Y7,aU,aaF,IJ,L8]
theorem pG (M:List (List Int)) (E:MI M):CallC prog 41 [cw M] ⟨[],.raw (.bool (isReducedM M))⟩:=by
 have B:=fP M;generalize isReducedM M=r at*
 by_cases h:IL M
 ·obtain⟨n,c,f,rfl,b,q,m,y,p⟩: ∃n c f,M=mat n c f/\1<=n/\n<=16/\1<=c/\c<=16/\ ∀i j:Nat,I64 (f i j):=by
   have D:=kw (M:=M) h.1;have z:=h.2.2 _ (acd D);exact⟨M.length,(M.headD []).length,ent M,U7 h,h.1,h.2.1,z.1,z.2.1,fun i j=>E.ent i j⟩
  rw[tl b]at B;have l:=yy n c f b q m y (fun i j _ _=>p i j);obtain⟨e,G,s⟩:=jP n c f b q m y (fun i j _ _=>(p i j).sz (by omega));by_cases v:e=0
  ·obtain⟨rfl,J,L,K⟩:=G.1 v;subst v;have o:=A8 n f b q (fun i j _ _=>(p i j).sz (by omega));by_cases w:detF n f<=10000
   ·rw[decide_eq_true w]at o;have F:=O4 n f b q (fun i j _ _=>(p i j).sz (by omega)) r (by
     grind [x9])
    refine ax func41 rfl ntmps41 (aA (k:=dU [⟨1,_,_,_,l⟩] @UL.eq_1 (k:=bE [⟨3,_,_,_,s⟩,⟨8,_,_,_,o⟩,⟨12,_,_,_,F⟩] (k:=aE @results41))))
   have g:r=false:=by
    grind [x9]
   subst g;rw[decide_eq_false w]at o;refine ax func41 rfl ntmps41 (aA (k:=dU [⟨1,_,_,_,l⟩] @UL.eq_1 (k:=bE [⟨3,_,_,_,s⟩,⟨8,_,_,_,o⟩] (k:=aE @results41))))
  have g:r=false:=by
   grind [x9]
  subst g;refine ax func41 rfl ntmps41 (aA (k:=dU [⟨1,_,_,_,l⟩] @UL.eq_1 (k:=bE [⟨3,_,_,_,s⟩] (k:=aE @results41))))
 have l:=Fr M h;have g:r=false:=by
  cases r with
  |false=>rfl
  |true=>
   obtain⟨u,I,C,_⟩:=B.1 rfl;refine absurd ⟨u,by omega,fun x H=>?_⟩ h;obtain⟨i,t⟩:=adr.1 H;have A: ∀(i:Nat) x,M[i]?=some x->x.length=M.length:=fun i x t=>by
    have:=C i (aci.1 t).1;grind
   rw[rOk,A i x t,A 0 _ (kw u)];omega
 subst g;refine ax func41 rfl ntmps41 (aA (k:=dU [⟨1,_,_,_,l⟩] @ZV.eq_1 (k:=ar (k:=aE @results41))))
structure InG (x:List Int) where
 i:Nat
 hi:i<=x.length
 ok: ∀j c,j<i->x[j]?=some c-> -1099511627776<=c/\c<=1099511627776
theorem GH (x:List Int):CallC prog 122 [eF x] ⟨[],.raw (.bool (vD x))⟩:=by
 refine NM 0 (ls fI x) rfl (fun b=>?_) (by kernel_rfl);rw[d8]at b;refine ax func122 rfl ntmps122 (aA (k:=ai (bi (k:=?_))));refine ay (G:=InG x) (fun g=>⟨(jk::jk::.raw (.bool false)::jk::jk::eF x::rN x.length::rN g.i::j4 (j4 (jk::jk::[]))),Hm []⟩) (fun g=>x.length-g.i) ⟨0,by omega,fun j c n=>by omega⟩ ?_ ?_
 ·refine aj trivial ?_;simp[wk]
 rintro⟨i,m,ok⟩;simp only;by_cases l:i<x.length
 ·obtain⟨c,e⟩:=getElem?_of_lt l;refine ar (k:=aV rfl (ai (am (aH e (k:=?_)))));by_cases f:c< -1099511627776
  ·rw[qA e (.inl f)];refine ar (k:=az rfl (bi (k:=aE @results122)))
  by_cases h:1099511627776<c
  ·rw[qA e (.inr h)];refine ar (k:=az rfl (bi (k:=aE @results122)))
  refine ar (k:=ao rfl (ak (bu (k:=?_))));refine⟨⟨i+1,by omega,wL ok e (by omega)⟩,by grind,aj trivial ?_⟩;simp[wk]
 rw[yA (k:=i) (by omega) ok];refine ar (k:=aW rfl (bi (k:=aE @results122)))
theorem th (x:List Int) (p:x.length<=16) (m: ∀z∈x,I64 z):CallC prog 152 [eF x] ⟨[],xr x⟩:=by
 refine ax func152 rfl ntmps152 (aA (k:=bi (k:=ai (bi (k:=?_)))));refine ay (G:=SeG x.length) (fun g=>⟨(jk::jk::.raw (.slice none 0 0)::.one (.sl 16 0 0 g.i)::jk::jk::eF x::rN x.length::rN g.i::j4 (j4 (jk::jk::[]))),Hm [(16,[⟨65,2,lc fZ (x.take g.i)⟩])]⟩) (fun g=>x.length-g.i) ⟨0,by omega⟩ ?_ ?_
 ·refine(cz (k:=3) (d:=16) 65 2 (by omega) rfl rfl).trans (aj ⟨rfl,trivial⟩ ?_);simp[wk]
 rintro⟨i,o⟩;simp only;by_cases n:i<x.length
 ·obtain⟨c,f⟩:=getElem?_of_lt n;have b:=m c (acd f);have h:=fh c b.1 b.2;have j:(x.take i).length=i:=by simp;omega
  have l:x.take i++[c]=x.take (i+1):=by grind [List.take_add_one]
  refine ar (k:=aV rfl (ai (am (aH f (k:=vU [⟨2,_,_,_,h⟩] (aC j (aC @nw l)) (k:=bu (k:=?_)))))));refine⟨⟨i+1,by omega⟩,by grind,aj ⟨rfl,trivial⟩ ?_⟩;simp[wk]
 have e:i=x.length:=by omega
 subst e;refine ar (k:=aW rfl (bi (k:=?_)));refine aQ ⟨.inr rfl,dp 16 (bf rfl) ?_ rfl⟩;simp(disch:=omega) only[kd,results152,adJ,xr]
theorem jg {x y:List Int} {b c:Nat} (e: ∀i,Sz (x.getD i 0) b) (f: ∀i,Sz (y.getD i 0) c): ∀l,Sz (dt x y l) (b+c+l)
 |0=>pc _
 |l+1=>by
  show Sz (dt x y l+x.getD l 0*y.getD l 0) _;exact(jg e f l).add (((e l).mul (f l)).mono (by omega))
theorem dD {x:List Int} (h: ∀z∈x,Sz z n) (i:Nat):Sz (x.getD i 0) n:=by
 grind [pc]
theorem BW (x y:List Int) (v:x.length<=16) (t:x.length<=y.length) (j: ∀z∈x,Sz z 16777216) (m: ∀z∈y,Sz z 67108864):CallC prog 153 [xr x,xr y] ⟨[],tZ (dt x y x.length)⟩:=by
 refine ax func153 rfl ntmps153 (aA (k:=ar (k:=ai (bi (k:=?_)))));refine ay (G:=SeG x.length) (fun g=>⟨(xr x::xr y::jk::jk::.one (.ptr 4 0 0 0)::.one (.ptr 5 0 0 0)::jk::jk::jk::rN x.length::rN g.i::j4 (j4 (j4 (jk::jk::jk::[])))),Hm [(4,ru),(5,vz (dt x y g.i))]⟩) (fun g=>x.length-g.i) ⟨0,by omega⟩ ?_ ?_
 ·refine(g7 5).trans (aj ⟨rfl,?_,trivial⟩ ?_)
  ·show _=vz 0;simp[zH,aF,zO,Fl,IA,vz,tc,cn,ls]
  simp[wk]
 rintro⟨i,u⟩;simp only;have s:=jg (dD j) (dD m) i;by_cases r:i<x.length
 ·obtain⟨a,f⟩:=getElem?_of_lt r;obtain⟨b,h⟩:=getElem?_of_lt (l:=y) (k:=i) (by omega);have n:=j a (acd f);have o:=m b (acd h);have p:=io a b (n.mono (by omega)) (o.mono (by omega));have e:=rD (dt x y i) (a*b) (s.mono (by omega)) ((n.mul o).mono (by omega));have q:dt x y i+a*b=dt x y (i+1):=by
   grind [dt]
  rw[q]at e;refine ar (k:=aV rfl (ai (am (bi (k:=eQ [⟨9,_,_,_,p⟩,⟨10,_,_,_,e⟩] (aC f h) (k:=bu (k:=?_)))))));refine⟨⟨i+1,by omega⟩,by grind,aj ⟨rfl,rfl,trivial⟩ ?_⟩;simp[wk]
 have c:i=x.length:=by omega
 subst c;refine ar (k:=aW rfl (ar (k:=aE @results153)))
abbrev DF (n c:Nat) (f:FF) (y:List Int):List Int:=aN n fun i=>dt (aN c (f i)) y c
theorem Lm (n c:Nat) (f:FF) (y:List Int) (b:1<=n) (x:n<=16) (h:1<=c) (u:c<=16) (C:y.length=c) (v: ∀i j:Nat,Sz (f i j) 1024) (A: ∀z∈y,Sz z 65536):
  CallC prog 205 [dr (mat n c f),xr y] ⟨[],.tup [(false,[.p (.sl (ls fZ (DF n c f y)))]),(false,[.p (.raw (.bool true))])]⟩:=by
 have r:=tp (mat n c f);rw[jB (oP f b x h u),aU,jq f b]at r;have m:=aU n c f;refine ax func205 rfl ntmps205 (aA (k:=bj [⟨1,_,_,_,r⟩] (k:=ai (ar (k:=ao rfl (ak (bi (k:=ai (dR m (k:=?_))))))))));refine ay (G:=fY n) (fun g=>⟨(jk::xr y::jk::jk::.raw (.slice none 0 0)::.raw (.bool false)::jk::jk::jk::.one (.sl 37 0 0 g.i)::j16 (dr (mat n c f)::rN n::rN g.i::j4 (j4 (jk::jk::jk::[])))),Hm [(37,[⟨65,2,lc fZ (DF g.i c f y)⟩])]⟩) (fun g=>n-g.i) ⟨0,by omega⟩ ?_ ?_
 ·refine(cz (k:=9) (d:=37) 65 2 (by omega) rfl rfl).trans (aj ⟨rfl,trivial⟩ ?_);simp[wk]
 rintro⟨i,B⟩;simp only;by_cases w:i<n
 ·have e:=bD c f w;have q:=BW (aN c (f i)) y (by rw[aD];omega) (by rw[aD];omega) (fun z o=>by
   obtain⟨j,_,rfl⟩:=acn.1 o;exact(v i j).mono (by omega)) (fun z o=>(A z o).mono (by omega))
  rw[aD]at q;have s:lc fZ (DF i c f y)++[[.p (.raw (.bool (decide (dt (aN c (f i)) y c<0)))),.p (.sl (ls fU (au (dt (aN c (f i)) y c).natAbs)))]]=lc fZ (DF (i+1) c f y):=by
   grind [nw,j7]
  refine ar (k:=aV rfl (ai (am (aH e (k:=vU [⟨3,_,_,_,q⟩] (aC @aD s) (k:=bu (k:=?_)))))));refine⟨⟨i+1,by omega⟩,by grind,aj ⟨rfl,trivial⟩ ?_⟩;simp[wk]
 have l:i=n:=by omega
 subst l;refine ar (k:=aW rfl (bi (k:=?_)));refine aQ ⟨.inr rfl,dp 37 (bf rfl) ?_ rfl⟩;have t:List.take i (DF i c f y)=DF i c f y:=ack (by rw[aD];omega);simp(disch:=omega) only[kd,results205,t]
theorem I9 {y:List Int} (h:isReducedM (mat n n b)=true) (j:vD y=true):gR (mat n n b) y=DF n n b y:=by
 have g:=jX h;have e:=g.2.1;rw[aU]at e;apply acz;intro i;rw[gR,ach];by_cases c:i<n
 ·rw[bD _ _ c,aB _ c];simp only[adB,aD];exact congrArg some (rV (g.row_bd (bD _ _ c)) (fun i z l=>jN j l) n e).1
 grind [aU,aD]
end Go.Proofs.YtalmoejhjceflaaGreat
