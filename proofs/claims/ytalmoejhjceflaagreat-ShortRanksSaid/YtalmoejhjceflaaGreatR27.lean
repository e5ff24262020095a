/-
  Part 28 of a proof (walks and plain facts).
-/
import Derived.Test.YtalmoejhjceflaaGreatR26
set_option linter.all false
set_option maxRecDepth 100000
set_option maxHeartbeats 64000000
namespace Go.Proofs.YtalmoejhjceflaaGreat
open Go.RowKit Go.Proofs.Tryz
variable {n m:Nat} {b:FF} {x:Int}
theorem n4 {k:Nat} (h:x.natAbs<4294967296) (b:1<=k):Sz x k:=by
 grind [Sz]
theorem uX (k:Nat):Sz 0 k:=by grind [Sz]
theorem Xz {p k:Nat} (l:p<n) (f:k<n) (h: ∀i j,i<n->j<n->Sz (b i j) m): ∀i j,i<n->j<n->Sz (swp p k b i j) m:=fun i j c e=>by
 unfold swp;grind
theorem WY {k:Nat} (last:Int) (c:k<n) (h: ∀i j,i<n->j<n->Sz (b i j) m): ∀i j,i<n->j<n->Sz (MJ k last b i j) (2*m+1):=fun x y e f=>by
 unfold MJ;split
 ·exact((((h k k c c).mul (h x y e f)).sub ((h x k e c).mul (h k y c f))).ediv last).mono (by omega)
 exact(h x y e f).mono (by omega)
theorem IL {n:Nat} (s:n<=16): ∀m k g last neg b,n-k=m->k<=n->(∀i j,i<n->j<n->Sz (g i j) b)->Sz last b->b+1<=1025*2^k->Sz (detG n k g last neg) 67174400
 |0,k,g,last,neg,b,r,q,e,c,o=>by
  have l:=jR (k:=k) (by omega);rw[detG,if_neg (by omega)];split
  ·exact c.neg.mono (by omega)
  exact c.mono (by omega)
 |m+1,k,g,last,neg,b,r,q,e,c,o=>by
  rw[detG,if_pos (by omega)];split
  ·exact uX _
  rename_i u;have t:=GV (f:=g) (n:=n) (k:=k) (n-k) k rfl;have h:=Xz (p:=piv g n k k) (k:=k) (by omega) (by omega) e;exact IL s m (k+1) _ _ _ (2*b+1) (by omega) (by omega) (WY last (by omega) h) ((h k k (by omega) (by omega)).mono (by omega)) (by omega)
theorem qx {n:Nat} {f:FF} (c:n<=16) (b: ∀i j,i<n->j<n->Sz (f i j) 1024):Sz (detF n f) 67174400:=
 IL c n 0 f 1 false 1024 rfl (by omega) b (mL (by omega)) (by omega)
theorem i6 (f:FF) (h:1<=n):((mat n m f).headD []).length=m:=by
 have:=iY (M:=mat n m f) (by rw[aT];omega);grind [bF,aI]
theorem mA (f:FF) (e:1<=n) (h:n<=16) (b:1<=m) (g:m<=16):Fu (mat n m f):=by
 refine⟨by rw[aT];omega,by rw[aT];omega,fun r j=>?_⟩;grind [List.mem_iff_getElem?,aT,bF,aI,i6]
theorem RQ {M:List (List Int)} (h:Fu M):M=mat M.length (M.headD []).length (ent M):=Jc fun r b=>(h.2.2 r b).2.2
theorem JJ (f:FF) (b:1<=n) (c:n<=16):Vl (mat n n f)= .tup [(false,[.p (.raw (.int .i64 (n:Int)))]),(false,[.p (.raw (.bool true))])]:=by
 grind [Zj,mA,aT,i6,Vl]
theorem Xn (f:FF) (b:1<=n) (h:n≠m):Vl (mat n m f)= .tup [(false,[.p (.raw (.int .i64 0))]),(false,[.p (.raw (.bool false))])]:=by
 unfold Vl;rw[if_neg];intro e;have:=e.2;grind [aT,i6]
abbrev Ff (n:Nat) (f:FF):List Int:=aN n fun k=>detF (k+1) f
def YS (n:Nat) (f:FF):TV:= .tup [(false,[.p (.sl (ls fZ (Ff n f)))]),(false,[.p (.raw (.bool true))])]
theorem P7 (k:Nat) (f:FF):((List.range (k+1)).map fun i=>(List.range (k+1)).map (f i))=mat (k+1) (k+1) f:=rfl
theorem rZ (n:Nat) (f:FF) (l:1<=n) (h:n<=16) (s: ∀i j,i<n->j<n->Sz (f i j) 1024):CallC prog 98 [da (mat n n f)] ⟨[],YS n f⟩:=by
 have b:=CF (mat n n f);rw[JJ f l h]at b;refine aA func98 rfl ntmps98 (aC (k:=bK [⟨1,_,_,_,b⟩] (k:=ai (bC (k:=aq rfl (ak (bC (k:=ai (bC (k:=?_))))))))));refine aB (G:=jx n) (fun g=>⟨(da (mat n n f)::jk::.raw (.slice none 0 0)::.raw (.bool false)::rN n::jk::.one (.sl 31 0 0 g.i)::rN g.i::j16 (j4 (j4 (jk::[])))),Hm [(31,[⟨65,2,lc fZ (Ff g.i f)⟩])]⟩) (fun g=>n-g.i) ⟨0,by omega⟩ ?_ ?_
 ·refine(dZ (k:=6) (d:=31) 65 2 (by omega) rfl rfl).trans (aj ⟨rfl,trivial⟩ ?_);simp[wk]
 rintro⟨k,w⟩;simp only;by_cases y:k<n
 ·have c:=SN k k (by omega) (by omega);rw[<- abg]at c;have m:=CE n n f (List.range (k+1)) (List.range (k+1)) h h (fun x t=>by grind) (fun x t=>by grind) (by simp;omega) (by simp;omega);rw[P7]at m;have o:=iJ (k+1) f (by omega) (by omega) (fun i j u v=>s i j (by omega) (by omega));have q:lc fZ (Ff k f)++[[.p (.raw (.bool (decide (detF (k+1) f<0)))),.p (.sl (ls fU (au (detF (k+1) f).natAbs)))]]=lc fZ (Ff (k+1) f):=by
   grind [qJ,jS]
  refine ai (ar (k:=ay rfl (ak (ai (am (Nj [⟨4,_,_,_,c⟩,⟨7,_,_,_,c⟩,⟨8,_,_,_,m⟩,⟨9,_,_,_,o⟩] (aH @aI q) (k:=bS (k:=?_))))))));refine⟨⟨k+1,by omega⟩,by grind,aj ⟨rfl,trivial⟩ ?_⟩;simp[wk]
 have e:k=n:=by omega
 subst e;refine ai (ar (k:=aq rfl (aZ (bC (k:=?_)))));refine aW ⟨.inr rfl,jt 31 (bO rfl) ?_ rfl⟩;have r:List.take k (Ff k f)=Ff k f:=aaz (by rw[aI];omega);simp(disch:=omega) only[kd,results98,r,YS]
structure SyG (n:Nat) (f:FF) where
 i:Nat
 hi:i<=n
 ok: ∀a,a<i-> ∀b,b<a->f a b=f b a
structure SyI (n i:Nat) (f:FF) where
 j:Nat
 hj:j<=i
 ok: ∀b,b<j->f i b=f b i
theorem KH (a:Int):sE a a=0:=by simp[sE]
theorem NJ {a:Int} (h:a≠x):sE a x≠0:=by grind [sE]
theorem m0 (n:Nat) (f:FF) (D:n<=16) (w: ∀i j,i<n->j<n->Sz (f i j) 1024) (r:Bool) (x:r=true↔SymF f n):CallC prog 103 [da (mat n n f)] ⟨[],.raw (.bool r)⟩:=by
 have o:=aT n n f;refine aA func103 rfl ntmps103 (aC (k:=ai (f9 o (k:=?_))));refine aB (G:=SyG n f) (fun g=>⟨(da (mat n n f)::jk::.raw (.bool false)::jk::jk::jk::rN n::rN g.i::j16 (j4 (j4 ([])))),Hm []⟩) (fun g=>n-g.i) ⟨0,by omega,fun a m=>by omega⟩ ?_ ?_
 ·refine aj trivial ?_;simp[wk]
 rintro⟨i,B,ok⟩;simp only;by_cases c:i<n
 ·refine ar (k:=be rfl (ai (am (bC (k:=bC (k:=?_))))));refine aB (G:=SyI n i f) (fun g=>⟨(da (mat n n f)::jk::.raw (.bool false)::rN i::rN g.j::jk::rN n::rN i::j16 (j4 (j4 ([])))),Hm []⟩) (fun g=>i-g.j) ⟨0,by omega,fun a m=>by omega⟩ ?_ ?_
  ·refine aj trivial ?_;simp[wk]
  rintro⟨j,C,A⟩;simp only;by_cases y:j<i
  ·have s:=bF n f c;have t:=bF n f (show j<n by omega);have h:=aw (f i) (show j<n by omega);have u:=aw (f j) c;have l:=Cs (f i j) (f j i) ((w i j c (by omega)).mono (by omega)) ((w j i (by omega) c).mono (by omega));by_cases e:f i j=f j i
   ·rw[e,KH]at l;rw[e]at h;refine ai (ar (k:=ay rfl (ak (ai (am (mb [⟨14,_,_,_,l⟩] (aH s (aH h (aH t u))) (k:=aq rfl (ak (bS (k:=?_))))))))));refine⟨⟨j+1,by omega,fun b v=>?_⟩,by simp only;omega,aj trivial ?_⟩
    ·grind
    simp[wk]
   have p:r=false:=by
    cases r with
    |false=>rfl
    |true=>exact absurd (x.1 rfl i c j (by omega)) e
   subst p;have z:=NJ e;refine ai (ar (k:=ay rfl (ak (ai (am (mb [⟨14,_,_,_,l⟩] (aH s (aH h (aH t u))) (k:=ay rfl (bC (k:=aD @results103)))))))))
  refine ai (ar (k:=aq rfl (aZ (bS (k:=?_)))));refine⟨⟨i+1,by omega,fun a m b v=>?_⟩,by simp only;omega,aj trivial ?_⟩
  ·grind
  simp[wk]
 have q:r=true:=x.2 fun a m b v=>by
  grind
 subst q;refine ar (k:=bv rfl (bC (k:=aD @results103)))
structure DfG (n:Nat) (f:FF) where
 i:Nat
 hi:i<=n
 ok: ∀a,a<i->0<detF (a+1) f
theorem Qc (h:0<x):sg x=1:=by grind [sg]
theorem TU (h: ¬0<x):sg x<=0:=by grind [sg]
theorem vg (n:Nat) (f:FF) (l:1<=n) (t:n<=16) (h: ∀i j,i<n->j<n->Sz (f i j) 1024) (z:SymF f n) (r:Bool) (u:r=true↔CC f n):CallC prog 104 [da (mat n n f)] ⟨[],.raw (.bool r)⟩:=by
 have w:=rZ n f l t h;have x:=m0 n f t h true (by simp[z]);refine aA func104 rfl ntmps104 (aC (k:=im [⟨1,_,_,_,w⟩] @YS.eq_1 (k:=ai (bL [⟨4,_,_,_,x⟩] (k:=aq rfl (ak (ai (f9 @aI (k:=?_)))))))));refine aB (G:=DfG n f) (fun g=>⟨(jk::jk::.raw (.bool false)::j16 (.one (.p (.sl (ls fZ (Ff n f))))::rN n::rN g.i::j4 (jk::jk::jk::[]))),Hm []⟩) (fun g=>n-g.i) ⟨0,by omega,fun a e=>by omega⟩ ?_ ?_
 ·refine aj trivial ?_;simp[wk]
 rintro⟨i,C,ok⟩;simp only;by_cases s:i<n
 ·have v:(Ff n f)[i]?=some (detF (i+1) f):=aw _ s;have A:=qx (n:=i+1) (f:=f) (by omega) (fun a b e B=>h a b (by omega) (by omega));have c:=mI (detF (i+1) f) (A.mono (by omega));refine ar (k:=be rfl (ai (am (aL v (k:=?_)))));by_cases m:0<detF (i+1) f
  ·rw[Qc m]at c;refine bL [⟨1,_,_,_,c⟩] (k:=aq rfl (ak (bS (k:=?_))));refine⟨⟨i+1,by omega,fun a e=>?_⟩,by simp only;omega,aj trivial ?_⟩
   ·grind
   simp[wk]
  have o:r=false:=by
   cases r with
   |false=>rfl
   |true=>exact absurd (u.1 rfl i s) m
  subst o;have y:=TU m;refine bL [⟨1,_,_,_,c⟩] (k:=ay rfl (bC (k:=aD @results104)))
 have q:r=true:=u.2 fun a e=>ok a (by omega)
 subst q;refine ar (k:=bv rfl (bC (k:=aD @results104)))
theorem AU (a b:Int):decide (sE a b<=0)=decide (a<=b):=by
 grind [sE]
theorem Sn (a b:Int):decide (0<=sE a b)=decide (b<=a):=by
 grind [sE]
theorem Ew (n:Nat) (f:FF) (c:1<=n) (g:n<=16) (e: ∀i j,i<n->j<n->Sz (f i j) 1024):CallC prog 54 [da (mat n n f)] ⟨[],.raw (.bool (decide (detF n f<=10000)))⟩:=by
 have l:=iJ n f c g e;have m:=fc 10000 (by omega) (by omega);have h:=Cs (detF n f) 10000 ((qx g e).mono (by omega)) (n4 (by decide) (by omega));have b:=AU (detF n f) 10000;refine aA func54 rfl ntmps54 (aC (k:=cO [⟨1,_,_,_,l⟩,⟨2,_,_,_,m⟩,⟨3,_,_,_,h⟩] b (k:=aD @results54)))
theorem o9 (n c:Nat) (f:FF) (g:1<=n) (l:n<=16) (s:1<=c) (u:c<=16) (o: ∀i j,i<n->j<c->Sz (f i j) 1024):
  ∃e:Int,(e=0↔(n=c/\n<=8/\SymF f n/\CC f n))/\CallC prog 50 [da (mat n c f)] ⟨[],.raw (.int .i64 e)⟩:=by
 have b:=CF (mat n c f);by_cases p:n=c
 ·subst p;rw[JJ f g l]at b;by_cases t:8<n
  ·refine⟨3,by omega,?_⟩;refine aA func50 rfl ntmps50 (aC (k:=bK [⟨1,_,_,_,b⟩] (k:=ai (am (ar (k:=ay rfl (bC (k:=aD @results50))))))))
  by_cases h:SymF f n
  ·have m:=m0 n f l o true (by simp[h]);by_cases q:CC f n
   ·have r:=vg n f g l o h true (by simp[q]);refine⟨0,by grind,?_⟩;refine aA func50 rfl ntmps50 (aC (k:=bK [⟨1,_,_,_,b⟩] (k:=ai (am (ar (k:=aq rfl (bK [⟨1,_,_,_,m⟩] (k:=aq rfl (bK [⟨1,_,_,_,r⟩] (k:=aq rfl (ak (bC (k:=aD @results50)))))))))))))
   have r:=vg n f g l o h false (by simp[q]);refine⟨5,by simp[q],?_⟩;refine aA func50 rfl ntmps50 (aC (k:=bK [⟨1,_,_,_,b⟩] (k:=ai (am (ar (k:=aq rfl (bK [⟨1,_,_,_,m⟩] (k:=aq rfl (bK [⟨1,_,_,_,r⟩] (k:=ay rfl (bC (k:=aD @results50))))))))))))
  have m:=m0 n f l o false (by simp[h]);refine⟨4,by simp[h],?_⟩;refine aA func50 rfl ntmps50 (aC (k:=bK [⟨1,_,_,_,b⟩] (k:=ai (am (ar (k:=aq rfl (bK [⟨1,_,_,_,m⟩] (k:=ay rfl (bC (k:=aD @results50))))))))))
 rw[Xn f g p]at b;refine⟨3,by simp[p],?_⟩;refine aA func50 rfl ntmps50 (aC (k:=bK [⟨1,_,_,_,b⟩] (k:=ai (am (ar (k:=ay rfl (bC (k:=aD @results50))))))))
theorem TT (i j:Nat) (f:FF):((List.range j++[i]).map fun r=>(List.range (j+1)).map (f r))=mat (j+1) (j+1) (qI f i j):=by
 rw[mat,abg,abe,abe]
 congr 1
 ·refine aaN fun r b=>?_
  have:=aa9.1 b;rw[<- abg];exact dm (m:=j+1) fun c _=>by grind [qI]
 simp only[aaI,aaY];rw[<- abg]
 congr 1
 exact dm (m:=j+1) fun c _=>by grind [qI]
theorem I4 {i:Nat} (h:i<n) (l:m<n) (g: ∀i m,i<n->m<n->Sz (b i m) 1024): ∀r c,r<m+1->c<m+1->Sz (qI b i m r c) 1024:=fun r c o e=>by
 grind [qI]
theorem GA {n i j:Nat} (h:n<=16) (e:i<n) (g:j<n) (c: ∀i j,i<n->j<n->Sz (b i j) 1024):Sz (lam b i j) 67174400:=
 qx (by omega) (I4 e g c)
theorem Dj {n k:Nat} (g:n<=16) (e:k<=n) (c: ∀i j,i<n->j<n->Sz (b i j) 1024):Sz (dd b k) 67174400:=by
 grind [dd,mL,qx]
theorem vk (n:Nat) (f:FF) (i j:Nat) (e:n<=16) (m:i<n) (o:j<n) (l: ∀i j,i<n->j<n->Sz (f i j) 1024):
  CallC prog 110 [da (mat n n f),.raw (.int .i64 (i:Int)),.raw (.int .i64 (j:Int))] ⟨[],tZ (lam f i j)⟩:=by
 have c:=CE n n f (List.range j++[i]) (List.range (j+1)) e e (fun x p=>by
  grind) (fun x p=>by grind) (by simp;omega) (by simp;omega)
 rw[TT]at c;have h:=iJ (j+1) (qI f i j) (by omega) (by omega) (I4 m o l);refine aA func110 rfl ntmps110 (aC (k:=bC (k:=ai (bC (k:=?_)))));refine aB (G:=jx j) (fun g=>⟨(da (mat n n f)::rN i::rN j::jk::jk::jk::.one (.ptr 6 0 0 0)::.one (.sl 18 0 0 g.i)::.one (.sl 22 0 0 g.i)::rN g.i::j16 (j4 (j4 ([])))),Hm [(6,AO),(18,[⟨3,1,lc fN (List.range g.i)⟩]),(22,[⟨3,1,lc fN (List.range g.i)⟩])]⟩) (fun g=>j-g.i) ⟨0,by omega⟩ ?_ ?_
 ·refine(dZ (k:=7) (d:=18) 3 1 (by omega) rfl rfl).trans ((dZ (k:=8) (d:=22) 3 1 (by omega) rfl rfl).trans (aj ⟨rfl,rfl,rfl,trivial⟩ ?_));simp[wk]
 rintro⟨k,q⟩;simp only;by_cases r:k<j
 ·refine ai (ar (k:=ay rfl (ak (ai (am (aL (aH @acs @lO) (k:=eK (aH @acs @lO) (k:=bS (k:=?_)))))))));refine⟨⟨k+1,by omega⟩,by grind,aj ⟨rfl,?_,?_,trivial⟩ ?_⟩
  ·rw[abg];rfl
  ·rw[abg];rfl
  simp[wk]
 have b:k=j:=by omega
 subst b;refine ai (ar (k:=aq rfl (aZ ?_)));show bf _ _ _ _;refine iq 9 [⟨9,_,_,_,c⟩,⟨10,_,_,_,h⟩] [] (by simp[wk]) (by decide) fun _ K=>?_;simp(disch:=omega) only[kd,da,B5,tZ,Nat.reduceAdd,Nat.reduceMul,Nat.reduceLeDiff,Nat.reduceEqDiff,acs,lO,Nat.reduceBEq];apply K
 refine⟨⟨(j4 (jk::jk::.one (.ptr 6 0 0 0)::j16 (da (mat n n f)::jk::jk::jk::B5 (List.range k++[i])::jk::jk::jk::B5 (List.range (k+1))::jk::jk::[]))),Hm [(6,AO)]⟩,(bD 18 (bO rfl)).trans ((bD 22 (bO rfl)).trans (aj ⟨rfl,trivial⟩ ?_)),by simp[wk],?_⟩
 ·simp[wk,ew,dF,ax,Hm,eY,eG,abg,aaz]
 intro _ K;simp(disch:=omega) only[kd,da,B5,tZ,Nat.reduceAdd,Nat.reduceBEq];apply K;rw[<- lam]
 (refine aW ⟨.inr rfl,bW rfl ?_ rfl⟩;simp(disch:=omega) only[kd,results110,Nat.reduceAdd,tZ])
theorem qO (n:Nat) (f:FF) (k:Nat) (j:n<=16) (h:k<=n):
  CallC prog 111 [yg (Ff n f),.raw (.int .i64 (k:Int))] ⟨[],tZ (dd f k)⟩:=by
 have e:=fc 1 (by omega) (by omega);by_cases b:k=0
 ·subst b;rw[show dd f 0=1 from rfl];refine aA func111 rfl ntmps111 (aC (k:=ai (ar (k:=ay rfl (bL [⟨0,_,_,_,e⟩] (k:=aD @results111))))))
 rw[show dd f k=detF k f from if_neg b];have g:((k:Int)-1).toNat=k-1:=by omega
 have c:(Ff n f)[k-1]?=some (detF k f):=by grind [aw]
 refine aA func111 rfl ntmps111 (aC (k:=ai (ar (k:=aq rfl (ak (aL (aH g c) (k:=aD @results111)))))))
theorem Ir (n:Nat) (f:FF) (i j:Nat) (c:n<=16) (m:i<n) (o:j<n) (e: ∀i j,i<n->j<n->Sz (f i j) 1024):
  CallC prog 107 [da (mat n n f),yg (Ff n f),.raw (.int .i64 (i:Int)),.raw (.int .i64 (j:Int))] ⟨[],.raw (.bool (decide (2*((lam f i j).natAbs:Int)<=dd f (j+1))))⟩:=by
 have p:=GA c m o e;have v:=Dj (k:=j+1) c (by omega) e;have b:Sz ((lam f i j).natAbs:Int) 67174400:=p.le (by omega);have w:Sz (2*((lam f i j).natAbs:Int)) (1+67174400):=Sz.mul (n4 (by decide) (by omega)) b;have q:=fc 2 (by omega) (by omega);have r:=vk n f i j c m o e;have s:=No (lam f i j) (p.mono (by omega));have t:=jY 2 ((lam f i j).natAbs:Int) (n4 (by decide) (by omega)) (b.mono (by omega));have h:=qO n f (j+1) c (by omega);rw[show((j+1:Nat):Int)=(j:Int)+1 by omega]at h;have u:=Cs (2*((lam f i j).natAbs:Int)) (dd f (j+1)) (w.mono (by omega)) (v.mono (by omega));have g:=AU (2*((lam f i j).natAbs:Int)) (dd f (j+1));generalize lam f i j=l at*
 generalize dd f (j+1)=d at*
 refine aA func107 rfl ntmps107 (aC (k:=cO [⟨0,_,_,_,q⟩,⟨4,_,_,_,r⟩,⟨5,_,_,_,s⟩,⟨6,_,_,_,t⟩,⟨10,_,_,_,h⟩,⟨11,_,_,_,u⟩] g (k:=aD @results107)))
theorem CB (n:Nat) (f:FF) (i:Nat) (c:n<=16) (r:i<n) (G:0<i) (e: ∀i j,i<n->j<n->Sz (f i j) 1024):
  CallC prog 112 [da (mat n n f),yg (Ff n f),.raw (.int .i64 (i:Int))] ⟨[],.raw (.bool (decide (3*(dd f i*dd f i)<=4*(dd f (i-1)*dd f (i+1)+lam f i (i-1)*lam f i (i-1)))))⟩:=by
 have g:=GA (j:=i-1) c r (by omega) e;have d0:=Dj (k:=i-1) c (by omega) e;have d1:=Dj (k:=i) c (by omega) e;have d2:=Dj (k:=i+1) c (by omega) e;have m:=vk n f i (i-1) c r (by omega) e;have o:=qO n f (i-1) c (by omega);have p:=qO n f (i+1) c (by omega);have q:=qO n f i c (by omega);rw[show((i+1:Nat):Int)=(i:Int)+1 by omega]at p;rw[show((i-1:Nat):Int)=(i:Int)-1 by omega]at m o;have D:=fc 4 (by omega) (by omega);have C:=fc 3 (by omega) (by omega);generalize lam f i (i-1)=l at*
 generalize dd f (i-1)=a at*
 generalize dd f (i+1)=b at*
 generalize dd f i=d at*
 have s:Sz (a*b) 134348800:=(d0.mul d2).mono (by omega);have t:Sz (l*l) 134348800:=(g.mul g).mono (by omega);have u:Sz (a*b+l*l) 134348801:=s.add t;have E:Sz (4*(a*b+l*l)) 134348802:=(Sz.mul (n4 (k:=1) (by decide) (by omega)) u).mono (by omega);have v:Sz (d*d) 134348800:=(d1.mul d1).mono (by omega);have F:Sz (3*(d*d)) 134348802:=(Sz.mul (n4 (k:=1) (by decide) (by omega)) v).mono (by omega);have w:=jY a b (d0.mono (by omega)) (d2.mono (by omega));have x:=jY l l (g.mono (by omega)) (g.mono (by omega));have m3:=ve (a*b) (l*l) (s.mono (by omega)) (t.mono (by omega));have y:=jY 4 (a*b+l*l) (n4 (by decide) (by omega)) (u.mono (by omega));have z:=jY d d (d1.mono (by omega)) (d1.mono (by omega));have A:=jY 3 (d*d) (n4 (by decide) (by omega)) (v.mono (by omega));have B:=Cs (4*(a*b+l*l)) (3*(d*d)) (E.mono (by omega)) (F.mono (by omega));have h:=Sn (4*(a*b+l*l)) (3*(d*d));refine aA func112 rfl ntmps112 (aC (k:=bL [⟨4,_,_,_,m⟩] (k:=di [⟨0,_,_,_,D⟩,⟨4,_,_,_,o⟩,⟨8,_,_,_,p⟩,⟨9,_,_,_,w⟩,⟨12,_,_,_,x⟩,⟨13,_,_,_,m3⟩,⟨14,_,_,_,y⟩] (k:=mb [⟨1,_,_,_,C⟩,⟨4,_,_,_,q⟩,⟨7,_,_,_,q⟩,⟨8,_,_,_,z⟩,⟨9,_,_,_,A⟩,⟨10,_,_,_,B⟩] h (k:=aD @results112)))))
structure RdG (n:Nat) (f:FF) where
 i:Nat
 hi:i<=n
 ok: ∀a,a<i->(∀b,b<a->SizF f a b)/\(0<a->LovF f a)
structure RdJ (n i:Nat) (f:FF) where
 j:Nat
 hj:j<=i
 ok: ∀b,b<j->SizF f i b
theorem LK (n:Nat) (f:FF) (v:1<=n) (u:n<=16) (o: ∀i j,i<n->j<n->Sz (f i j) 1024) (r:Bool) (w:r=true↔VJ f n):
  CallC prog 91 [da (mat n n f)] ⟨[],.raw (.bool r)⟩:=by
 have z:=rZ n f v u o;have t:=aT n n f;refine aA func91 rfl ntmps91 (aC (k:=im [⟨1,_,_,_,z⟩] @YS.eq_1 (k:=ai (f9 t (k:=?_)))));refine aB (G:=RdG n f) (fun g=>⟨(da (mat n n f)::jk::.raw (.bool false)::yg (Ff n f)::j4 (j4 (jk::rN n::rN g.i::j16 (j4 (jk::jk::jk::[]))))),Hm []⟩) (fun g=>n-g.i) ⟨0,by omega,fun a l=>by omega⟩ ?_ ?_
 ·refine aj trivial ?_;simp[wk]
 rintro⟨i,C,ok⟩;simp only;by_cases m:i<n
 ·refine ar (k:=be rfl (ai (am (bC (k:=ai (bC (k:=?_)))))));refine aB (G:=RdJ n i f) (fun g=>⟨(da (mat n n f)::jk::.raw (.bool false)::yg (Ff n f)::jk::rN i::rN g.j::j4 (jk::jk::rN n::rN i::j16 (j4 (jk::jk::jk::[])))),Hm []⟩) (fun g=>i-g.j) ⟨0,by omega,fun a l=>by omega⟩ ?_ ?_
  ·refine aj trivial ?_;simp[wk]
  rintro⟨j,D,A⟩;simp only;by_cases s:j<i
  ·have c:=Ir n f i j u m (by omega) o;by_cases h:SizF f i j
   ·rw[decide_eq_true (show 2*((lam f i j).natAbs:Int)<=dd f (j+1)from h)]at c;refine ai (ar (k:=ay rfl (ak (ai (am (bK [⟨4,_,_,_,c⟩] (k:=aq rfl (ak (bS (k:=?_))))))))));refine⟨⟨j+1,by omega,fun b B=>?_⟩,by simp only;omega,aj trivial ?_⟩
    ·grind
    simp[wk]
   have e:r=false:=by
    cases r with
    |false=>rfl
    |true=>exact absurd ((w.1 rfl i m).1 j s) h
   subst e;rw[decide_eq_false (show ¬2*((lam f i j).natAbs:Int)<=dd f (j+1)from h)]at c;refine ai (ar (k:=ay rfl (ak (ai (am (bK [⟨4,_,_,_,c⟩] (k:=ay rfl (bC (k:=aD @results91)))))))))
  have q:j=i:=by omega
  subst q;refine ai (ar (k:=aq rfl (aZ ?_)));show bf _ _ _ _;by_cases y:0<j
  ·have c:=CB n f j u m y o;by_cases h:LovF f j
   ·rw[decide_eq_true (show 3*(dd f j*dd f j)<=4*(dd f (j-1)*dd f (j+1)+lam f j (j-1)*lam f j (j-1))from h)]at c;refine bL [⟨6,_,_,_,c⟩] (k:=aq rfl (ak (bS (k:=?_))));refine⟨⟨j+1,by omega,fun a l=>?_⟩,by simp only;omega,aj trivial ?_⟩
    ·grind
    simp[wk]
   have e:r=false:=by
    cases r with
    |false=>rfl
    |true=>exact absurd ((w.1 rfl j m).2 y) h
   subst e;rw[decide_eq_false (show ¬3*(dd f j*dd f j)<=4*(dd f (j-1)*dd f (j+1)+lam f j (j-1)*lam f j (j-1))from h)]at c;refine bL [⟨6,_,_,_,c⟩] (k:=ay rfl (bC (k:=aD @results91)))
  have p:j=0:=by omega
  subst p;refine ar (k:=aq rfl (ak (bS (k:=?_))));refine⟨⟨1,by omega,fun a l=>?_⟩,by simp only;omega,aj trivial ?_⟩
  ·grind
  simp[wk]
 have x:r=true:=w.2 fun a l=>ok a (by omega)
 subst x;refine ar (k:=bv rfl (bC (k:=aD @results91)))
def I64 (z:Int):Prop:= -9223372036854775808<=z/\z<=9223372036854775807
theorem I64.sz (h:I64 x) {k:Nat} (b:2<=k):Sz x k:=by
 have:Sz x 2:=by
  unfold Sz;have:=h.1;have:=h.2;omega
 exact this.mono b
def MI (M:List (List Int)):Prop:= ∀r∈M,∀z∈r,I64 z
theorem MI.ent {M:List (List Int)} (h:MI M) (i j:Nat):I64 (ent M i j):=by
 simp only[Go.Proofs.YtalmoejhjceflaaGreat.ent,aaw];cases b:M[i]? with
 |none=>simp[I64]
 |some r=>
  simp only[abD];cases c:r[j]? with
  |none=>simp[I64]
  |some z=>exact h r (aai b) z (aai c)
theorem Xp (e:1<=n):Sq (mat n m b)↔n=m:=by
 grind [Sq,mat,aI]
theorem Fs {g:FF} (h: ∀i j,i<n->j<n->b i j=g i j) (q:RedR b n):RedR g n:=by
 obtain⟨y,z,A,o⟩:=q;have x: ∀k,k<=n->dk g k=dk b k:=fun k u=>ny fun i j e s=>(h i j (by omega) (by omega)).symm
 have w: ∀t i,t<n->i<n->bk g t i t=bk b t i t:=fun t i m e=>by
  have v:dk (qI g i t) (t+1)=bk g t i t:=F7 (fun r c B p=>by grind [qI]) (fun c p=>by grind [qI]);grind [qI,F7]
 refine⟨fun i e j s=>by grind,fun k u=>by grind,by grind,fun t m=>⟨fun i e l=>?_,?_⟩⟩
 ·have:=(o t m).1 i e l;grind
 grind [Rs]
theorem MP (e:1<=n):VI (mat n m b)↔n=m/\n<=8/\RedR b n:=by
 grind [VI,aT,Xp,Fs,SM]
theorem CA (M:List (List Int)) (E:MI M):CallC prog 41 [cq M] ⟨[],.raw (.bool (isReducedM M))⟩:=by
 have B:=j7 M;generalize isReducedM M=r at*
 by_cases h:Fu M
 ·obtain⟨n,c,f,rfl,b,q,m,y,p⟩: ∃n c f,M=mat n c f/\1<=n/\n<=16/\1<=c/\c<=16/\ ∀i j:Nat,I64 (f i j):=by
   have D:=iY (M:=M) h.1;have z:=h.2.2 _ (aai D);exact⟨M.length,(M.headD []).length,ent M,RQ h,h.1,h.2.1,z.1,z.2.1,fun i j=>E.ent i j⟩
  rw[MP b]at B;have l:=vh n c f b q m y (fun i j _ _=>p i j);obtain⟨e,G,s⟩:=o9 n c f b q m y (fun i j _ _=>(p i j).sz (by omega));by_cases v:e=0
  ·obtain⟨rfl,J,L,K⟩:=G.1 v;subst v;have o:=Ew n f b q (fun i j _ _=>(p i j).sz (by omega));by_cases w:detF n f<=10000
   ·rw[decide_eq_true w]at o;have F:=LK n f b q (fun i j _ _=>(p i j).sz (by omega)) r (by
     grind [uM])
    refine aA func41 rfl ntmps41 (aC (k:=im [⟨1,_,_,_,l⟩] @Ru.eq_1 (k:=bL [⟨3,_,_,_,s⟩,⟨8,_,_,_,o⟩,⟨12,_,_,_,F⟩] (k:=aD @results41))))
   have g:r=false:=by
    grind [uM]
   subst g;rw[decide_eq_false w]at o;refine aA func41 rfl ntmps41 (aC (k:=im [⟨1,_,_,_,l⟩] @Ru.eq_1 (k:=bL [⟨3,_,_,_,s⟩,⟨8,_,_,_,o⟩] (k:=aD @results41))))
  have g:r=false:=by
   grind [uM]
  subst g;refine aA func41 rfl ntmps41 (aC (k:=im [⟨1,_,_,_,l⟩] @Ru.eq_1 (k:=bL [⟨3,_,_,_,s⟩] (k:=aD @results41))))
 have l:=Cx M h;have g:r=false:=by
  cases r with
  |false=>rfl
  |true=>
   obtain⟨u,I,C,_⟩:=B.1 rfl;refine absurd ⟨u,by omega,fun x H=>?_⟩ h;obtain⟨i,t⟩:=abd.1 H;have A: ∀(i:Nat) x,M[i]?=some x->x.length=M.length:=fun i x t=>by
    have:=C i (aao.1 t).1;grind
   rw[rOk,A i x t,A 0 _ (iY u)];omega
 subst g;refine aA func41 rfl ntmps41 (aC (k:=im [⟨1,_,_,_,l⟩] @WE.eq_1 (k:=ar (k:=aD @results41))))
structure InG (x:List Int) where
 i:Nat
 hi:i<=x.length
 ok: ∀j c,j<i->x[j]?=some c-> -1099511627776<=c/\c<=1099511627776
theorem Oq (x:List Int):CallC prog 122 [mY x] ⟨[],.raw (.bool (Ay x))⟩:=by
 refine Kz 0 (ls fI x) rfl (fun b=>?_) (by kernel_rfl);rw[co]at b;refine aA func122 rfl ntmps122 (aC (k:=ai (bC (k:=?_))));refine aB (G:=InG x) (fun g=>⟨(jk::jk::.raw (.bool false)::jk::jk::mY x::rN x.length::rN g.i::j4 (j4 (jk::jk::[]))),Hm []⟩) (fun g=>x.length-g.i) ⟨0,by omega,fun j c n=>by omega⟩ ?_ ?_
 ·refine aj trivial ?_;simp[wk]
 rintro⟨i,m,ok⟩;simp only;by_cases l:i<x.length
 ·obtain⟨c,e⟩:=getElem?_of_lt l;refine ar (k:=be rfl (ai (am (aL e (k:=?_)))));by_cases f:c< -1099511627776
  ·rw[n9 e (.inl f)];refine ar (k:=ay rfl (bC (k:=aD @results122)))
  by_cases h:1099511627776<c
  ·rw[n9 e (.inr h)];refine ar (k:=ay rfl (bC (k:=aD @results122)))
  refine ar (k:=aq rfl (ak (bS (k:=?_))));refine⟨⟨i+1,by omega,tj ok e (by omega)⟩,by grind,aj trivial ?_⟩;simp[wk]
 rw[Cz (k:=i) (by omega) ok];refine ar (k:=bv rfl (bC (k:=aD @results122)))
theorem Vz (n:Nat) (x:List Int):CallC prog 64 [.raw (.int .i64 (n:Int)),mY x] ⟨[],.raw (.bool (FitB n x))⟩:=by
 have b:=Oq x;by_cases h:(x.length:Int)=(n:Int)
 ·rw[show FitB n x=Ay x by simp[FitB,h]];refine aA func64 rfl ntmps64 (aC (k:=bL [⟨6,_,_,_,b⟩] (k:=aD @results64)))
 rw[show FitB n x=false by simp[FitB,h]];refine aA func64 rfl ntmps64 (aC (k:=ar (k:=aD @results64)))
theorem AI {x y:List Int} {b c:Nat} (e: ∀i,Sz (x.getD i 0) b) (f: ∀i,Sz (y.getD i 0) c): ∀l,Sz (fo x y l) (b+c+l)
 |0=>uX _
 |l+1=>by
  show Sz (fo x y l+x.getD l 0*y.getD l 0) _;exact(AI e f l).add (((e l).mul (f l)).mono (by omega))
theorem uD {x:List Int} (h: ∀z∈x,Sz z n) (i:Nat):Sz (x.getD i 0) n:=by
 grind [uX]
theorem Yj (x y:List Int) (v:x.length<=16) (t:x.length<=y.length) (j: ∀z∈x,Sz z 16777216) (m: ∀z∈y,Sz z 67108864):CallC prog 153 [yg x,yg y] ⟨[],tZ (fo x y x.length)⟩:=by
 refine aA func153 rfl ntmps153 (aC (k:=ar (k:=ai (bC (k:=?_)))));refine aB (G:=ZC x.length) (fun g=>⟨(yg x::yg y::jk::jk::.one (.ptr 4 0 0 0)::.one (.ptr 5 0 0 0)::jk::jk::jk::rN x.length::rN g.i::j4 (j4 (j4 (jk::jk::jk::[])))),Hm [(4,AO),(5,qt (fo x y g.i))]⟩) (fun g=>x.length-g.i) ⟨0,by omega⟩ ?_ ?_
 ·refine(gn 5).trans (aj ⟨rfl,?_,trivial⟩ ?_)
  ·show _=qt 0;simp[zH,ax,zO,Fa,Fi,qt,Cp,cj,ls]
  simp[wk]
 rintro⟨i,u⟩;simp only;have s:=AI (uD j) (uD m) i;by_cases r:i<x.length
 ·obtain⟨a,f⟩:=getElem?_of_lt r;obtain⟨b,h⟩:=getElem?_of_lt (l:=y) (k:=i) (by omega);have n:=j a (aai f);have o:=m b (aai h);have p:=jY a b (n.mono (by omega)) (o.mono (by omega));have e:=ve (fo x y i) (a*b) (s.mono (by omega)) ((n.mul o).mono (by omega));have q:fo x y i+a*b=fo x y (i+1):=by
   grind [fo]
  rw[q]at e;refine ar (k:=be rfl (ai (am (bC (k:=gX [⟨9,_,_,_,p⟩,⟨10,_,_,_,e⟩] (aH f h) (k:=bS (k:=?_)))))));refine⟨⟨i+1,by omega⟩,by grind,aj ⟨rfl,rfl,trivial⟩ ?_⟩;simp[wk]
 have c:i=x.length:=by omega
 subst c;refine ar (k:=bv rfl (ar (k:=aD @results153)))
abbrev ZH (n c:Nat) (f:FF) (y:List Int):List Int:=aN n fun i=>fo (aN c (f i)) y c
theorem FN {y:List Int} (h:isReducedM (mat n n b)=true) (j:Ay y=true):fz (mat n n b) y=ZH n n b y:=by
 have g:=iB h;have e:=g.2.1;rw[aT]at e;apply aaC;intro i;rw[fz,aam];by_cases c:i<n
 ·rw[bF _ _ c,aw _ c];simp only[abv,aI];exact congrArg some (pg (g.row_bd (bF _ _ c)) (fun i z l=>l6 j l) n e).1
 grind [aT,aI]
end Go.Proofs.YtalmoejhjceflaaGreat
