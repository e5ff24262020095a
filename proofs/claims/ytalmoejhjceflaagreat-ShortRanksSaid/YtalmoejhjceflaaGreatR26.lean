/-
  Part 27 of a proof (walks and plain facts).
-/
import Derived.Test.YtalmoejhjceflaaGreatR25
set_option linter.all false
set_option maxRecDepth 100000
set_option maxHeartbeats 64000000
open Nat renaming reduceAdd → aa
open Nat renaming reduceEqDiff → ab
open List renaming replicate → ae
namespace Go.Proofs.YtalmoejhjceflaaGreat
open Go.RowKit Go.Proofs.Tryz
variable {n m:Nat} {x:Int}
theorem SN (k b:Nat) (j:k<=16) (f:b<=16):CallC prog 151 [.raw (.int .i64 (k:Int)),.raw (.int .i64 (b:Int))] ⟨[],B5 (List.range k++[b])⟩:=by
 refine aA func151 rfl ntmps151 (aC (k:=bC (k:=ai (bC (k:=?_)))));refine aB (G:=jx k) (fun g=>⟨(.raw (.int .i64 (k:Int))::rN b::jk::jk::.raw (.slice none 0 0)::.one (.sl 15 0 0 g.i)::rN g.i::j4 (j4 (j4 (jk::[])))),Hm [(15,[⟨3,1,lc fN (List.range g.i)⟩])]⟩) (fun g=>k-g.i) ⟨0,by omega⟩ ?_ ?_
 ·refine(dZ (k:=5) (d:=15) 3 1 (by omega) rfl rfl).trans (aj ⟨rfl,trivial⟩ ?_);simp[wk]
 rintro⟨i,h⟩;simp only;by_cases f:i<k
 ·refine ai (ar (k:=ay rfl (ak (ai (am (eK (aH @acs @lO) (k:=bS (k:=?_))))))));refine⟨⟨i+1,by omega⟩,by grind,aj ⟨?_,trivial⟩ ?_⟩
  ·rw[abg];rfl
  simp[wk]
 have c:i=k:=by omega
 subst c;refine ai (ar (k:=aq rfl (aZ (aL (aH @acs @lO) (k:=?_)))));refine aW ⟨.inr rfl,jt 15 (bO rfl) ?_ rfl⟩;have e:List.take (i+1) (List.range i++[b])=List.range i++[b]:=aaz (by simp);simp(disch:=omega) only[kd,results151,e,B5]
structure ZC (n:Nat) where
 i:Nat
 hi:i<=n
theorem qJ (l:List Int) (v:Int):lc fZ l++[[.p (.raw (.bool (decide (v<0)))),.p (.sl (ls fU (au v.natAbs)))]]=lc fZ (l++[v]):=by simp[lc,fZ]
theorem DI (M:List (List Int)) (r:List Int):lc (fR fZ) M++[[.p (.sl (ls fZ r))]]=lc (fR fZ) (M++[r]):=by simp[lc,fR]
theorem An {b c:Type} {l:List b} {i:Nat} {x:b} (g:b->c) (h:l[i]?=some x):(l.take i).map g++[g x]=(l.take (i+1)).map g:=by
 grind [List.take_add_one]
theorem CE (n c:Nat) (f:FF) (b e:List Nat) (L:n<=16) (I:c<=16) (E: ∀x∈b,x<n) (F: ∀x∈e,x<c) (M:b.length<=17) (H:e.length<=17):
  CallC prog 150 [da (mat n c f),B5 b,B5 e] ⟨[],da (b.map fun i=>e.map (f i))⟩:=by
 have D:=aT n c f;refine aA func150 rfl ntmps150 (aC (k:=bC (k:=ai (bC (k:=?_)))));refine aB (G:=ZC b.length) (fun g=>⟨(da (mat n c f)::B5 b::B5 e::jk::jk::jk::.raw (.slice none 0 0)::.one (.sl 39 0 0 g.i)::j4 (jk::B5 b::rN b.length::rN g.i::j16 (j4 (j4 (jk::jk::[]))))),Hm [(39,[⟨85,1,lc (fR fZ) ((b.take g.i).map fun i=>e.map (f i))⟩])]⟩) (fun g=>b.length-g.i) ⟨0,by omega⟩ ?_ ?_
 ·refine(dZ (k:=7) (d:=39) 85 1 (by omega) rfl rfl).trans (aj ⟨rfl,trivial⟩ ?_);simp[wk]
 rintro⟨i,J⟩;simp only;by_cases C:i<b.length
 ·obtain⟨r,h⟩:=getElem?_of_lt C;have y:=E r (aai h);have q:=bF c f y;refine ar (k:=be rfl (ai (am (aL h (k:=bC (k:=ai (bC (k:=?_))))))));refine aB (G:=ZC e.length) (fun g=>⟨(da (mat n c f)::B5 b::B5 e::jk::jk::jk::.raw (.slice none 0 0)::.one (.sl 39 0 0 i)::jk::rN r::.one (.sl 34 0 0 g.i)::jk::jk::B5 b::rN b.length::rN i::jk::jk::jk::B5 e::rN e.length::rN g.i::j16 (j4 ([]))),Hm [(39,[⟨85,1,lc (fR fZ) ((b.take i).map fun i=>e.map (f i))⟩]),(34,[⟨65,2,lc fZ ((e.take g.i).map (f r))⟩])]⟩) (fun g=>e.length-g.i) ⟨0,by omega⟩ ?_ ?_
  ·refine(dZ (k:=10) (d:=34) 65 2 (by omega) rfl rfl).trans (aj ⟨rfl,rfl,trivial⟩ ?_);simp[wk]
  rintro⟨j,K⟩;simp only;by_cases w:j<e.length
  ·obtain⟨s,m⟩:=getElem?_of_lt w;have z:=F s (aai m);have o:=aw (f r) z;have t:((e.take j).map (f r)).length=j:=by simp;omega
   refine ar (k:=be rfl (ai (am (aL m (k:=eK (aH q (aH o (aH t (aH @qJ (An (f r) m))))) (k:=bS (k:=?_)))))));refine⟨⟨j+1,by omega⟩,by grind,aj ⟨rfl,rfl,trivial⟩ ?_⟩;simp[wk]
  have v:j=e.length:=by omega
  subst v;refine ar (k:=bv rfl ?_);show bf _ _ _ _;refine bf.weak ((bD 34 (bO rfl)).trans (aj (tm:=(da (mat n c f)::B5 b::B5 e::jk::jk::jk::.raw (.slice none 0 0)::.one (.sl 39 0 0 i)::jk::jk::.one (.p (.sl (ls fZ (e.map (f r)))))::jk::jk::B5 b::rN b.length::rN i::j16 (j4 (j4 (jk::jk::[]))))) (l:=[(39,[⟨85,1,lc (fR fZ) ((b.take i).map fun i=>e.map (f i))⟩])]) ⟨rfl,trivial⟩ (by simp[wk,ew,dF,Hm,eY,eG,aaz]))) ?_;have t:((b.take i).map fun i=>e.map (f i)).length=i:=by simp;omega
  have A:=An (fun i=>e.map (f i)) h;refine eK (aH t (aH @DI A)) (k:=bS (k:=?_));refine⟨⟨i+1,by omega⟩,by grind,aj ⟨rfl,trivial⟩ ?_⟩;simp[wk]
 have u:i=b.length:=by omega
 subst u;refine ar (k:=bv rfl (bC (k:=?_)));refine aW ⟨.inr rfl,jt 39 (bO rfl) ?_ rfl⟩;have B:List.take b.length (List.map (fun i=>e.map (f i)) b)=b.map fun i=>e.map (f i):=aaz (by simp)
 simp(disch:=omega) only[kd,results150,adI,B,da]
abbrev uo:List AV:=[.raw (.slice none 0 0)]
theorem Bp {b:Type} {A:List b} {x:b} {l:List b} {i:Nat} (h:A.length=i):(A++x::l)[i]?=some x:=by
 grind
theorem Bq {b:Type} {A:List b} {x y:b} {l:List b} {i:Nat} (h:A.length=i):(A++x::l).set i y=A++y::l:=by
 simp_all
theorem P4 (k:Nat->Nat->Bool) (R:List (List Int)):(R.map nW).map (lL k)=R.map nW:=by
 grind [List.map_congr_left,lL,nW,uH]
theorem Qk (d i c:Nat):(ju d (ae i c)).map (List.map (aO fun x y=>x==d&&y==i+1))=ju d (ae i c):=by
 apply aaC;grind [bU,aO,cJ]
def U2 (d n c:Nat) (f:FF) (i:Nat):List OObj:=⟨85,1,ju d (ae i c)++ae (n-i) uo⟩::(mat i c f).map nW
def X4 (d n c:Nat) (f:FF) (i j:Nat):List OObj:=⟨85,1,ju d (ae i c)++[.sl d (i+1) 0 (j+1)]::ae (n-i-1) uo⟩::((mat i c f).map nW++[nW (aN (j+1) (f i))])
def Zm (d n c:Nat) (f:FF) (i:Nat):Nat->List OObj
 |0=>U2 d n c f i
 |j+1=>X4 d n c f i j
theorem DS (i c:Nat) (f:FF):mat (i+1) c f=mat i c f++[aN c (f i)]:=by simp[mat,abg]
theorem jS (j:Nat) (g:Nat->Int):aN (j+1) g=aN j g++[g j]:=by simp[aN,abg]
theorem Ws {d i:Nat} (f:FF) (b:1<=m) (e:i<n):Zm d n m f i m=U2 d n m f (i+1):=by
 obtain⟨j,rfl⟩: ∃j,m=j+1:=⟨m-1,by omega⟩;show X4 d n (j+1) f i j=_;grind [X4,U2,DS,List.replicate_succ',rF]
theorem Wr (d n c:Nat) (f:FF):U2 d n c f n=gu d n c f:=by
 unfold U2;simp
theorem Sx {d i:Nat} (f:FF) (b:i<n):U2 d n m f i=⟨85,1,ju d (ae i m)++uo::ae (n-i-1) uo⟩::(mat i m f).map nW:=by
 unfold U2;rw[show n-i=n-i-1+1 by omega,acx];rfl
theorem Fl (n c:Nat) (f:FF) (B:n<=17) (s:1<=c) (y:c<=17) (x: ∀i j,i<n->j<c->Bg (f i j)):
  CallC prog 55 [da (mat n c f)] ⟨gu 0 n c f,.one (.sl 0 0 0 n)⟩:=by
 have m:=aT n c f;refine dr func55 rfl (by kernel_rfl) ?_;rw[ntmps55];refine an fun _ K=>?_;simp only[kd,da,ae];apply K
 refine an fun _ K=>?_;simp(disch:=omega) only[kd,aa,m];apply K
 refine ai (an fun _ K=>?_);simp only[kd,aa,m];apply K;refine aB (G:=jx n) (fun g=>⟨(da (mat n c f)::jk::.raw (.slice none 0 0)::.one (.sl 9 0 0 n)::j4 (jk::jk::jk::rN n::rN g.i::j16 (j4 (j4 (jk::[]))))),Hm [(9,U2 9 n c f g.i)]⟩) (fun g=>n-g.i) ⟨0,by omega⟩ ?_ ?_
 ·refine aj ⟨?_,trivial⟩ ?_
  ·rfl
  simp[wk]
 rintro⟨i,z⟩;simp only;by_cases q:i<n
 ·have o:=bF c f q;have v:=aT i c f;have b:(ju 9 (ae i c)).length=i:=by simp_all[cJ]
  have h:((mat i c f).map nW).length=i:=by grind
  refine an fun _ K=>?_;simp(disch:=omega) only[kd,da];apply K
  refine be rfl ?_;refine ai (am ?_);refine an fun _ K=>?_;simp only[kd];apply K
  refine an fun _ K=>?_;simp(disch:=omega) only[kd,aa,o,fR,aI];apply K
  refine aB (G:=jx c) (fun g=>⟨(da (mat n c f)::jk::.raw (.slice none 0 0)::.one (.sl 9 0 0 n)::rN i::j4 (jk::jk::rN n::rN i::j4 (jk::.one (.p (.sl (ls fZ (aN c (f i)))))::rN c::rN g.i::j16 (jk::[])))),Hm [(9,Zm 9 n c f i g.i)]⟩) (fun g=>c-g.i) ⟨0,by omega⟩ ?_ ?_
  ·refine aj ⟨rfl,trivial⟩ ?_;simp[wk]
  rintro⟨j,A⟩;simp only;by_cases l:j<c
  ·have e:=aw (f i) l;have w:=Pc (f i j) (x i j q l);cases j with
   |zero=>
    rw[Zm,Sx f q];refine an fun _ K=>?_;simp(disch:=omega) only[kd,da];apply K
    refine be rfl ?_;refine ai (am ?_);refine an fun _ K=>?_;simp(disch:=omega) only[kd,aa,e,fZ,ab];apply K
    refine lw b8 [⟨7,_,_,_,w⟩] [] (by kernel_rfl) fun _ K=>?_;simp(disch:=omega) only[kd,tZ,aa,ab,Bp b,Nat.reduceMul,Nat.reduceLeDiff,Bq b,v,Nat.reduceBEq];apply K
    show bf _ _ _ _;refine cz fun _ K=>?_;simp(disch:=omega) only[kd,aK];apply K
    refine⟨⟨1,by omega⟩,by grind,aj ⟨?_,trivial⟩ ?_⟩
    ·rfl
    simp[wk]
   |succ j=>
    have r:(0==i+1)=false:=by simp
    rw[Zm,X4];refine an fun _ K=>?_;simp(disch:=omega) only[kd,da];apply K
    refine be rfl ?_;refine ai (am ?_);refine an fun _ K=>?_;simp(disch:=omega) only[kd,aa,e,fZ,ab];apply K
    refine lw b8 [⟨7,_,_,_,w⟩] [] (by kernel_rfl) fun _ K=>?_;simp(disch:=omega) only[kd,tZ,aa,nW,ab,Bp b,Nat.reduceMul,Nat.reduceLeDiff,Bp h,aI,abe,Qk,aeg,P4,qJ,Bq h,r,Nat.reduceBEq,Bq b,reduceCtorEq,aaV,h];apply K
    show bf _ _ _ _;refine cz fun _ K=>?_;simp(disch:=omega) only[kd,aK];apply K
    refine⟨⟨j+1+1,by omega⟩,by grind,aj ⟨?_,trivial⟩ ?_⟩
    ·show _=X4 9 n c f i (j+1);rw[X4,nW,jS (j+1)];rfl
    simp[wk]
  have u:j=c:=by omega
  subst u;refine an fun _ K=>?_;simp(disch:=omega) only[kd,da];apply K
  refine bv rfl ?_;show bf _ _ _ _;rw[Ws f s q];refine cz fun _ K=>?_;simp(disch:=omega) only[kd,aK];apply K
  refine⟨⟨i+1,by omega⟩,by grind,aj ⟨rfl,trivial⟩ ?_⟩;simp[wk]
 have t:i=n:=by omega
 subst t;refine an fun _ K=>?_;simp(disch:=omega) only[kd,da];apply K
 refine bv rfl ?_;show bf _ _ _ _;rw[Wr];refine an fun _ K=>?_;simp only[kd];apply K
 refine aW ⟨.inr rfl,_,bG.refl _,?_⟩;refine⟨.one (.sl 9 0 0 i),9,?_,rfl,?_,rfl⟩
 ·simp(disch:=omega) only[kd,results55]
 grind [fk]
theorem l9 {P:Program} {c z:Code} {Q:Exit->AS->Prop} {s S:AS} (f:bf P c (jh (fun b=>bG b S) Q) s) (g:bf P z Q S):bf P c (jh (bf P z Q) Q) s:=f.mono fun e b h=>by
 cases e with
 |normal=>exact bf.weak h g
 |_=>exact h
theorem Sz.mul {a:Int} {k:Nat} (c:Sz a k) (e:Sz x n):Sz (a*x) (k+n):=by
 show _<_;rw[abk,abP];exact Nat.mul_lt_mul'' c e
theorem Sz.sub {a:Int} {k:Nat} (c:Sz a k) (e:Sz x k):Sz (a-x) (k+1):=by
 grind [Sz]
theorem Sz.add {a:Int} {k:Nat} (c:Sz a k) (e:Sz x k):Sz (a+x) (k+1):=by
 grind [Sz]
theorem Sz.ediv {a:Int} {k:Nat} (c:Sz a k) (b:Int):Sz (a/b) k:=c.le (Int.natAbs_ediv_le_natAbs a b)
theorem Pu {f:FF} {n k:Nat}: ∀m p,n-p=m->piv f n k p<n->p<=piv f n k p/\f (piv f n k p) k≠0
 |0,p,c,h=>by grind [uL]
 |m+1,p,c,h=>by
  by_cases b:f p k=0
  ·rw[BC (by omega) b]at h⊢;have:=Pu m (p+1) (by omega) h;omega
  grind [BB]
theorem GV {f:FF} {n k:Nat}: ∀m p,n-p=m->piv f n k p<=n
 |0,p,c=>by grind [uL]
 |m+1,p,c=>by
  by_cases b:f p k=0
  ·rw[BC (by omega) b];exact GV m (p+1) (by omega)
  grind [BB]
def dH (k:Nat) (last:Int) (g:FF) (i j:Nat):Nat->Nat->Int:=fun a b=>if k<a/\k<b/\(a<i\/(a=i/\b<j))then(g k k*g a b-g a k*g k b)/last else g a b
theorem Jk {k i:Nat} (last:Int) (g:FF) (e:k<i) (f:k<n) (a b:Nat):upd (dH k last g i n) i n ((g k k*g i n-g i k*g k n)/last) a b=dH k last g i (n+1) a b:=by
 unfold upd dH;by_cases c:a=i
 ·subst c;grind
 simp[c]
theorem Pf {k:Nat} (last:Int) (g:FF) (i a b:Nat) (c:b<n):dH k last g i n a b=dH k last g (i+1) (k+1) a b:=by
 grind [dH]
theorem Jl (k:Nat) (last:Int) (g:FF):dH k last g (k+1) (k+1)=g:=by
 grind [dH]
theorem Pe {k:Nat} (last:Int) (g:FF) (a b:Nat) (c:a<n):dH k last g n (k+1) a b=MJ k last g a b:=by
 grind [dH,MJ]
theorem iM {k i a:Nat} (last:Int) (g:FF) (h: ¬(k<a/\k<m/\(a<i\/(a=i/\m<n)))):dH k last g i n a m=g a m:=by
 grind [dH]
theorem Bs {d k:Nat} (g:FF) (h:m<n) (f:k<n) (b:k≠m) (r:Nat):(gu d n n (swp m k g))[r]?=
  (((⟨85,1,((ju d (ae n n)).set m [.sl d (k+1) 0 n]).set k [.sl d (m+1) 0 n]⟩::(mat n n g).map nW:List OObj))[sw (m+1) (k+1) r]?).map (Za d (m+1) (k+1)):=by
 cases r with
 |zero=>
  rw[show sw (m+1) (k+1) 0=0 by simp[sw]];simp only[ac0,abv,Za,rY]
  congr 2
  apply aaC;intro i;rw[aam,aa3,aa3,List.length_set,cJ,aaL];grind [bU,fp,Ov,sw,cJ]
 |succ r=>
  have c:sw (m+1) (k+1) (r+1)=sw m k r+1:=by
   grind [sw]
  have e: ∀l:List Int,Za d (m+1) (k+1) (nW l)=nW l:=fun l=>by
   simp only[Za,rY,nW,lc,abV]
   congr 1
  grind [sw,bF,swp,aT]
structure DeG (n:Nat) (f:FF) where
 k:Nat
 g:Nat->Nat->Int
 last:Int
 neg:Bool
 b:Nat
 hk:k<=n
 hv:detG n k g last neg=detF n f
 hl:last≠0
 hb:b+1<=1025*2^k
 sg: ∀i j,i<n->j<n->Sz (g i j) b
 sl:Sz last b
structure PvG (n k:Nat) (g:FF) where
 p:Nat
 hkp:k<=p
 hp:p<=n
 hv:piv g n k p=piv g n k k
structure Zi (n k:Nat) where
 i:Nat
 hk:k+1<=i
 hi:i<=n
abbrev qt (v:Int):List OObj:=Cp (decide (v<0)) (au v.natAbs)
theorem rz:sg 0=0:=rfl
theorem Es (h:x≠0):sg x≠0:=by grind [sg]
theorem jR {k:Nat} (h:k<=16):2^k<=65536:=aaJ (n:=2) (by omega) h
theorem iJ (n:Nat) (f:FF) (O:1<=n) (hn:n<=16) (hf: ∀i j,i<n->j<n->Sz (f i j) 1024):
  CallC prog 34 [da (mat n n f)] ⟨[],tZ (detF n f)⟩:=by
 have hC:=Fl n n f (by omega) O (by omega) (fun i j s w=>(hf i j s w).mono (by omega));have hS:=fc 1 (by omega) (by omega);refine aA func34 rfl ntmps34 (aC (k:=bK [⟨1,_,_,_,hC⟩] (k:=bC (k:=bL [⟨0,_,_,_,hS⟩] (k:=ai (bC (k:=?_)))))));refine aB (G:=DeG n f) (fun g=>⟨(jk::jk::.one (.ptr 2 0 0 0)::.one (.sl 12 0 0 n)::rN n::.one (.ptr 5 0 0 0)::.raw (.bool g.neg)::rN g.k::j16 (j16 (j16 (j16 (j16 (j16 (j16 (j4 (jk::[]))))))))),Hm [(2,AO),(5,qt g.last),(12,gu 12 n n g.g)]⟩) (fun g=>n-g.k) ⟨0,f,1,false,1024,by omega,rfl,by omega,by omega,hf,mL (by omega)⟩ ?_ ?_
 ·refine aj ⟨rfl,rfl,?_,trivial⟩ ?_
  ·exact fk 0 12 n n f
  simp[wk]
 rintro⟨k,g,last,neg,b,hk,u,hl,hb,U,B⟩;simp only;by_cases l:k<n
 ·have J:=jR (k:=k) (by omega);have ad:b<=67174400:=by omega
  have o:detG n k g last neg=if piv g n k k=n then 0 else detG n (k+1) (MJ k last (X9 n k g)) (X9 n k g k k) (neg !=decide (k<piv g n k k)):=by grind [detG]
  refine ai (ar (k:=ay rfl (ak (ai (am (bC (k:=?_)))))));refine ai (l9 (S:=⟨(jk::jk::.one (.ptr 2 0 0 0)::.one (.sl 12 0 0 n)::rN n::.one (.ptr 5 0 0 0)::.raw (.bool neg)::rN k::.raw (.int .i64 ((piv g n k k:Nat):Int))::j16 (j16 (j16 (j16 (j16 (j16 (j16 (j4 ([]))))))))),Hm [(2,AO),(5,qt last),(12,gu 12 n n g)]⟩) ?_ ?_)
  ·refine aB (G:=PvG n k g) (fun q=>⟨(jk::jk::.one (.ptr 2 0 0 0)::.one (.sl 12 0 0 n)::rN n::.one (.ptr 5 0 0 0)::.raw (.bool neg)::rN k::rN q.p::j16 (j16 (j16 (j16 (j16 (j16 (j16 (j4 ([]))))))))),Hm [(2,AO),(5,qt last),(12,gu 12 n n g)]⟩) (fun q=>n-q.p) ⟨k,by omega,by omega,rfl⟩ ?_ ?_
   ·refine aj ⟨rfl,rfl,rfl,trivial⟩ ?_;simp[wk]
   rintro⟨p,M,hp,av⟩;simp only;by_cases m:p<n
   ·have C:=bU (n:=n) (i:=p) 12 n m;have D:=dS n g m;have I:=aw (g p) l;have r:=mI (g p k) ((U p k m l).mono (by omega));by_cases Z:g p k=0
    ·rw[Z]at r I;refine ai (cO [⟨11,_,_,_,r⟩] (aH @rz (aH C (aH D I))) (k:=ay rfl (ak (am (bS (k:=?_))))));refine⟨⟨p+1,by omega,by omega,?_⟩,by simp only;omega,aj ⟨rfl,rfl,rfl,trivial⟩ ?_⟩
     ·grind [BC]
     simp[wk]
    have a0:=Es Z;refine ai (cO [⟨11,_,_,_,r⟩] (aH C (aH D I)) (k:=aq rfl (aZ ?_)));show bG _ _;have t:piv g n k k=p:=by grind [BB]
    refine aj ⟨rfl,rfl,rfl,trivial⟩ ?_;simp[wk,t]
   have t:piv g n k k=p:=by grind [uL]
   refine ai (ar (k:=aq rfl (aZ ?_)));show bG _ _;refine aj ⟨rfl,rfl,rfl,trivial⟩ ?_;simp[wk,t]
  have ap:=GV (f:=g) (n:=n) (k:=k) (n-k) k rfl;have A:=Pu (f:=g) (n:=n) (k:=k) (n-k) k rfl;generalize Q:piv g n k k=p at*
  by_cases m:p=n
  ·rw[if_pos m]at o;refine ai (ar (k:=ay rfl (ar (k:=?_))));refine bf.weak (gn 2) ?_;refine aW ⟨.inr rfl,bW rfl ?_ rfl⟩;rw[<- u,o];simp(disch:=omega) only[kd,results34,zH,ab,zO,Fa,Fi,aa,tZ];simp[cj,ls]
  rw[if_neg m]at o;obtain⟨M,ac⟩:=A (by omega);refine ai (ar (k:=aq rfl (ak (ai (bC (k:=?_))))));refine l9 (S:=⟨(jk::jk::.one (.ptr 2 0 0 0)::.one (.sl 12 0 0 n)::rN n::.one (.ptr 5 0 0 0)::.raw (.bool (neg !=decide (k<p)))::rN k::j16 (j16 (j16 (j16 (j16 (j16 (j16 (j4 (jk::[]))))))))),Hm [(2,AO),(5,qt last),(12,gu 12 n n (swp p k g))]⟩) ?_ ?_
  ·by_cases N:k<p
   ·have C:=bU (n:=n) (i:=p) 12 n (by omega);have D:=bU (n:=n) (i:=k) 12 n (by omega);refine bi rfl (fun _=>?_) (fun h=>by simp at h<;>omega);have g4:((ju 12 (ae n n)).set p [.sl 12 (k+1) 0 n])[k]?=some [.sl 12 (k+1) 0 n]:=by
     grind
    refine iu (aH D (aH C g4)) (k:=ZG (k:=?_));refine(AC 12 (p+1) (k+1) (gu 12 n n (swp p k g)) (Bs g (by omega) l (by omega))).trans (aj ⟨rfl,rfl,rfl,trivial⟩ ?_);simp[wk,Ub,lS,Xx,fp,Vq,Ov,sw,N]
   have P:p=k:=by omega
   subst P;refine bi rfl (fun h=>by simp at h<;>omega) (fun _=>ak ?_);show bG _ _;rw[x5];refine aj ⟨rfl,rfl,rfl,trivial⟩ ?_;simp[wk]
  rw[X9,Q]at o;have K:swp p k g k k≠0:=by
   unfold swp;grind
  have e: ∀i j,i<n->j<n->Sz (swp p k g i j) b:=fun i j s w=>by
   unfold swp;grind
  generalize swp p k g=c at*
  generalize(neg !=decide (k<p))=neg' at*
  refine ai (ar (k:=?_));refine aB (G:=Zi n k) (fun q=>⟨(jk::jk::.one (.ptr 2 0 0 0)::.one (.sl 12 0 0 n)::rN n::.one (.ptr 5 0 0 0)::.raw (.bool neg')::rN k::jk::rN q.i::j16 (j16 (j16 (j16 (j16 (j16 (j16 (jk::jk::jk::[])))))))),Hm [(2,AO),(5,qt last),(12,gu 12 n n (dH k last c q.i (k+1)))]⟩) (fun q=>n-q.i) ⟨k+1,by omega,by omega⟩ ?_ ?_
  ·rw[Jl];refine aj ⟨rfl,rfl,rfl,trivial⟩ ?_;simp[wk]
  rintro⟨i,ah,af⟩;simp only;by_cases s:i<n
  ·refine ai (ar (k:=ay rfl (ak (ai (am (ar (k:=?_)))))));refine aB (G:=Zi n k) (fun q=>⟨(jk::jk::.one (.ptr 2 0 0 0)::.one (.sl 12 0 0 n)::rN n::.one (.ptr 5 0 0 0)::.raw (.bool neg')::rN k::jk::rN i::rN q.i::j16 (j16 (j16 (j16 (j16 (j16 (j16 (jk::jk::[])))))))),Hm [(2,AO),(5,qt last),(12,gu 12 n n (dH k last c i q.i))]⟩) (fun q=>n-q.i) ⟨k+1,by omega,by omega⟩ ?_ ?_
   ·refine aj ⟨rfl,rfl,rfl,trivial⟩ ?_;simp[wk]
   rintro⟨j,al,ag⟩;simp only;by_cases w:j<n
   ·have a1:=bU (n:=n) (i:=i) 12 n s;have E:=bU (n:=n) (i:=k) 12 n l;have a3:=dS n (dH k last c i j) s;have F:=dS n (dH k last c i j) l;have H:(aN n (dH k last c i j k))[k]?=some (c k k):=by grind [aw,iM]
    have a6:(aN n (dH k last c i j i))[j]?=some (c i j):=by grind [aw,iM]
    have a7:(aN n (dH k last c i j i))[k]?=some (c i k):=by grind [aw,iM]
    have a8:(aN n (dH k last c i j k))[j]?=some (c k j):=by grind [aw,iM]
    have V:=e k k l l;have W:=e i j s w;have X:=e i k s l;have Y:=e k j l w;have c1:=jY (c k k) (c i j) (V.mono (by omega)) (W.mono (by omega));have c2:=jY (c i k) (c k j) (X.mono (by omega)) (Y.mono (by omega));have c3:=MS (c k k*c i j) (c i k*c k j) ((V.mul W).mono (by omega)) ((X.mul Y).mono (by omega));have c4:=CD (c k k*c i j-c i k*c k j) last hl (((V.mul W).sub (X.mul Y)).mono (by omega)) (B.mono (by omega));refine ai (ar (k:=ay rfl (ak (ai (am (gX [⟨19,_,_,_,c1⟩,⟨34,_,_,_,c2⟩,⟨35,_,_,_,c3⟩,⟨37,_,_,_,c4⟩] (aH a1 (aH E (aH F (aH H (aH a3 (aH a6 (aH a7 (aH a8 @iL)))))))) (k:=bS (k:=?_))))))));refine⟨⟨j+1,by omega,by omega⟩,by grind,aj ⟨rfl,rfl,?_,trivial⟩ ?_⟩
    ·show _::_=_::_;grind [bQ,Jk]
    simp[wk]
   have z:j=n:=by omega
   subst z;refine ai (ar (k:=aq rfl (aZ (bS (k:=?_)))));refine⟨⟨i+1,by omega,by omega⟩,by grind,aj ⟨rfl,rfl,?_,trivial⟩ ?_⟩
   ·grind [bQ,Pf]
   simp[wk]
  have v:i=n:=by omega
  subst v;have E:=bU (n:=i) (i:=k) 12 i l;have F:=dS i (dH k last c i (k+1)) l;have H:(aN i (dH k last c i (k+1) k))[k]?=some (c k k):=by grind [aw,iM]
  refine ai (ar (k:=aq rfl (aZ (eK (aH E (aH F H)) (k:=bS (k:=?_))))));refine⟨⟨k+1,MJ k last c,c k k,neg',2*b+1,by omega,by omega,K,by omega,fun x y R T=>?_,(e k k l l).mono (by omega)⟩,by simp only;omega,aj ⟨rfl,rfl,?_,trivial⟩ ?_⟩
  ·unfold MJ;split
   ·exact((((e k k l l).mul (e x y R T)).sub ((e x k R l).mul (e k y l T))).ediv last).mono (by omega)
   exact(e x y R T).mono (by omega)
  ·show _::_=_::_;grind [bQ,Pe]
  simp[wk]
 have L:k=n:=by omega
 subst L;rw[detG,if_neg l]at u;have J:=jR (k:=k) hn;have hN:=Pa last (B.mono (by omega));refine ai (ar (k:=aq rfl (aZ (ai (bC (k:=?_))))));cases neg with
 |true=>
  rw[if_pos rfl]at u;refine ay rfl (bL [⟨1,_,_,_,hN⟩] (k:=?_));rw[<- u]
  (refine aW ⟨.inr rfl,bW rfl ?_ rfl⟩;simp(disch:=omega) only[kd,results34,ab,aa,tZ])
 |false=>
  rw[if_neg (by simp)]at u;refine aq rfl (ak (ar (k:=?_)));rw[<- u]
  (refine aW ⟨.inr rfl,bW rfl ?_ rfl⟩;simp(disch:=omega) only[kd,results34,ab,aa,tZ])
end Go.Proofs.YtalmoejhjceflaaGreat
