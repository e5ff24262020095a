/-
  Part 15 of a proof (walks and plain facts).
-/
import Derived.Test.YtalmoejhjceflaaGreatP13
set_option linter.all false
set_option maxRecDepth 100000
set_option maxHeartbeats 64000000
open Nat renaming reduceAdd → aa
open Nat renaming reduceEqDiff → ab
open List renaming replicate → ae
namespace Go.Proofs.YtalmoejhjceflaaGreat
open Go.RowKit Go.Proofs.Tryz
variable {n m:Nat} {x:Int} {b:FF}
theorem PR (k b:Nat) (j:k<=16) (f:b<=16):CallC prog 151 [.raw (.int .i64 (k:Int)),.raw (.int .i64 (b:Int))] ⟨[],AG (List.range k++[b])⟩:=by
 refine aB func151 rfl ntmps151 (aC (k:=bH (k:=ai (bH (k:=?_)))));refine aG (G:=jW k) (fun g=>⟨(.raw (.int .i64 (k:Int))::rN b::jk::jk::.raw (.slice none 0 0)::.one (.sl 15 0 0 g.i)::rN g.i::j4 (j4 (j4 (jk::[])))),Hm [(15,[⟨3,1,lc fN (List.range g.i)⟩])]⟩) (fun g=>k-g.i) ⟨0,by omega⟩ ?_ ?_
 ·refine(d6 (k:=5) (d:=15) 3 1 (by omega) rfl rfl).trans (aj ⟨rfl,trivial⟩ ?_);simp[wk]
 rintro⟨i,h⟩;simp only;by_cases f:i<k
 ·refine ai (ar (k:=aD rfl (ak (ai (am (dU (aE @Z0 @mX) (k:=bK (k:=?_))))))));refine⟨⟨i+1,by omega⟩,by grind,aj ⟨?_,trivial⟩ ?_⟩
  ·rw[YU];rfl
  simp[wk]
 have c:i=k:=by omega
 subst c;refine ai (ar (k:=ao rfl (be (aK (aE @Z0 @mX) (k:=?_)))));refine aZ ⟨.inr rfl,jd 15 (bS rfl) ?_ rfl⟩;have e:List.take (i+1) (List.range i++[b])=List.range i++[b]:=X3 (by simp);simp(disch:=omega) only[kd,results151,e,AG]
structure Wy (n:Nat) where
 i:Nat
 hi:i<=n
theorem pT (l:List Int) (v:Int):lc fZ l++[[.p (.raw (.bool (decide (v<0)))),.p (.sl (ls fU (aq v.natAbs)))]]=lc fZ (l++[v]):=by simp[lc,fZ]
theorem Mr (M:List (List Int)) (r:List Int):lc (fR fZ) M++[[.p (.sl (ls fZ r))]]=lc (fR fZ) (M++[r]):=by simp[lc,fR]
theorem yT {b c:Type} {l:List b} {i:Nat} {x:b} (g:b->c) (h:l[i]?=some x):(l.take i).map g++[g x]=(l.take (i+1)).map g:=by
 grind [List.take_add_one]
theorem Bb (n c:Nat) (f:FF) (b e:List Nat) (L:n<=16) (I:c<=16) (E: ∀x∈b,x<n) (F: ∀x∈e,x<c) (M:b.length<=17) (H:e.length<=17):
  CallC prog 150 [dZ (mat n c f),AG b,AG e] ⟨[],dZ (b.map fun i=>e.map (f i))⟩:=by
 have D:=aS n c f;refine aB func150 rfl ntmps150 (aC (k:=bH (k:=ai (bH (k:=?_)))));refine aG (G:=Wy b.length) (fun g=>⟨(dZ (mat n c f)::AG b::AG e::jk::jk::jk::.raw (.slice none 0 0)::.one (.sl 39 0 0 g.i)::j4 (jk::AG b::rN b.length::rN g.i::j16 (j4 (j4 (jk::jk::[]))))),Hm [(39,[⟨85,1,lc (fR fZ) ((b.take g.i).map fun i=>e.map (f i))⟩])]⟩) (fun g=>b.length-g.i) ⟨0,by omega⟩ ?_ ?_
 ·refine(d6 (k:=7) (d:=39) 85 1 (by omega) rfl rfl).trans (aj ⟨rfl,trivial⟩ ?_);simp[wk]
 rintro⟨i,J⟩;simp only;by_cases C:i<b.length
 ·obtain⟨r,h⟩:=getElem?_of_lt C;have y:=E r (XH h);have q:=bu c f y;refine ar (k:=bA rfl (ai (am (aK h (k:=bH (k:=ai (bH (k:=?_))))))));refine aG (G:=Wy e.length) (fun g=>⟨(dZ (mat n c f)::AG b::AG e::jk::jk::jk::.raw (.slice none 0 0)::.one (.sl 39 0 0 i)::jk::rN r::.one (.sl 34 0 0 g.i)::jk::jk::AG b::rN b.length::rN i::jk::jk::jk::AG e::rN e.length::rN g.i::j16 (j4 ([]))),Hm [(39,[⟨85,1,lc (fR fZ) ((b.take i).map fun i=>e.map (f i))⟩]),(34,[⟨65,2,lc fZ ((e.take g.i).map (f r))⟩])]⟩) (fun g=>e.length-g.i) ⟨0,by omega⟩ ?_ ?_
  ·refine(d6 (k:=10) (d:=34) 65 2 (by omega) rfl rfl).trans (aj ⟨rfl,rfl,trivial⟩ ?_);simp[wk]
  rintro⟨j,K⟩;simp only;by_cases w:j<e.length
  ·obtain⟨s,m⟩:=getElem?_of_lt w;have z:=F s (XH m);have o:=az (f r) z;have t:((e.take j).map (f r)).length=j:=by simp;omega
   refine ar (k:=bA rfl (ai (am (aK m (k:=dU (aE q (aE o (aE t (aE @pT (yT (f r) m))))) (k:=bK (k:=?_)))))));refine⟨⟨j+1,by omega⟩,by grind,aj ⟨rfl,rfl,trivial⟩ ?_⟩;simp[wk]
  have v:j=e.length:=by omega
  subst v;refine ar (k:=bG rfl ?_);show bs _ _ _ _;refine bs.weak ((bF 34 (bS rfl)).trans (aj (tm:=(dZ (mat n c f)::AG b::AG e::jk::jk::jk::.raw (.slice none 0 0)::.one (.sl 39 0 0 i)::jk::jk::.one (.p (.sl (ls fZ (e.map (f r)))))::jk::jk::AG b::rN b.length::rN i::j16 (j4 (j4 (jk::jk::[]))))) (l:=[(39,[⟨85,1,lc (fR fZ) ((b.take i).map fun i=>e.map (f i))⟩])]) ⟨rfl,trivial⟩ (by simp[wk,fb,dD,Hm,fQ,fL,X3]))) ?_;have t:((b.take i).map fun i=>e.map (f i)).length=i:=by simp;omega
  have A:=yT (fun i=>e.map (f i)) h;refine dU (aE t (aE @Mr A)) (k:=bK (k:=?_));refine⟨⟨i+1,by omega⟩,by grind,aj ⟨rfl,trivial⟩ ?_⟩;simp[wk]
 have u:i=b.length:=by omega
 subst u;refine ar (k:=bG rfl (bH (k:=?_)));refine aZ ⟨.inr rfl,jd 39 (bS rfl) ?_ rfl⟩;have B:List.take b.length (List.map (fun i=>e.map (f i)) b)=b.map fun i=>e.map (f i):=X3 (by simp)
 simp(disch:=omega) only[kd,results150,List.take_length,B,dZ]
abbrev tb:List AV:=[.raw (.slice none 0 0)]
theorem zX {b:Type} {A:List b} {x:b} {l:List b} {i:Nat} (h:A.length=i):(A++x::l)[i]?=some x:=by
 grind
theorem zY {b:Type} {A:List b} {x y:b} {l:List b} {i:Nat} (h:A.length=i):(A++x::l).set i y=A++y::l:=by
 simp_all
theorem Nw (k:Nat->Nat->Bool) (R:List (List Int)):(R.map np).map (iQ k)=R.map np:=by
 grind [List.map_congr_left,iQ,np,tE]
theorem NO (d i c:Nat):(jU d (ae i c)).map (List.map (aL fun x y=>x==d&&y==i+1))=jU d (ae i c):=by
 apply X7;grind [cd,aL,cO]
def Se (d n c:Nat) (f:FF) (i:Nat):List OObj:=⟨85,1,jU d (ae i c)++ae (n-i) tb⟩::(mat i c f).map np
def U5 (d n c:Nat) (f:FF) (i j:Nat):List OObj:=⟨85,1,jU d (ae i c)++[.sl d (i+1) 0 (j+1)]::ae (n-i-1) tb⟩::((mat i c f).map np++[np (aN (j+1) (f i))])
def Wh (d n c:Nat) (f:FF) (i:Nat):Nat->List OObj
 |0=>Se d n c f i
 |j+1=>U5 d n c f i j
theorem CA (i c:Nat) (f:FF):mat (i+1) c f=mat i c f++[aN c (f i)]:=by simp[mat,YU]
theorem jA (j:Nat) (g:Nat->Int):aN (j+1) g=aN j g++[g j]:=by simp[aN,YU]
theorem Ty {d i:Nat} (f:FF) (b:1<=m) (e:i<n):Wh d n m f i m=Se d n m f (i+1):=by
 obtain⟨j,rfl⟩: ∃j,m=j+1:=⟨m-1,by omega⟩;show U5 d n (j+1) f i j=_;grind [U5,Se,CA,List.replicate_succ',qy]
theorem Tx (d n c:Nat) (f:FF):Se d n c f n=i5 d n c f:=by
 unfold Se;simp
theorem PH {d i:Nat} (f:FF) (b:i<n):Se d n m f i=⟨85,1,jU d (ae i m)++tb::ae (n-i-1) tb⟩::(mat i m f).map np:=by
 unfold Se;rw[show n-i=n-i-1+1 by omega,Z5];rfl
theorem KG (n c:Nat) (f:FF) (B:n<=17) (s:1<=c) (y:c<=17) (x: ∀i j,i<n->j<c->Bg (f i j)):
  CallC prog 55 [dZ (mat n c f)] ⟨i5 0 n c f,.one (.sl 0 0 0 n)⟩:=by
 have m:=aS n c f;refine aB func55 rfl ntmps55 (aC (k:=aK m (k:=ai (f5 m (k:=?_)))));refine aG (G:=jW n) (fun g=>⟨(dZ (mat n c f)::jk::.raw (.slice none 0 0)::.one (.sl 9 0 0 n)::j4 (jk::jk::jk::rN n::rN g.i::j16 (j4 (j4 (jk::[]))))),Hm [(9,Se 9 n c f g.i)]⟩) (fun g=>n-g.i) ⟨0,by omega⟩ ?_ ?_
 ·refine aj ⟨?_,trivial⟩ ?_
  ·rfl
  simp[wk]
 rintro⟨i,z⟩;simp only;by_cases q:i<n
 ·have o:=bu c f q;have v:=aS i c f;have b:(jU 9 (ae i c)).length=i:=by simp_all[cO]
  have h:((mat i c f).map np).length=i:=by grind
  refine ar (k:=bA rfl (ai (am (bH (k:=aK (aE o @aH) (k:=?_))))));refine aG (G:=jW c) (fun g=>⟨(dZ (mat n c f)::jk::.raw (.slice none 0 0)::.one (.sl 9 0 0 n)::rN i::j4 (jk::jk::rN n::rN i::j4 (jk::.one (.p (.sl (ls fZ (aN c (f i)))))::rN c::rN g.i::j16 (jk::[])))),Hm [(9,Wh 9 n c f i g.i)]⟩) (fun g=>c-g.i) ⟨0,by omega⟩ ?_ ?_
  ·refine aj ⟨rfl,trivial⟩ ?_;simp[wk]
  rintro⟨j,A⟩;simp only;by_cases l:j<c
  ·have e:=az (f i) l;have w:=MT (f i j) (x i j q l);cases j with
   |zero=>
    rw[Wh,PH f q];refine ar (k:=bA rfl (ai (am (aK e (k:=gP [⟨7,_,_,_,w⟩] (aE (zX b) (aE (zY b) v)) (k:=bK (k:=?_)))))));refine⟨⟨1,by omega⟩,by grind,aj ⟨?_,trivial⟩ ?_⟩
    ·rfl
    simp[wk]
   |succ j=>
    have r:(0==i+1)=false:=by simp
    rw[Wh,U5];refine ar (k:=bA rfl (ai (am (aK e (k:=gP [⟨7,_,_,_,w⟩] (aE @np.eq_1 (aE (zX b) (aE (zX h) (aE @aH (aE @YN (aE @NO (aE @abI (aE @Nw (aE @pT (aE (zY h) (aE r (aE (zY b) (aE @YJ h))))))))))))) (k:=bK (k:=?_)))))));refine⟨⟨j+1+1,by omega⟩,by grind,aj ⟨?_,trivial⟩ ?_⟩
    ·show _=U5 9 n c f i (j+1);rw[U5,np,jA (j+1)];rfl
    simp[wk]
  have u:j=c:=by omega
  subst u;refine ar (k:=bG rfl ?_);show bs _ _ _ _;rw[Ty f s q];refine bK (k:=?_);refine⟨⟨i+1,by omega⟩,by grind,aj ⟨rfl,trivial⟩ ?_⟩;simp[wk]
 have t:i=n:=by omega
 subst t;refine ar (k:=bG rfl ?_);show bs _ _ _ _;rw[Tx];refine bH (k:=?_);refine aZ ⟨.inr rfl,_,bv.refl _,?_⟩;refine⟨.one (.sl 9 0 0 i),9,?_,rfl,?_,rfl⟩
 ·simp(disch:=omega) only[kd,results55]
 grind [fS]
theorem nB {P:Program} {c z:Code} {Q:Exit->AS->Prop} {s S:AS} (f:bs P c (iZ (fun b=>bv b S) Q) s) (g:bs P z Q S):bs P c (iZ (bs P z Q) Q) s:=f.mono fun e b h=>by
 cases e with
 |normal=>exact bs.weak h g
 |_=>exact h
theorem Sz.mul {a:Int} {k:Nat} (c:Sz a k) (e:Sz x n):Sz (a*x) (k+n):=by
 grind [Sz,Int.natAbs_mul,Nat.mul_lt_mul'']
theorem Sz.sub {a:Int} {k:Nat} (c:Sz a k) (e:Sz x k):Sz (a-x) (k+1):=by
 grind [Sz]
theorem Sz.add {a:Int} {k:Nat} (c:Sz a k) (e:Sz x k):Sz (a+x) (k+1):=by
 grind [Sz]
theorem Sz.ediv {a:Int} {k:Nat} (c:Sz a k) (b:Int):Sz (a/b) k:=c.le (Int.natAbs_ediv_le_natAbs a b)
theorem M8 {f:FF} {n k:Nat}: ∀m p,n-p=m->piv f n k p<n->p<=piv f n k p/\f (piv f n k p) k≠0
 |0,p,c,h=>by grind [tJ]
 |m+1,p,c,h=>by
  by_cases b:f p k=0
  ·rw[Aj (by omega) b]at h⊢;have:=M8 m (p+1) (by omega) h;omega
  grind [Ai]
theorem Fb {f:FF} {n k:Nat}: ∀m p,n-p=m->piv f n k p<=n
 |0,p,c=>by grind [tJ]
 |m+1,p,c=>by
  by_cases b:f p k=0
  ·rw[Aj (by omega) b];exact Fb m (p+1) (by omega)
  grind [Ai]
def fA (k:Nat) (last:Int) (g:FF) (i j:Nat):Nat->Nat->Int:=fun a b=>if k<a/\k<b/\(a<i\/(a=i/\b<j))then(g k k*g a b-g a k*g k b)/last else g a b
theorem Qm {k i:Nat} (last:Int) (g:FF) (e:k<i) (f:k<n) (a b:Nat):upd (fA k last g i n) i n ((g k k*g i n-g i k*g k n)/last) a b=fA k last g i (n+1) a b:=by
 unfold upd fA;by_cases c:a=i
 ·subst c;grind
 simp[c]
theorem T9 {k:Nat} (last:Int) (g:FF) (i a b:Nat) (c:b<n):fA k last g i n a b=fA k last g (i+1) (k+1) a b:=by
 grind [fA]
theorem Qo (k:Nat) (last:Int) (g:FF):fA k last g (k+1) (k+1)=g:=by
 grind [fA]
theorem T8 {k:Nat} (last:Int) (g:FF) (a b:Nat) (c:a<n):fA k last g n (k+1) a b=Sr k last g a b:=by
 grind [fA,Sr]
theorem p8 {k i a:Nat} (last:Int) (g:FF) (h: ¬(k<a/\k<m/\(a<i\/(a=i/\m<n)))):fA k last g i n a m=g a m:=by
 grind [fA]
theorem G8 {d k:Nat} (g:FF) (h:m<n) (f:k<n) (b:k≠m) (r:Nat):(i5 d n n (swp m k g))[r]?=
  (((⟨85,1,((jU d (ae n n)).set m [.sl d (k+1) 0 n]).set k [.sl d (m+1) 0 n]⟩::(mat n n g).map np:List OObj))[sw (m+1) (k+1) r]?).map (V5 d (m+1) (k+1)):=by
 cases r with
 |zero=>
  rw[show sw (m+1) (k+1) 0=0 by simp[sw]];simp only[aay,Yp,V5,qS]
  congr 2
  apply X7;intro i;rw[XK,Yz,Yz,List.length_set,cO,Yq];grind [cd,fi,Mf,sw,cO]
 |succ r=>
  have c:sw (m+1) (k+1) (r+1)=sw m k r+1:=by
   grind [sw]
  have e: ∀l:List Int,V5 d (m+1) (k+1) (np l)=np l:=fun l=>by
   simp only[V5,qS,np,lc,Y0]
   congr 1
  grind [sw,bu,swp,aS]
structure W9 (n:Nat) (f:FF) where
 k:Nat
 g:Nat->Nat->Int
 last:Int
 neg:Bool
 b:Nat
 hk:k<=n
 hv:detG n k g last neg=detF n f
 hl:last≠0
 hb:b+1<=1025*2^k
 sg: ∀i j,i<n->j<n->Sz (g i j) b
 sl:Sz last b
structure Xl (n k:Nat) (g:FF) where
 p:Nat
 hkp:k<=p
 hp:p<=n
 hv:piv g n k p=piv g n k k
structure WS (n k:Nat) where
 i:Nat
 hk:k+1<=i
 hi:i<=n
abbrev xP (v:Int):List OObj:=A2 (decide (v<0)) (aq v.natAbs)
theorem AB:sg 0=0:=rfl
theorem NE (h:x≠0):sg x≠0:=by grind [sg]
theorem nW {k:Nat} (h:k<=16):2^k<=65536:=Yd (n:=2) (by omega) h
theorem iB (n:Nat) (f:FF) (O:1<=n) (hn:n<=16) (hf: ∀i j,i<n->j<n->Sz (f i j) 1024):
  CallC prog 34 [dZ (mat n n f)] ⟨[],tZ (detF n f)⟩:=by
 have hC:=KG n n f (by omega) O (by omega) (fun i j s w=>(hf i j s w).mono (by omega));have hS:=fY 1 (by omega) (by omega);refine aB func34 rfl ntmps34 (aC (k:=bQ [⟨1,_,_,_,hC⟩] (k:=bH (k:=bL [⟨0,_,_,_,hS⟩] (k:=ai (bH (k:=?_)))))));refine aG (G:=W9 n f) (fun g=>⟨(jk::jk::.one (.ptr 2 0 0 0)::.one (.sl 12 0 0 n)::rN n::.one (.ptr 5 0 0 0)::.raw (.bool g.neg)::rN g.k::j16 (j16 (j16 (j16 (j16 (j16 (j16 (j4 (jk::[]))))))))),Hm [(2,zu),(5,xP g.last),(12,i5 12 n n g.g)]⟩) (fun g=>n-g.k) ⟨0,f,1,false,1024,by omega,rfl,by omega,by omega,hf,pe (by omega)⟩ ?_ ?_
 ·refine aj ⟨rfl,rfl,?_,trivial⟩ ?_
  ·exact fS 0 12 n n f
  simp[wk]
 rintro⟨k,g,last,neg,b,hk,u,hl,hb,U,B⟩;simp only;by_cases l:k<n
 ·have J:=nW (k:=k) (by omega);have ad:b<=67174400:=by omega
  have o:detG n k g last neg=if piv g n k k=n then 0 else detG n (k+1) (Sr k last (U9 n k g)) (U9 n k g k k) (neg !=decide (k<piv g n k k)):=by grind [detG]
  refine ai (ar (k:=aD rfl (ak (ai (am (bH (k:=?_)))))));refine ai (nB (S:=⟨(jk::jk::.one (.ptr 2 0 0 0)::.one (.sl 12 0 0 n)::rN n::.one (.ptr 5 0 0 0)::.raw (.bool neg)::rN k::.raw (.int .i64 ((piv g n k k:Nat):Int))::j16 (j16 (j16 (j16 (j16 (j16 (j16 (j4 ([]))))))))),Hm [(2,zu),(5,xP last),(12,i5 12 n n g)]⟩) ?_ ?_)
  ·refine aG (G:=Xl n k g) (fun q=>⟨(jk::jk::.one (.ptr 2 0 0 0)::.one (.sl 12 0 0 n)::rN n::.one (.ptr 5 0 0 0)::.raw (.bool neg)::rN k::rN q.p::j16 (j16 (j16 (j16 (j16 (j16 (j16 (j4 ([]))))))))),Hm [(2,zu),(5,xP last),(12,i5 12 n n g)]⟩) (fun q=>n-q.p) ⟨k,by omega,by omega,rfl⟩ ?_ ?_
   ·refine aj ⟨rfl,rfl,rfl,trivial⟩ ?_;simp[wk]
   rintro⟨p,M,hp,av⟩;simp only;by_cases m:p<n
   ·have C:=cd (n:=n) (i:=p) 12 n m;have D:=fT n g m;have I:=az (g p) l;have r:=nr (g p k) ((U p k m l).mono (by omega));by_cases Z:g p k=0
    ·rw[Z]at r I;refine ai (ce [⟨11,_,_,_,r⟩] (aE @AB (aE C (aE D I))) (k:=aD rfl (ak (am (bK (k:=?_))))));refine⟨⟨p+1,by omega,by omega,?_⟩,by simp only;omega,aj ⟨rfl,rfl,rfl,trivial⟩ ?_⟩
     ·grind [Aj]
     simp[wk]
    have a0:=NE Z;refine ai (ce [⟨11,_,_,_,r⟩] (aE C (aE D I)) (k:=ao rfl (be ?_)));show bv _ _;have t:piv g n k k=p:=by grind [Ai]
    refine aj ⟨rfl,rfl,rfl,trivial⟩ ?_;simp[wk,t]
   have t:piv g n k k=p:=by grind [tJ]
   refine ai (ar (k:=ao rfl (be ?_)));show bv _ _;refine aj ⟨rfl,rfl,rfl,trivial⟩ ?_;simp[wk,t]
  have ap:=Fb (f:=g) (n:=n) (k:=k) (n-k) k rfl;have A:=M8 (f:=g) (n:=n) (k:=k) (n-k) k rfl;generalize Q:piv g n k k=p at*
  by_cases m:p=n
  ·rw[if_pos m]at o;refine ai (ar (k:=aD rfl (ar (k:=?_))));refine bs.weak (gN 2) ?_;refine aZ ⟨.inr rfl,b9 rfl ?_ rfl⟩;rw[<- u,o];simp(disch:=omega) only[kd,results34,zH,ab,zO,DH,F5,aa,tZ];simp[cf,ls]
  rw[if_neg m]at o;obtain⟨M,ac⟩:=A (by omega);refine ai (ar (k:=ao rfl (ak (ai (bH (k:=?_))))));refine nB (S:=⟨(jk::jk::.one (.ptr 2 0 0 0)::.one (.sl 12 0 0 n)::rN n::.one (.ptr 5 0 0 0)::.raw (.bool (neg !=decide (k<p)))::rN k::j16 (j16 (j16 (j16 (j16 (j16 (j16 (j4 (jk::[]))))))))),Hm [(2,zu),(5,xP last),(12,i5 12 n n (swp p k g))]⟩) ?_ ?_
  ·by_cases N:k<p
   ·have C:=cd (n:=n) (i:=p) 12 n (by omega);have D:=cd (n:=n) (i:=k) 12 n (by omega);refine aW rfl (fun _=>?_) (fun h=>by simp at h<;>omega);have g4:((jU 12 (ae n n)).set p [.sl 12 (k+1) 0 n])[k]?=some [.sl 12 (k+1) 0 n]:=by
     grind
    refine gQ (aE D (aE C g4)) (k:=WB (k:=?_));refine(Ge 12 (p+1) (k+1) (i5 12 n n (swp p k g)) (G8 g (by omega) l (by omega))).trans (aj ⟨rfl,rfl,rfl,trivial⟩ ?_);simp[wk,UD,mb,V4,fi,Rk,Mf,sw,N]
   have P:p=k:=by omega
   subst P;refine aW rfl (fun h=>by simp at h<;>omega) (fun _=>ak ?_);show bv _ _;rw[De];refine aj ⟨rfl,rfl,rfl,trivial⟩ ?_;simp[wk]
  rw[U9,Q]at o;have K:swp p k g k k≠0:=by
   unfold swp;grind
  have e: ∀i j,i<n->j<n->Sz (swp p k g i j) b:=fun i j s w=>by
   unfold swp;grind
  generalize swp p k g=c at*
  generalize(neg !=decide (k<p))=neg' at*
  refine ai (ar (k:=?_));refine aG (G:=WS n k) (fun q=>⟨(jk::jk::.one (.ptr 2 0 0 0)::.one (.sl 12 0 0 n)::rN n::.one (.ptr 5 0 0 0)::.raw (.bool neg')::rN k::jk::rN q.i::j16 (j16 (j16 (j16 (j16 (j16 (j16 (jk::jk::jk::[])))))))),Hm [(2,zu),(5,xP last),(12,i5 12 n n (fA k last c q.i (k+1)))]⟩) (fun q=>n-q.i) ⟨k+1,by omega,by omega⟩ ?_ ?_
  ·rw[Qo];refine aj ⟨rfl,rfl,rfl,trivial⟩ ?_;simp[wk]
  rintro⟨i,ah,af⟩;simp only;by_cases s:i<n
  ·refine ai (ar (k:=aD rfl (ak (ai (am (ar (k:=?_)))))));refine aG (G:=WS n k) (fun q=>⟨(jk::jk::.one (.ptr 2 0 0 0)::.one (.sl 12 0 0 n)::rN n::.one (.ptr 5 0 0 0)::.raw (.bool neg')::rN k::jk::rN i::rN q.i::j16 (j16 (j16 (j16 (j16 (j16 (j16 (jk::jk::[])))))))),Hm [(2,zu),(5,xP last),(12,i5 12 n n (fA k last c i q.i))]⟩) (fun q=>n-q.i) ⟨k+1,by omega,by omega⟩ ?_ ?_
   ·refine aj ⟨rfl,rfl,rfl,trivial⟩ ?_;simp[wk]
   rintro⟨j,al,ag⟩;simp only;by_cases w:j<n
   ·have a1:=cd (n:=n) (i:=i) 12 n s;have E:=cd (n:=n) (i:=k) 12 n l;have a3:=fT n (fA k last c i j) s;have F:=fT n (fA k last c i j) l;have H:(aN n (fA k last c i j k))[k]?=some (c k k):=by grind [az,p8]
    have a6:(aN n (fA k last c i j i))[j]?=some (c i j):=by grind [az,p8]
    have a7:(aN n (fA k last c i j i))[k]?=some (c i k):=by grind [az,p8]
    have a8:(aN n (fA k last c i j k))[j]?=some (c k j):=by grind [az,p8]
    have V:=e k k l l;have W:=e i j s w;have X:=e i k s l;have Y:=e k j l w;have c1:=mp (c k k) (c i j) (V.mono (by omega)) (W.mono (by omega));have c2:=mp (c i k) (c k j) (X.mono (by omega)) (Y.mono (by omega));have c3:=RZ (c k k*c i j) (c i k*c k j) ((V.mul W).mono (by omega)) ((X.mul Y).mono (by omega));have c4:=Gb (c k k*c i j-c i k*c k j) last hl (((V.mul W).sub (X.mul Y)).mono (by omega)) (B.mono (by omega));refine ai (ar (k:=aD rfl (ak (ai (am (gP [⟨19,_,_,_,c1⟩,⟨34,_,_,_,c2⟩,⟨35,_,_,_,c3⟩,⟨37,_,_,_,c4⟩] (aE a1 (aE E (aE F (aE H (aE a3 (aE a6 (aE a7 (aE a8 @l9)))))))) (k:=bK (k:=?_))))))));refine⟨⟨j+1,by omega,by omega⟩,by grind,aj ⟨rfl,rfl,?_,trivial⟩ ?_⟩
    ·show _::_=_::_;grind [cj,Qm]
    simp[wk]
   have z:j=n:=by omega
   subst z;refine ai (ar (k:=ao rfl (be (bK (k:=?_)))));refine⟨⟨i+1,by omega,by omega⟩,by grind,aj ⟨rfl,rfl,?_,trivial⟩ ?_⟩
   ·grind [cj,T9]
   simp[wk]
  have v:i=n:=by omega
  subst v;have E:=cd (n:=i) (i:=k) 12 i l;have F:=fT i (fA k last c i (k+1)) l;have H:(aN i (fA k last c i (k+1) k))[k]?=some (c k k):=by grind [az,p8]
  refine ai (ar (k:=ao rfl (be (dU (aE E (aE F H)) (k:=bK (k:=?_))))));refine⟨⟨k+1,Sr k last c,c k k,neg',2*b+1,by omega,by omega,K,by omega,fun x y R T=>?_,(e k k l l).mono (by omega)⟩,by simp only;omega,aj ⟨rfl,rfl,?_,trivial⟩ ?_⟩
  ·unfold Sr;split
   ·exact((((e k k l l).mul (e x y R T)).sub ((e x k R l).mul (e k y l T))).ediv last).mono (by omega)
   exact(e x y R T).mono (by omega)
  ·show _::_=_::_;grind [cj,T8]
  simp[wk]
 have L:k=n:=by omega
 subst L;rw[detG,if_neg l]at u;have J:=nW (k:=k) hn;have hN:=MQ last (B.mono (by omega));refine ai (ar (k:=ao rfl (be (ai (bH (k:=?_))))));cases neg with
 |true=>
  rw[if_pos rfl]at u;refine aD rfl (bL [⟨1,_,_,_,hN⟩] (k:=?_));rw[<- u]
  (refine aZ ⟨.inr rfl,b9 rfl ?_ rfl⟩;simp(disch:=omega) only[kd,results34,ab,aa,tZ])
 |false=>
  rw[if_neg (by simp)]at u;refine ao rfl (ak (ar (k:=?_)));rw[<- u]
  (refine aZ ⟨.inr rfl,b9 rfl ?_ rfl⟩;simp(disch:=omega) only[kd,results34,ab,aa,tZ])
theorem nt {k:Nat} (h:x.natAbs<4294967296) (b:1<=k):Sz x k:=by
 grind [Sz]
theorem AN (k:Nat):Sz 0 k:=by grind [Sz]
theorem UF {p k:Nat} (l:p<n) (f:k<n) (h: ∀i j,i<n->j<n->Sz (b i j) m): ∀i j,i<n->j<n->Sz (swp p k b i j) m:=fun i j c e=>by
 unfold swp;grind
theorem Ub {k:Nat} (last:Int) (c:k<n) (h: ∀i j,i<n->j<n->Sz (b i j) m): ∀i j,i<n->j<n->Sz (Sr k last b i j) (2*m+1):=fun x y e f=>by
 unfold Sr;split
 ·exact((((h k k c c).mul (h x y e f)).sub ((h x k e c).mul (h k y c f))).ediv last).mono (by omega)
 exact(h x y e f).mono (by omega)
theorem Gy {n:Nat} (s:n<=16): ∀m k g last neg b,n-k=m->k<=n->(∀i j,i<n->j<n->Sz (g i j) b)->Sz last b->b+1<=1025*2^k->Sz (detG n k g last neg) 67174400
 |0,k,g,last,neg,b,r,q,e,c,o=>by
  have l:=nW (k:=k) (by omega);rw[detG,if_neg (by omega)];split
  ·exact c.neg.mono (by omega)
  exact c.mono (by omega)
 |m+1,k,g,last,neg,b,r,q,e,c,o=>by
  rw[detG,if_pos (by omega)];split
  ·exact AN _
  rename_i u;have t:=Fb (f:=g) (n:=n) (k:=k) (n-k) k rfl;have h:=UF (p:=piv g n k k) (k:=k) (by omega) (by omega) e;exact Gy s m (k+1) _ _ _ (2*b+1) (by omega) (by omega) (Ub last (by omega) h) ((h k k (by omega) (by omega)).mono (by omega)) (by omega)
theorem pH {n:Nat} {f:FF} (c:n<=16) (b: ∀i j,i<n->j<n->Sz (f i j) 1024):Sz (detF n f) 67174400:=
 Gy c n 0 f 1 false 1024 rfl (by omega) b (pe (by omega)) (by omega)
theorem iS (f:FF) (h:1<=n):((mat n m f).headD []).length=m:=by
 have:=mS (M:=mat n m f) (by rw[aS];omega);grind [bu,aH]
theorem nO (f:FF) (e:1<=n) (h:n<=16) (b:1<=m) (g:m<=16):Kx (mat n m f):=by
 refine⟨by rw[aS];omega,by rw[aS];omega,fun r j=>?_⟩;grind [List.mem_iff_getElem?,aS,bu,aH,iS]
theorem Hu (f:FF) (b:1<=n) (c:n<=16):SC (mat n n f)= .tup [(false,[.p (.raw (.int .i64 (n:Int)))]),(false,[.p (.raw (.bool true))])]:=by
 grind [We,nO,aS,iS,SC]
theorem Uu (f:FF) (b:1<=n) (h:n≠m):SC (mat n m f)= .tup [(false,[.p (.raw (.int .i64 0))]),(false,[.p (.raw (.bool false))])]:=by
 unfold SC;rw[if_neg];intro e;have:=e.2;grind [aS,iS]
abbrev GX (n:Nat) (f:FF):List Int:=aN n fun k=>detF (k+1) f
def Wi (n:Nat) (f:FF):TV:= .tup [(false,[.p (.sl (ls fZ (GX n f)))]),(false,[.p (.raw (.bool true))])]
theorem Nz (k:Nat) (f:FF):((List.range (k+1)).map fun i=>(List.range (k+1)).map (f i))=mat (k+1) (k+1) f:=rfl
theorem xv (n:Nat) (f:FF) (l:1<=n) (h:n<=16) (s: ∀i j,i<n->j<n->Sz (f i j) 1024):CallC prog 98 [dZ (mat n n f)] ⟨[],Wi n f⟩:=by
 have b:=Be (mat n n f);rw[Hu f l h]at b;refine aB func98 rfl ntmps98 (aC (k:=bQ [⟨1,_,_,_,b⟩] (k:=ai (bH (k:=ao rfl (ak (bH (k:=ai (bH (k:=?_))))))))));refine aG (G:=jW n) (fun g=>⟨(dZ (mat n n f)::jk::.raw (.slice none 0 0)::.raw (.bool false)::rN n::jk::.one (.sl 31 0 0 g.i)::rN g.i::j16 (j4 (j4 (jk::[])))),Hm [(31,[⟨65,2,lc fZ (GX g.i f)⟩])]⟩) (fun g=>n-g.i) ⟨0,by omega⟩ ?_ ?_
 ·refine(d6 (k:=6) (d:=31) 65 2 (by omega) rfl rfl).trans (aj ⟨rfl,trivial⟩ ?_);simp[wk]
 rintro⟨k,w⟩;simp only;by_cases y:k<n
 ·have c:=PR k k (by omega) (by omega);rw[<- YU]at c;have m:=Bb n n f (List.range (k+1)) (List.range (k+1)) h h (fun x t=>by grind) (fun x t=>by grind) (by simp;omega) (by simp;omega);rw[Nz]at m;have o:=iB (k+1) f (by omega) (by omega) (fun i j u v=>s i j (by omega) (by omega));have q:lc fZ (GX k f)++[[.p (.raw (.bool (decide (detF (k+1) f<0)))),.p (.sl (ls fU (aq (detF (k+1) f).natAbs)))]]=lc fZ (GX (k+1) f):=by
   grind [pT,jA]
  refine ai (ar (k:=aD rfl (ak (ai (am (La [⟨4,_,_,_,c⟩,⟨7,_,_,_,c⟩,⟨8,_,_,_,m⟩,⟨9,_,_,_,o⟩] (aE @aH q) (k:=bK (k:=?_))))))));refine⟨⟨k+1,by omega⟩,by grind,aj ⟨rfl,trivial⟩ ?_⟩;simp[wk]
 have e:k=n:=by omega
 subst e;refine ai (ar (k:=ao rfl (be (bH (k:=?_)))));refine aZ ⟨.inr rfl,jd 31 (bS rfl) ?_ rfl⟩;have r:List.take k (GX k f)=GX k f:=X3 (by rw[aH];omega);simp(disch:=omega) only[kd,results98,r,Wi]
structure Xt (n:Nat) (f:FF) where
 i:Nat
 hi:i<=n
 ok: ∀a,a<i-> ∀b,b<a->f a b=f b a
structure Xu (n i:Nat) (f:FF) where
 j:Nat
 hj:j<=i
 ok: ∀b,b<j->f i b=f b i
theorem II (a:Int):rp a a=0:=by simp[rp]
theorem LA {a:Int} (h:a≠x):rp a x≠0:=by grind [rp]
theorem mC (n:Nat) (f:FF) (D:n<=16) (w: ∀i j,i<n->j<n->Sz (f i j) 1024) (r:Bool) (x:r=true↔SymF f n):CallC prog 103 [dZ (mat n n f)] ⟨[],.raw (.bool r)⟩:=by
 have o:=aS n n f;refine aB func103 rfl ntmps103 (aC (k:=ai (f5 o (k:=?_))));refine aG (G:=Xt n f) (fun g=>⟨(dZ (mat n n f)::jk::.raw (.bool false)::jk::jk::jk::rN n::rN g.i::j16 (j4 (j4 ([])))),Hm []⟩) (fun g=>n-g.i) ⟨0,by omega,fun a m=>by omega⟩ ?_ ?_
 ·refine aj trivial ?_;simp[wk]
 rintro⟨i,B,ok⟩;simp only;by_cases c:i<n
 ·refine ar (k:=bA rfl (ai (am (bH (k:=bH (k:=?_))))));refine aG (G:=Xu n i f) (fun g=>⟨(dZ (mat n n f)::jk::.raw (.bool false)::rN i::rN g.j::jk::rN n::rN i::j16 (j4 (j4 ([])))),Hm []⟩) (fun g=>i-g.j) ⟨0,by omega,fun a m=>by omega⟩ ?_ ?_
  ·refine aj trivial ?_;simp[wk]
  rintro⟨j,C,A⟩;simp only;by_cases y:j<i
  ·have s:=bu n f c;have t:=bu n f (show j<n by omega);have h:=az (f i) (show j<n by omega);have u:=az (f j) c;have l:=A4 (f i j) (f j i) ((w i j c (by omega)).mono (by omega)) ((w j i (by omega) c).mono (by omega));by_cases e:f i j=f j i
   ·rw[e,II]at l;rw[e]at h;refine ai (ar (k:=aD rfl (ak (ai (am (j1 [⟨14,_,_,_,l⟩] (aE s (aE h (aE t u))) (k:=ao rfl (ak (bK (k:=?_))))))))));refine⟨⟨j+1,by omega,fun b v=>?_⟩,by simp only;omega,aj trivial ?_⟩
    ·grind
    simp[wk]
   have p:r=false:=by
    cases r with
    |false=>rfl
    |true=>exact absurd (x.1 rfl i c j (by omega)) e
   subst p;have z:=LA e;refine ai (ar (k:=aD rfl (ak (ai (am (j1 [⟨14,_,_,_,l⟩] (aE s (aE h (aE t u))) (k:=aD rfl (bH (k:=aF @results103)))))))))
  refine ai (ar (k:=ao rfl (be (bK (k:=?_)))));refine⟨⟨i+1,by omega,fun a m b v=>?_⟩,by simp only;omega,aj trivial ?_⟩
  ·grind
  simp[wk]
 have q:r=true:=x.2 fun a m b v=>by
  grind
 subst q;refine ar (k:=bG rfl (bH (k:=aF @results103)))
structure Xc (n:Nat) (f:FF) where
 i:Nat
 hi:i<=n
 ok: ∀a,a<i->0<detF (a+1) f
theorem NG (h:0<x):sg x=1:=by grind [sg]
theorem Q7 (h: ¬0<x):sg x<=0:=by grind [sg]
theorem tY (n:Nat) (f:FF) (l:1<=n) (t:n<=16) (h: ∀i j,i<n->j<n->Sz (f i j) 1024) (z:SymF f n) (r:Bool) (u:r=true↔Ba f n):CallC prog 104 [dZ (mat n n f)] ⟨[],.raw (.bool r)⟩:=by
 have w:=xv n f l t h;have x:=mC n f t h true (by simp[z]);refine aB func104 rfl ntmps104 (aC (k:=iH [⟨1,_,_,_,w⟩] @Wi.eq_1 (k:=ai (bL [⟨4,_,_,_,x⟩] (k:=ao rfl (ak (ai (f5 @aH (k:=?_)))))))));refine aG (G:=Xc n f) (fun g=>⟨(jk::jk::.raw (.bool false)::j16 (.one (.p (.sl (ls fZ (GX n f))))::rN n::rN g.i::j4 (jk::jk::jk::[]))),Hm []⟩) (fun g=>n-g.i) ⟨0,by omega,fun a e=>by omega⟩ ?_ ?_
 ·refine aj trivial ?_;simp[wk]
 rintro⟨i,C,ok⟩;simp only;by_cases s:i<n
 ·have v:(GX n f)[i]?=some (detF (i+1) f):=az _ s;have A:=pH (n:=i+1) (f:=f) (by omega) (fun a b e B=>h a b (by omega) (by omega));have c:=nr (detF (i+1) f) (A.mono (by omega));refine ar (k:=bA rfl (ai (am (aK v (k:=?_)))));by_cases m:0<detF (i+1) f
  ·rw[NG m]at c;refine bL [⟨1,_,_,_,c⟩] (k:=ao rfl (ak (bK (k:=?_))));refine⟨⟨i+1,by omega,fun a e=>?_⟩,by simp only;omega,aj trivial ?_⟩
   ·grind
   simp[wk]
  have o:r=false:=by
   cases r with
   |false=>rfl
   |true=>exact absurd (u.1 rfl i s) m
  subst o;have y:=Q7 m;refine bL [⟨1,_,_,_,c⟩] (k:=aD rfl (bH (k:=aF @results104)))
 have q:r=true:=u.2 fun a e=>ok a (by omega)
 subst q;refine ar (k:=bG rfl (bH (k:=aF @results104)))
theorem zA (a b:Int):decide (rp a b<=0)=decide (a<=b):=by
 grind [rp]
theorem Pz (a b:Int):decide (0<=rp a b)=decide (b<=a):=by
 grind [rp]
theorem NL (n:Nat) (f:FF) (c:1<=n) (g:n<=16) (e: ∀i j,i<n->j<n->Sz (f i j) 1024):CallC prog 54 [dZ (mat n n f)] ⟨[],.raw (.bool (decide (detF n f<=10000)))⟩:=by
 have l:=iB n f c g e;have m:=fY 10000 (by omega) (by omega);have h:=A4 (detF n f) 10000 ((pH g e).mono (by omega)) (nt (by decide) (by omega));have b:=zA (detF n f) 10000;refine aB func54 rfl ntmps54 (aC (k:=ce [⟨1,_,_,_,l⟩,⟨2,_,_,_,m⟩,⟨3,_,_,_,h⟩] b (k:=aF @results54)))
theorem um (n c:Nat) (f:FF) (g:1<=n) (l:n<=16) (s:1<=c) (u:c<=16) (o: ∀i j,i<n->j<c->Sz (f i j) 1024):
  ∃e:Int,(e=0↔(n=c/\n<=8/\SymF f n/\Ba f n))/\CallC prog 50 [dZ (mat n c f)] ⟨[],.raw (.int .i64 e)⟩:=by
 have b:=Be (mat n c f);by_cases p:n=c
 ·subst p;rw[Hu f g l]at b;by_cases t:8<n
  ·refine⟨3,by omega,?_⟩;refine aB func50 rfl ntmps50 (aC (k:=bQ [⟨1,_,_,_,b⟩] (k:=ai (am (ar (k:=aD rfl (bH (k:=aF @results50))))))))
  by_cases h:SymF f n
  ·have m:=mC n f l o true (by simp[h]);by_cases q:Ba f n
   ·have r:=tY n f g l o h true (by simp[q]);refine⟨0,by grind,?_⟩;refine aB func50 rfl ntmps50 (aC (k:=bQ [⟨1,_,_,_,b⟩] (k:=ai (am (ar (k:=ao rfl (bQ [⟨1,_,_,_,m⟩] (k:=ao rfl (bQ [⟨1,_,_,_,r⟩] (k:=ao rfl (ak (bH (k:=aF @results50)))))))))))))
   have r:=tY n f g l o h false (by simp[q]);refine⟨5,by simp[q],?_⟩;refine aB func50 rfl ntmps50 (aC (k:=bQ [⟨1,_,_,_,b⟩] (k:=ai (am (ar (k:=ao rfl (bQ [⟨1,_,_,_,m⟩] (k:=ao rfl (bQ [⟨1,_,_,_,r⟩] (k:=aD rfl (bH (k:=aF @results50))))))))))))
  have m:=mC n f l o false (by simp[h]);refine⟨4,by simp[h],?_⟩;refine aB func50 rfl ntmps50 (aC (k:=bQ [⟨1,_,_,_,b⟩] (k:=ai (am (ar (k:=ao rfl (bQ [⟨1,_,_,_,m⟩] (k:=aD rfl (bH (k:=aF @results50))))))))))
 rw[Uu f g p]at b;refine⟨3,by simp[p],?_⟩;refine aB func50 rfl ntmps50 (aC (k:=bQ [⟨1,_,_,_,b⟩] (k:=ai (am (ar (k:=aD rfl (bH (k:=aF @results50))))))))
theorem Q4 (i j:Nat) (f:FF):((List.range j++[i]).map fun r=>(List.range (j+1)).map (f r))=mat (j+1) (j+1) (pS f i j):=by
 rw[mat,YU,YN,YN]
 congr 1
 ·refine Yc fun r b=>?_
  have:=Yv.1 b;rw[<- YU];exact ez (m:=j+1) fun c _=>by grind [pS]
 simp only[X9,Yu];rw[<- YU]
 congr 1
 exact ez (m:=j+1) fun c _=>by grind [pS]
theorem GU {i:Nat} (h:i<n) (l:m<n) (g: ∀i m,i<n->m<n->Sz (b i m) 1024): ∀r c,r<m+1->c<m+1->Sz (pS b i m r c) 1024:=fun r c o e=>by
 grind [pS]
theorem ES {n i j:Nat} (h:n<=16) (e:i<n) (g:j<n) (c: ∀i j,i<n->j<n->Sz (b i j) 1024):Sz (lam b i j) 67174400:=
 pH (by omega) (GU e g c)
theorem BU {n k:Nat} (g:n<=16) (e:k<=n) (c: ∀i j,i<n->j<n->Sz (b i j) 1024):Sz (dd b k) 67174400:=by
 grind [dd,pe,pH]
theorem ud (n:Nat) (f:FF) (i j:Nat) (e:n<=16) (m:i<n) (o:j<n) (l: ∀i j,i<n->j<n->Sz (f i j) 1024):
  CallC prog 110 [dZ (mat n n f),.raw (.int .i64 (i:Int)),.raw (.int .i64 (j:Int))] ⟨[],tZ (lam f i j)⟩:=by
 have c:=Bb n n f (List.range j++[i]) (List.range (j+1)) e e (fun x p=>by
  grind) (fun x p=>by grind) (by simp;omega) (by simp;omega)
 rw[Q4]at c;have h:=iB (j+1) (pS f i j) (by omega) (by omega) (GU m o l);refine aB func110 rfl ntmps110 (aC (k:=bH (k:=ai (bH (k:=?_)))));refine aG (G:=jW j) (fun g=>⟨(dZ (mat n n f)::rN i::rN j::jk::jk::jk::.one (.ptr 6 0 0 0)::.one (.sl 18 0 0 g.i)::.one (.sl 22 0 0 g.i)::rN g.i::j16 (j4 (j4 ([])))),Hm [(6,zu),(18,[⟨3,1,lc fN (List.range g.i)⟩]),(22,[⟨3,1,lc fN (List.range g.i)⟩])]⟩) (fun g=>j-g.i) ⟨0,by omega⟩ ?_ ?_
 ·refine(d6 (k:=7) (d:=18) 3 1 (by omega) rfl rfl).trans ((d6 (k:=8) (d:=22) 3 1 (by omega) rfl rfl).trans (aj ⟨rfl,rfl,rfl,trivial⟩ ?_));simp[wk]
 rintro⟨k,q⟩;simp only;by_cases r:k<j
 ·refine ai (ar (k:=aD rfl (ak (ai (am (aK (aE @Z0 @mX) (k:=dU (aE @Z0 @mX) (k:=bK (k:=?_)))))))));refine⟨⟨k+1,by omega⟩,by grind,aj ⟨rfl,?_,?_,trivial⟩ ?_⟩
  ·rw[YU];rfl
  ·rw[YU];rfl
  simp[wk]
 have b:k=j:=by omega
 subst b;refine ai (ar (k:=ao rfl (be ?_)));show bs _ _ _ _;refine ij 9 [⟨9,_,_,_,c⟩,⟨10,_,_,_,h⟩] [] (by simp[wk]) (by decide) fun _ K=>?_;simp(disch:=omega) only[kd,dZ,AG,tZ,aa,Nat.reduceMul,Nat.reduceLeDiff,ab,Z0,mX,Nat.reduceBEq];apply K
 refine⟨⟨(j4 (jk::jk::.one (.ptr 6 0 0 0)::j16 (dZ (mat n n f)::jk::jk::jk::AG (List.range k++[i])::jk::jk::jk::AG (List.range (k+1))::jk::jk::[]))),Hm [(6,zu)]⟩,(bF 18 (bS rfl)).trans ((bF 22 (bS rfl)).trans (aj ⟨rfl,trivial⟩ ?_)),by simp[wk],?_⟩
 ·simp[wk,fb,dD,aw,Hm,fQ,fL,YU,X3]
 intro _ K;simp(disch:=omega) only[kd,dZ,AG,tZ,aa,Nat.reduceBEq];apply K;rw[<- lam]
 (refine aZ ⟨.inr rfl,b9 rfl ?_ rfl⟩;simp(disch:=omega) only[kd,results110,aa,tZ])
theorem pW (n:Nat) (f:FF) (k:Nat) (j:n<=16) (h:k<=n):
  CallC prog 111 [OV (GX n f),.raw (.int .i64 (k:Int))] ⟨[],tZ (dd f k)⟩:=by
 have e:=fY 1 (by omega) (by omega);by_cases b:k=0
 ·subst b;rw[show dd f 0=1 from rfl];refine aB func111 rfl ntmps111 (aC (k:=ai (ar (k:=aD rfl (bL [⟨0,_,_,_,e⟩] (k:=aF @results111))))))
 rw[show dd f k=detF k f from if_neg b];have g:((k:Int)-1).toNat=k-1:=by omega
 have c:(GX n f)[k-1]?=some (detF k f):=by grind [az]
 refine aB func111 rfl ntmps111 (aC (k:=ai (ar (k:=ao rfl (ak (aK (aE g c) (k:=aF @results111)))))))
theorem Pb (n:Nat) (f:FF) (i j:Nat) (c:n<=16) (m:i<n) (o:j<n) (e: ∀i j,i<n->j<n->Sz (f i j) 1024):
  CallC prog 107 [dZ (mat n n f),OV (GX n f),.raw (.int .i64 (i:Int)),.raw (.int .i64 (j:Int))] ⟨[],.raw (.bool (decide (2*((lam f i j).natAbs:Int)<=dd f (j+1))))⟩:=by
 have p:=ES c m o e;have v:=BU (k:=j+1) c (by omega) e;have b:Sz ((lam f i j).natAbs:Int) 67174400:=p.le (by omega);have w:Sz (2*((lam f i j).natAbs:Int)) (1+67174400):=Sz.mul (nt (by decide) (by omega)) b;have q:=fY 2 (by omega) (by omega);have r:=ud n f i j c m o e;have s:=Lf (lam f i j) (p.mono (by omega));have t:=mp 2 ((lam f i j).natAbs:Int) (nt (by decide) (by omega)) (b.mono (by omega));have h:=pW n f (j+1) c (by omega);rw[show((j+1:Nat):Int)=(j:Int)+1 by omega]at h;have u:=A4 (2*((lam f i j).natAbs:Int)) (dd f (j+1)) (w.mono (by omega)) (v.mono (by omega));have g:=zA (2*((lam f i j).natAbs:Int)) (dd f (j+1));generalize lam f i j=l at*
 generalize dd f (j+1)=d at*
 refine aB func107 rfl ntmps107 (aC (k:=ce [⟨0,_,_,_,q⟩,⟨4,_,_,_,r⟩,⟨5,_,_,_,s⟩,⟨6,_,_,_,t⟩,⟨10,_,_,_,h⟩,⟨11,_,_,_,u⟩] g (k:=aF @results107)))
theorem KJ (n:Nat) (f:FF) (i:Nat) (c:n<=16) (r:i<n) (H:0<i) (e: ∀i j,i<n->j<n->Sz (f i j) 1024):
  CallC prog 112 [dZ (mat n n f),OV (GX n f),.raw (.int .i64 (i:Int))] ⟨[],.raw (.bool (decide (3*(dd f i*dd f i)<=4*(dd f (i-1)*dd f (i+1)+lam f i (i-1)*lam f i (i-1)))))⟩:=by
 have g:=ES (j:=i-1) c r (by omega) e;have d0:=BU (k:=i-1) c (by omega) e;have d1:=BU (k:=i) c (by omega) e;have d2:=BU (k:=i+1) c (by omega) e;have m:=ud n f i (i-1) c r (by omega) e;have o:=pW n f (i-1) c (by omega);have p:=pW n f (i+1) c (by omega);have q:=pW n f i c (by omega);rw[show((i+1:Nat):Int)=(i:Int)+1 by omega]at p;rw[show((i-1:Nat):Int)=(i:Int)-1 by omega]at m o;have E:=fY 4 (by omega) (by omega);have D:=fY 3 (by omega) (by omega);generalize lam f i (i-1)=l at*
 generalize dd f (i-1)=a at*
 generalize dd f (i+1)=b at*
 generalize dd f i=d at*
 have s:Sz (a*b) 134348800:=(d0.mul d2).mono (by omega);have t:Sz (l*l) 134348800:=(g.mul g).mono (by omega);have u:Sz (a*b+l*l) 134348801:=s.add t;have F:Sz (4*(a*b+l*l)) 134348802:=(Sz.mul (nt (k:=1) (by decide) (by omega)) u).mono (by omega);have v:Sz (d*d) 134348800:=(d1.mul d1).mono (by omega);have G:Sz (3*(d*d)) 134348802:=(Sz.mul (nt (k:=1) (by decide) (by omega)) v).mono (by omega);have w:=mp a b (d0.mono (by omega)) (d2.mono (by omega));have x:=mp l l (g.mono (by omega)) (g.mono (by omega));have y:=xt (a*b) (l*l) (s.mono (by omega)) (t.mono (by omega));have z:=mp 4 (a*b+l*l) (nt (by decide) (by omega)) (u.mono (by omega));have A:=mp d d (d1.mono (by omega)) (d1.mono (by omega));have B:=mp 3 (d*d) (nt (by decide) (by omega)) (v.mono (by omega));have C:=A4 (4*(a*b+l*l)) (3*(d*d)) (F.mono (by omega)) (G.mono (by omega));have h:=Pz (4*(a*b+l*l)) (3*(d*d));refine aB func112 rfl ntmps112 (aC (k:=bL [⟨4,_,_,_,m⟩] (k:=cQ [⟨0,_,_,_,E⟩,⟨4,_,_,_,o⟩,⟨8,_,_,_,p⟩,⟨9,_,_,_,w⟩,⟨12,_,_,_,x⟩,⟨13,_,_,_,y⟩,⟨14,_,_,_,z⟩] (k:=j1 [⟨1,_,_,_,D⟩,⟨4,_,_,_,q⟩,⟨7,_,_,_,q⟩,⟨8,_,_,_,A⟩,⟨9,_,_,_,B⟩,⟨10,_,_,_,C⟩] h (k:=aF @results112)))))
def I64 (z:Int):Prop:= -9223372036854775808<=z/\z<=9223372036854775807
theorem I64.sz (h:I64 x) {k:Nat} (b:2<=k):Sz x k:=by
 have:Sz x 2:=by
  unfold Sz;have:=h.1;have:=h.2;omega
 exact this.mono b
theorem Uv (e:1<=n):Sq (mat n m b)↔n=m:=by
 grind [Sq,mat,aH]
theorem DO {g:FF} (h: ∀i j,i<n->j<n->b i j=g i j) (q:RedR b n):RedR g n:=by
 obtain⟨y,z,A,o⟩:=q;have x: ∀k,k<=n->dk g k=dk b k:=fun k u=>BW fun i j e s=>(h i j (by omega) (by omega)).symm
 have w: ∀t i,t<n->i<n->bk g t i t=bk b t i t:=fun t i m e=>by
  have v:dk (pS g i t) (t+1)=bk g t i t:=Ep (fun r c B p=>by grind [pS]) (fun c p=>by grind [pS]);grind [pS,Ep]
 refine⟨fun i e j s=>by grind,fun k u=>by grind,by grind,fun t m=>⟨fun i e l=>?_,?_⟩⟩
 ·have:=(o t m).1 i e l;grind
 grind [KI]
theorem KN (e:1<=n):SY (mat n m b)↔n=m/\n<=8/\RedR b n:=by
 grind [SY,aS,Uv,DO,PQ]
theorem zm {x y:List Int} {b c:Nat} (e: ∀i,Sz (x.getD i 0) b) (f: ∀i,Sz (y.getD i 0) c): ∀l,Sz (eZ x y l) (b+c+l)
 |0=>AN _
 |l+1=>by
  show Sz (eZ x y l+x.getD l 0*y.getD l 0) _;exact(zm e f l).add (((e l).mul (f l)).mono (by omega))
theorem tB {x:List Int} (h: ∀z∈x,Sz z n) (i:Nat):Sz (x.getD i 0) n:=by
 grind [AN]
theorem Vh (x y:List Int) (v:x.length<=16) (t:x.length<=y.length) (j: ∀z∈x,Sz z 16777216) (m: ∀z∈y,Sz z 67108864):CallC prog 153 [OV x,OV y] ⟨[],tZ (eZ x y x.length)⟩:=by
 refine aB func153 rfl ntmps153 (aC (k:=ar (k:=ai (bH (k:=?_)))));refine aG (G:=Wy x.length) (fun g=>⟨(OV x::OV y::jk::jk::.one (.ptr 4 0 0 0)::.one (.ptr 5 0 0 0)::jk::jk::jk::rN x.length::rN g.i::j4 (j4 (j4 (jk::jk::jk::[])))),Hm [(4,zu),(5,xP (eZ x y g.i))]⟩) (fun g=>x.length-g.i) ⟨0,by omega⟩ ?_ ?_
 ·refine(gN 5).trans (aj ⟨rfl,?_,trivial⟩ ?_)
  ·show _=xP 0;simp[zH,aw,zO,DH,F5,xP,A2,cf,ls]
  simp[wk]
 rintro⟨i,u⟩;simp only;have s:=zm (tB j) (tB m) i;by_cases r:i<x.length
 ·obtain⟨a,f⟩:=getElem?_of_lt r;obtain⟨b,h⟩:=getElem?_of_lt (l:=y) (k:=i) (by omega);have n:=j a (XH f);have o:=m b (XH h);have p:=mp a b (n.mono (by omega)) (o.mono (by omega));have e:=xt (eZ x y i) (a*b) (s.mono (by omega)) ((n.mul o).mono (by omega));have q:eZ x y i+a*b=eZ x y (i+1):=by
   grind [eZ]
  rw[q]at e;refine ar (k:=bA rfl (ai (am (bH (k:=gP [⟨9,_,_,_,p⟩,⟨10,_,_,_,e⟩] (aE f h) (k:=bK (k:=?_)))))));refine⟨⟨i+1,by omega⟩,by grind,aj ⟨rfl,rfl,trivial⟩ ?_⟩;simp[wk]
 have c:i=x.length:=by omega
 subst c;refine ar (k:=bG rfl (ar (k:=aF @results153)))
abbrev WC (n c:Nat) (f:FF) (y:List Int):List Int:=aN n fun i=>eZ (aN c (f i)) y c
theorem D8 {y:List Int} (h:isReducedM (mat n n b)=true) (j:DD y=true):fc (mat n n b) y=WC n n b y:=by
 have g:=ir h;have e:=g.2.1;rw[aS]at e;apply X7;intro i;rw[fc,XK];by_cases c:i<n
 ·rw[bu _ _ c,az _ c];simp only[Yp,aH];exact congrArg some (oz (g.row_bd (bu _ _ c)) (fun i z l=>lC j l) n e).1
 grind [aS,aH]
theorem Vq (a b:Int) (c:b≠0) (f:Bh a) (g:Bh b):CallC prog 253 [tZ a,tZ b] ⟨[],tZ (a%b)⟩:=by
 have e:=A7 a b c f g;refine aB func253 rfl ntmps253 (aC (k:=bL [⟨2,_,_,_,e⟩] (k:=ar (k:=aF @results253))))
structure Xe (a b:Int) where
 x:Int
 y:Int
 hx:0<=x
 hy:0<=y
 hg:Int.gcd x y=Int.gcd a b
 sx:Bh x
 sy:Bh y
theorem L4 {y:Int} (b:0<=x) (c:0<=y):Int.gcd y (x%y)=Int.gcd x y:=by
 obtain⟨m,rfl⟩:=Yg b;obtain⟨n,rfl⟩:=Yg c;show Nat.gcd n (m%n)=Nat.gcd m n;grind [Nat.gcd_comm,Nat.gcd_rec]
theorem Vj (a b:Int) (l:Bh a) (m:Bh b):CallC prog 242 [tZ a,tZ b] ⟨[],tZ (Int.gcd a b:Nat)⟩:=by
 have n:=Lf a l.bg;have o:=Lf b m.bg;refine aB func242 rfl ntmps242 (aC (k:=cQ [⟨1,_,_,_,n⟩,⟨3,_,_,_,o⟩] (k:=?_)));refine ai (aG (G:=Xe a b) (fun g=>⟨(j4 (.one (.ptr 4 0 0 0)::.one (.ptr 5 0 0 0)::.one (.ptr 6 0 0 0)::j4 (j4 (j4 ([]))))),Hm [(4,zu),(5,xP g.x),(6,xP g.y)]⟩) (fun g=>g.y.natAbs) ⟨a.natAbs,b.natAbs,by omega,by omega,by simp;rfl,l.le (by omega),m.le (by omega)⟩ ?_ ?_)
 ·refine aj ⟨rfl,rfl,rfl,trivial⟩ ?_;simp[wk]
 rintro⟨x,y,v,r,t,s,f⟩;simp only;have j:=nr y f.bg;by_cases c:y=0
 ·subst c;refine ai (ce [⟨1,_,_,_,j⟩] @AB (k:=ao rfl (be ?_)));show bs _ _ _ _;have e:((Int.gcd a b:Nat):Int)=x:=by grind [Int.gcd_zero_right]
  rw[e];refine ar (k:=aF @results242)
 have u:=NE c;have p:=Vq x y c s f;have q:=aaT x (show 0<y by omega);have h:=abj x c;refine ai (bL [⟨1,_,_,_,j⟩] (k:=aD rfl (ak (am (S6 [⟨3,_,_,_,p⟩] (k:=?_))))));refine⟨⟨y,x%y,r,h,by grind [L4],f,f.le (by omega)⟩,by grind,aj ⟨rfl,by simp_all[aw],by simp_all[aw],trivial⟩ ?_⟩;simp[wk]
def cR (n d:Int):List AV:=[.p (.raw (.bool (decide (n<0)))),.p (.sl (ls fU (aq n.natAbs))),.p (.raw (.bool (decide (d<0)))),.p (.sl (ls fU (aq d.natAbs)))]
def nN (n d:Int):Int:=n/(Int.gcd n d:Nat)
def nD (n d:Int):Int:=d/(Int.gcd n d:Nat)
theorem pN {n d:Int} (b:0<d):0<Int.gcd n d:=Int.gcd_pos_of_ne_zero_right n (by omega)
theorem EZ {n d:Int}:nN n d*(Int.gcd n d:Nat)=n:=abv (Int.gcd_dvd_left n d)
theorem Aa {n d:Int}:nD n d*(Int.gcd n d:Nat)=d:=abv (Int.gcd_dvd_right n d)
theorem oU {n d:Int} (c:0<d):0<nD n d:=by
 have h:=Aa (n:=n) (d:=d);have e:=pN (n:=n) c;rcases ZX 0 (nD n d)with b|b
 ·exact b
 have:=Int.mul_nonpos_of_nonpos_of_nonneg b (show(0:Int)<=(Int.gcd n d:Nat) by omega);omega
theorem Ha {d:Int} (b:0<d):nN x d/nD x d=x/d:=by
 grind [Int.mul_ediv_mul_of_pos_left,EZ,Aa]
theorem yk {d:Int} {k:Nat} (h:Sz x k):Sz (nN x d) k:=h.ediv _
theorem yj {d:Int} {k:Nat} (h:Sz d k):Sz (nD x d) k:=h.ediv _
theorem RW (n d:Int) (b:0<d) (j:Bh n) (c:Bh d):CallC prog 206 [tZ n,tZ d] ⟨[],.tup [(true,cR (nN n d) (nD n d)),(false,[.p (.raw (.bool true))])]⟩:=by
 have e:=nr d c.bg;rw[NG b]at e;have l:=Vj n d j c;have o:=pN (n:=n) b;have sg:Bh (Int.gcd n d:Nat):=c.le (by
  have:=Nat.le_of_dvd (by omega) (Int.gcd_dvd_natAbs_right n d);omega)
 have f:=Gb n (Int.gcd n d:Nat) (by omega) j sg;have h:=Gb d (Int.gcd n d:Nat) (by omega) c sg;rw[show n/(Int.gcd n d:Nat)=nN n d from rfl]at f;rw[show d/(Int.gcd n d:Nat)=nD n d from rfl]at h;generalize((Int.gcd n d:Nat):Int)=g at*
 generalize nN n d=q at*
 generalize nD n d=m at*
 refine aB func206 rfl ntmps206 (aC (k:=ai (bL [⟨1,_,_,_,e⟩] (k:=ao rfl (ak (ai (bL [⟨1,_,_,_,e⟩] (k:=ao rfl (ak (bL [⟨2,_,_,_,l⟩] (k:=cQ [⟨2,_,_,_,f⟩,⟨5,_,_,_,h⟩] (k:=aF (aE @results206 @cR.eq_1)))))))))))))
theorem jj (n d:Int) (b:0<d) (f:Bh n) (e:Bh d):CallC prog 162 [tR n d] ⟨[],tR (nN n d) (nD n d)⟩:=by
 have c:=RW n d b f e;generalize nN n d=h at*
 generalize nD n d=g at*
 refine aB func162 rfl ntmps162 (aC (k:=ce [⟨4,_,_,_,c⟩] @cR.eq_1 (k:=ai (bH (k:=ao rfl (ak (ar (k:=aF @results162))))))))
theorem SU:CallC prog 161 [] ⟨[],tR 1 2⟩:=by
 have b:=fY 1 (by omega) (by omega);have c:=fY 2 (by omega) (by omega);refine aB func161 rfl ntmps161 (aC (k:=bL [⟨0,_,_,_,b⟩,⟨1,_,_,_,c⟩] (k:=aF @results161)))
theorem OZ (n d:Int) (b:0<d) (f:Bh n) (e:Bh d):CallC prog 159 [tR n d] ⟨[],tZ (n/d)⟩:=by
 have g:=jj n d b f e;have c:=Gb (nN n d) (nD n d) (by have:=oU (n:=n) b;omega) (yk f) (yj e);rw[Ha b]at c;generalize nN n d=j at*
 generalize nD n d=h at*
 refine aB func159 rfl ntmps159 (aC (k:=bL [⟨1,_,_,_,g⟩] (k:=bL [⟨4,_,_,_,c⟩] (k:=aF @results159))))
abbrev WE:List OObj:=[⟨143,4,[[.raw (.bool false),.raw (.slice none 0 0),.raw (.bool false),.raw (.slice none 0 0)]]⟩]
abbrev W5 (n d:Int):List OObj:=[⟨143,4,[[.p (.raw (.bool (decide (n<0)))),.p (.sl (ls fU (aq n.natAbs))),.p (.raw (.bool false)),.p (.sl (ls fU (aq d.natAbs)))]]⟩]
theorem SO (a b c d:Int) (e:0<b) (f:0<d) (j:Sz a 100000000) (m:Sz b 100000000) (o:Sz c 100000000) (p:Sz d 100000000):
  CallC prog 160 [tR a b,tR c d] ⟨[],tR (nN (nN a b*nD c d+nN c d*nD a b) (nD a b*nD c d)) (nD (nN a b*nD c d+nN c d*nD a b) (nD a b*nD c d))⟩:=by
 have w:=jj a b e (j.mono (by omega)) (m.mono (by omega));have z:=jj c d f (o.mono (by omega)) (p.mono (by omega));have r:Sz (nN a b) 100000000:=yk j;have h:Sz (nD a b) 100000000:=yj m;have q:Sz (nN c d) 100000000:=yk o;have g:Sz (nD c d) 100000000:=yj p;have G:=oU (n:=a) e;have F:=oU (n:=c) f;generalize nN a b=x at*
 generalize nD a b=y at*
 generalize nN c d=u at*
 generalize nD c d=v at*
 have s:Sz (x*v) 200000000:=(r.mul g).mono (by omega);have t:Sz (u*y) 200000000:=(q.mul h).mono (by omega);have H:Sz (x*v+u*y) 200000001:=s.add t;have I:Sz (y*v) 200000000:=(h.mul g).mono (by omega);have A:=mp x v (r.mono (by omega)) (g.mono (by omega));have B:=mp u y (q.mono (by omega)) (h.mono (by omega));have C:=xt (x*v) (u*y) (s.mono (by omega)) (t.mono (by omega));have D:=mp y v (h.mono (by omega)) (g.mono (by omega));have E:=RW (x*v+u*y) (y*v) (aa1 G F) (H.mono (by omega)) (I.mono (by omega));generalize nN (x*v+u*y) (y*v)=J at*
 generalize nD (x*v+u*y) (y*v)=rd at*
 refine aB func160 rfl ntmps160 (aC (k:=cQ [⟨1,_,_,_,w⟩,⟨3,_,_,_,z⟩] (k:=?_)));refine bs.weak (aj (tm:=(j4 (.one (.ptr 4 0 0 0)::.one (.ptr 5 0 0 0)::.one (.ptr 6 0 0 0)::j16 (j4 (j4 (jk::jk::jk::[])))))) (l:=[(4,WE),(5,W5 x y),(6,W5 u v)]) ⟨rfl,rfl,rfl,trivial⟩ (by simp[wk])) ?_;refine j1 [⟨4,_,_,_,A⟩,⟨9,_,_,_,B⟩,⟨10,_,_,_,C⟩,⟨15,_,_,_,D⟩,⟨16,_,_,_,E⟩] @cR.eq_1 (k:=ar (k:=aF @results160))
theorem Qk {q:Int} (b:0<q):nN (nN x q*nD 1 2+nN 1 2*nD x q) (nD x q*nD 1 2)/nD (nN x q*nD 1 2+nN 1 2*nD x q) (nD x q*nD 1 2)=(2*x+q)/(2*q):=by
 have c:nN 1 2=1:=by decide
 have e:nD 1 2=2:=by decide
 have j:=oU (n:=x) b;rw[c,e,Ha (by omega)];have h:=pN (n:=x) b;have f:=EZ (n:=x) (d:=q);have g:=Aa (n:=x) (d:=q);have:(nN x q*2+1*nD x q)*(Int.gcd x q:Nat)/((nD x q*2)*(Int.gcd x q:Nat))=(nN x q*2+1*nD x q)/(nD x q*2):=aaK _ _ (by omega);rw[<- this]
 congr 1
 ·grind
 grind
theorem Ie (p q:Int) (b:0<q) (f:Sz p 100000000) (g:Sz q 100000000):CallC prog 108 [tR p q] ⟨[],tZ ((2*p+q)/(2*q))⟩:=by
 have m:=SO p q 1 2 b (by omega) f g (pe (by omega)) (nt (by decide) (by omega));have r:Sz (nN p q) 100000000:=yk f;have h:Sz (nD p q) 100000000:=yj g;have s:=oU (n:=p) b;have o:nN 1 2=1:=by decide
 have e:nD 1 2=2:=by decide
 have j:Sz (2:Int) 1:=nt (by decide) (by omega);have u:Sz (nN p q*nD 1 2+nN 1 2*nD p q) 100000002:=by
  rw[o,e];refine Sz.add (k:=100000001) ((r.mul j).mono (by omega)) ?_;rw[Int.one_mul];exact h.mono (by omega)
 have t:Sz (nD p q*nD 1 2) 100000001:=by rw[e];exact(h.mul j).mono (by omega)
 have c:=OZ (nN (nN p q*nD 1 2+nN 1 2*nD p q) (nD p q*nD 1 2)) (nD (nN p q*nD 1 2+nN 1 2*nD p q) (nD p q*nD 1 2)) (oU (by grind)) ((yk u).mono (by omega)) ((yj t).mono (by omega));rw[Qk b]at c;generalize nN (nN p q*nD 1 2+nN 1 2*nD p q) (nD p q*nD 1 2)=v at*
 generalize nD (nN p q*nD 1 2+nN 1 2*nD p q) (nD p q*nD 1 2)=rd at*
 have l:=SU;refine aB func108 rfl ntmps108 (aC (k:=cQ [⟨1,_,_,_,l⟩,⟨2,_,_,_,m⟩,⟨3,_,_,_,c⟩] (k:=aF @results108)))
theorem DN (p q:Int) (b:0<q) (e:Bh p) (f:Bh q):CallC prog 109 [tZ p,tZ q] ⟨[],tR (nN p q) (nD p q)⟩:=by
 have c:=jj p q b e f;generalize nN p q=h at*
 generalize nD p q=g at*
 refine aB func109 rfl ntmps109 (aC (k:=bL [⟨3,_,_,_,c⟩] (k:=aF @results109)))
def qF (l d:Int):Int:=(2*l+d)/(2*d)
theorem WO {d:Int} (b:0<d):(2*nN x d+nD x d)/(2*nD x d)=qF x d:=by
 have f:=pN (n:=x) b;have c:=EZ (n:=x) (d:=d);have e:=Aa (n:=x) (d:=d);have:(2*nN x d+nD x d)*(Int.gcd x d:Nat)/((2*nD x d)*(Int.gcd x d:Nat))=(2*nN x d+nD x d)/(2*nD x d):=aaK _ _ (by omega);simp_all[qF,Int.add_mul,abB]
def wR (f:FF):Nat->Nat->Int:=fun a b=>f b a
def Fe (f:FF) (i j:Nat):Nat->Nat->Int:=fun a b=>if b<i\/(b=i/\a<j)then f b a else 0
theorem Ng (f:FF) (i j a b:Nat):upd (Fe f i j) j i (f i j) a b=Fe f i (j+1) a b:=by
 unfold upd Fe;by_cases c:a=j
 ·subst c;grind
 have:a<j+1↔a<j:=by omega
 simp_all
theorem QH (f:FF) (i a b:Nat) (e:a<n):Fe f i n a b=Fe f (i+1) 0 a b:=by
 grind [Fe]
theorem QG (f:FF) (a b:Nat) (c:b<n):Fe f n 0 a b=wR f a b:=by
 grind [Fe,wR]
theorem Nh (f:FF):Fe f 0 0=fun _ _=>0:=by
 grind [Fe]
theorem r8 (n c:Nat) (f:FF) (h:1<=n) (x:n<=16) (o:1<=c) (w:c<=16) (C: ∀i j:Nat,i<n->j<c->Bg (f i j)):
  CallC prog 114 [dZ (mat n c f)] ⟨[],.tup [(false,[.p (.sl (ls (fR fZ) (mat c n (wR f))))]),(false,[.p (.raw (.bool true))])]⟩:=by
 have m:=tj (mat n c f);rw[iE (nO f h x o w),aS,iS f h]at m;have u:=aS n c f;have v:=zk c n w x;rw[tG,rF]at v;refine aB func114 rfl ntmps114 (aC (k:=bQ [⟨1,_,_,_,m⟩] (k:=ai (bH (k:=ao rfl (ak (bQ [⟨2,_,_,_,v⟩] (k:=ai (f5 u (k:=?_))))))))));refine aG (G:=jW n) (fun g=>⟨(dZ (mat n c f)::j4 (jk::jk::.one (.sl 20 0 0 c)::j4 (j4 (j4 (jk::jk::rN n::rN g.i::j16 (j4 (j4 (jk::jk::jk::[])))))))),Hm [(20,i5 20 c n (Fe f g.i 0))]⟩) (fun g=>n-g.i) ⟨0,by omega⟩ ?_ ?_
 ·refine aj ⟨?_,trivial⟩ ?_
  ·rw[Nh];exact fS 0 20 c n _
  simp[wk]
 rintro⟨i,D⟩;simp only;by_cases t:i<n
 ·have y:=bu c f t;refine ar (k:=bA rfl (ai (am (bH (k:=aK (aE y @aH) (k:=?_))))));refine aG (G:=jW c) (fun g=>⟨(dZ (mat n c f)::j4 (jk::jk::.one (.sl 20 0 0 c)::rN i::j4 (j4 (j4 (jk::rN n::rN i::j4 (jk::jk::rN c::rN g.i::j16 (jk::jk::jk::[]))))))),Hm [(20,i5 20 c n (Fe f i g.i))]⟩) (fun g=>c-g.i) ⟨0,by omega⟩ ?_ ?_
  ·refine aj ⟨rfl,trivial⟩ ?_;simp[wk]
  rintro⟨j,E⟩;simp only;by_cases b:j<c
  ·have s:=az (f i) b;have m:=MT (f i j) (C i j t b);have z:=cd (n:=c) (i:=j) 20 n b;have A:=fT n (Fe f i j) b;have B:=az (Fe f i j j) t;refine ar (k:=bA rfl (ai (am (bH (k:=gP [⟨12,_,_,_,m⟩] (aE z (aE y (aE s (aE A (aE B @l9))))) (k:=bK (k:=?_)))))));refine⟨⟨j+1,by omega⟩,by grind,aj ⟨?_,trivial⟩ ?_⟩
   ·show _::_=_::_;simp_all[cj,Ng]
   simp[wk]
  have r:j=c:=by omega
  subst r;refine ar (k:=bG rfl (bK (k:=?_)));refine⟨⟨i+1,by omega⟩,by grind,aj ⟨?_,trivial⟩ ?_⟩
  ·grind [cj,QH]
  simp[wk]
 have q:i=n:=by omega
 subst q;refine ar (k:=bG rfl ?_);show bs _ _ _ _;have e:i5 20 c i (Fe f i 0)=i5 20 c i (wR f):=by
  grind [cj,QG]
 rw[e];refine bs.weak ((bF 20 (ke rfl)).trans (aj (tm:=(j4 (jk::jk::jk::dZ (mat c i (wR f))::j16 (j16 (j4 (j4 (jk::jk::jk::[]))))))) (l:=[]) trivial (by simp[wk];exact(Sf (H:=Hm [(20,i5 20 c i (wR f))]) (d:=20) (n:=c) (c:=i) (f:=wR f) rfl).symm))) ?_;refine bH (k:=aF @results114)
def idF:Nat->Nat->Int:=fun a b=>if a=b then 1 else 0
def Nc (i:Nat):Nat->Nat->Int:=fun a b=>if a<i/\a=b then 1 else 0
theorem Nd (i a b:Nat):upd (Nc i) i i 1 a b=Nc (i+1) a b:=by
 unfold upd Nc;by_cases c:a=i
 ·subst c;grind
 have:a<i+1↔a<i:=by omega
 simp_all
theorem QF (a b:Nat) (c:a<n):Nc n a b=idF a b:=by grind [Nc,idF]
theorem Nf:Nc 0=fun _ _=>0:=by rfl
theorem t8 (n:Nat) (u:1<=n) (h:n<=16):
  CallC prog 56 [.raw (.int .i64 (n:Int))] ⟨i5 0 n n idF,.tup [(false,[.sl 0 0 0 n]),(false,[.p (.raw (.bool true))])]⟩:=by
 have f:=zk n n h h;rw[tG,rF]at f;have s:=fY 1 (by omega) (by omega);refine aB func56 rfl ntmps56 (aC (k:=ai (ar (k:=ao rfl (ak (bQ [⟨2,_,_,_,f⟩] (k:=ai (bH (k:=?_)))))))));refine aG (G:=jW n) (fun g=>⟨(j4 (.one (.sl 14 0 0 n)::j4 (j4 (jk::jk::jk::rN n::rN g.i::j4 (j4 (jk::jk::jk::[])))))),Hm [(14,i5 14 n n (Nc g.i))]⟩) (fun g=>n-g.i) ⟨0,by omega⟩ ?_ ?_
 ·refine aj ⟨?_,trivial⟩ ?_
  ·rw[Nf];exact fS 0 14 n n _
  simp[wk]
 rintro⟨i,w⟩;simp only;by_cases c:i<n
 ·have o:=cd (n:=n) (i:=i) 14 n c;have q:=fT n (Nc i) c;have r:=az (Nc i i) c;have v:=l9 (n:=n) (i:=i) (j:=i) n (Nc i) 1;refine ar (k:=bA rfl (ai (am (bH (k:=gP [⟨5,_,_,_,s⟩] (aE o (aE q r)) (k:=bK (k:=?_)))))));refine⟨⟨i+1,by omega⟩,by grind,aj ⟨?_,trivial⟩ ?_⟩
  ·show _::_=_::_;simp_all[cj,Nd]
  simp[wk]
 have b:i=n:=by omega
 subst b;refine ar (k:=bG rfl ?_);show bs _ _ _ _;have e:i5 14 i i (Nc i)=i5 14 i i idF:=by
  grind [cj,QF]
 rw[e];refine bH (k:=?_);refine aZ ⟨.inr rfl,_,bv.refl _,?_⟩;refine⟨.tup [(false,[.sl 14 0 0 i]),(false,[.p (.raw (.bool true))])],14,?_,?_,?_,rfl⟩
 ·simp(disch:=omega) only[kd,results56]
 ·intro t l x m;simp at l;rcases l with rfl|rfl<;>(simp at m;subst m)<;>first|rfl|trivial
 grind [fS]
def jc (k:Nat) (f g:FF):Nat->Nat->Int:=fun i j=>eZ (aN k (f i)) (aN k (wR g j)) k
theorem Vn (n k m:Nat) (f g:FF) (v:1<=n) (L:n<=16) (r:1<=k) (K:k<=16) (y:1<=m) (u:m<=16) (S: ∀i j:Nat,i<n->j<k->Sz (f i j) 16777216) (F: ∀i j:Nat,i<k->j<m->Sz (g i j) 16777216):
  CallC prog 115 [dZ (mat n k f),dZ (mat k m g)] ⟨[],.tup [(false,[.p (.sl (ls (fR fZ) (mat n m (jc k f g))))]),(false,[.p (.raw (.bool true))])]⟩:=by
 have D:=tj (mat n k f);rw[iE (nO f v L r K),aS,iS f v]at D;have Q:=r8 k m g r K y u (fun i j I J=>(F i j I J).mono (by omega));have s:=aS n k f;have t:=aS k m g;have b:=aS m k (wR g);have E:=zk n m L u;rw[tG,rF]at E;refine aB func115 rfl ntmps115 (aC (k:=bQ [⟨1,_,_,_,D⟩] (k:=bQ [⟨1,_,_,_,Q⟩] (k:=ai (aK t (k:=ao rfl (ak (iH [⟨4,_,_,_,E⟩] (aE s b) (k:=ai (f5 s (k:=?_)))))))))));refine aG (G:=jW n) (fun q=>⟨(dZ (mat n k f)::j4 (j4 (dZ (mat m k (wR g))::jk::.one (.sl 41 0 0 n)::j16 (j4 (j4 (j4 (jk::jk::jk::rN n::rN q.i::j16 (j4 (j4 (jk::[])))))))))),Hm [(41,i5 41 n m (part (jc k f g) q.i 0))]⟩) (fun q=>n-q.i) ⟨0,by omega⟩ ?_ ?_
 ·refine aj ⟨?_,trivial⟩ ?_
  ·rw[yy];exact fS 0 41 n m _
  simp[wk]
 rintro⟨i,I⟩;simp only;by_cases h:i<n
 ·have R:=bu k f h;refine ar (k:=bA rfl (ai (am (bH (k:=f5 b (k:=?_))))));refine aG (G:=jW m) (fun q=>⟨(dZ (mat n k f)::j4 (j4 (dZ (mat m k (wR g))::jk::.one (.sl 41 0 0 n)::rN i::j16 (j4 (j4 (j4 (jk::jk::rN n::rN i::jk::jk::jk::rN m::rN q.i::j16 (j4 ([]))))))))),Hm [(41,i5 41 n m (part (jc k f g) i q.i))]⟩) (fun q=>m-q.i) ⟨0,by omega⟩ ?_ ?_
  ·refine aj ⟨rfl,trivial⟩ ?_;simp[wk]
  rintro⟨j,J⟩;simp only;by_cases o:j<m
  ·have A:=bu k (wR g) o;have C:=Vh (aN k (f i)) (aN k (wR g j)) (by rw[aH];omega) (by grind [aH]) (fun z B=>by
    obtain⟨p,M,rfl⟩:=XR.1 B;grind) (fun z B=>by
    obtain⟨p,M,rfl⟩:=XR.1 B;exact(F p j (Yv.1 M) o).mono (by omega))
   rw[aH,show eZ (aN k (f i)) (aN k (wR g j)) k=jc k f g i j from rfl]at C;have N:=cd (n:=n) (i:=i) 41 m h;have O:=fT m (part (jc k f g) i j) h;have P:=az (part (jc k f g) i j i) o;refine ar (k:=bA rfl (ai (am (bH (k:=gP [⟨13,_,_,_,C⟩] (aE N (aE R (aE A (aE O (aE P @l9))))) (k:=bK (k:=?_)))))));refine⟨⟨j+1,by omega⟩,by grind,aj ⟨?_,trivial⟩ ?_⟩
   ·show _::_=_::_;grind [cj,iw]
   simp[wk]
  have x:j=m:=by omega
  subst x;refine ar (k:=bG rfl (bK (k:=?_)));refine⟨⟨i+1,by omega⟩,by grind,aj ⟨?_,trivial⟩ ?_⟩
  ·grind [cj,jQ]
  simp[wk]
 have w:i=n:=by omega
 subst w;refine ar (k:=bG rfl ?_);show bs _ _ _ _;have e:i5 41 i m (part (jc k f g) i 0)=i5 41 i m (jc k f g):=by
  grind [cj,jP]
 rw[e];refine bs.weak ((bF 41 (ke rfl)).trans (aj (tm:=(j4 (j4 (jk::jk::jk::dZ (mat i m (jc k f g))::j16 (j16 (j16 (j4 (j4 (jk::jk::[]))))))))) (l:=[]) trivial (by simp[wk];exact(Sf (H:=Hm [(41,i5 41 i m (jc k f g))]) (d:=41) (n:=i) (c:=m) (f:=jc k f g) rfl).symm))) ?_;refine bH (k:=aF @results115)
theorem qT (n k m:Nat) (f g:FF) (h:1<=n) (r:n<=16) (b:1<=k) (q:k<=16) (c:1<=m) (e:m<=16) (o: ∀i j:Nat,i<n->j<k->Sz (f i j) 16777216) (p: ∀i j:Nat,i<k->j<m->Sz (g i j) 16777216):
  CallC prog 60 [dZ (mat n k f),dZ (mat k m g)] ⟨[],dZ (mat n m (jc k f g))⟩:=by
 have l:=Vn n k m f g h r b q c e o p;refine aB func60 rfl ntmps60 (aC (k:=bQ [⟨2,_,_,_,l⟩] (k:=bH (k:=aF @results60))))
theorem Qj {k:Nat} {f g:FF} {b c i:Nat} (m: ∀p,p<k->Sz (f i p) b) (l: ∀p,p<k->Sz (g p n) c):Sz (jc k f g i n) (b+c+k):=by
 refine zm (tB fun z e=>?_) (tB fun z e=>?_) k
 ·obtain⟨p,h,rfl⟩:=XR.1 e;grind
 obtain⟨p,h,rfl⟩:=XR.1 e;exact l p (Yv.1 h)
def Em (n:Nat) (h t:FF):Nat->Nat->Int:=jc n (jc n (wR t) h) t
theorem A5 (n:Nat) (h t:FF) (e:1<=n) (l:n<=16) (q: ∀i j:Nat,i<n->j<n->Sz (h i j) 500) (m: ∀i j:Nat,i<n->j<n->Sz (t i j) 500):
  CallC prog 59 [dZ (mat n n h),dZ (mat n n t)] ⟨[],dZ (mat n n (Em n h t))⟩:=by
 have r:=r8 n n t e l e l (fun i j f g=>(m i j f g).mono (by omega));have s:=qT n n n (wR t) h e l e l e l (fun i j f g=>(m j i g f).mono (by omega)) (fun i j f g=>(q i j f g).mono (by omega));have u:=qT n n n (jc n (wR t) h) t e l e l e l (fun i j f g=>(Qj (b:=500) (c:=500) (fun p o=>m p i o f) (fun p o=>q p j o g)).mono (by omega)) (fun i j f g=>(m i j f g).mono (by omega));refine aB func59 rfl ntmps59 (aC (k:=bQ [⟨1,_,_,_,r⟩] (k:=bQ [⟨2,_,_,_,s⟩,⟨4,_,_,_,u⟩] (k:=aF (aE @results59 @Em.eq_1)))))
end Go.Proofs.YtalmoejhjceflaaGreat
