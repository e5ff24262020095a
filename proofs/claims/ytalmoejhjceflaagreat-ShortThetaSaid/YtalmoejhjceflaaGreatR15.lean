/-
  Part 16 of a proof (walks and plain facts).
-/
import Derived.Test.YtalmoejhjceflaaGreatR14
set_option linter.all false
set_option maxRecDepth 100000
set_option maxHeartbeats 64000000
open Nat renaming reduceAdd → aa
open Nat renaming reduceEqDiff → ab
open List renaming replicate → ae
namespace Go.Proofs.YtalmoejhjceflaaGreat
open Go.RowKit Go.Proofs.Tryz
variable {n m:Nat} {x:Int} {b:FF}
theorem Bi (k b:Nat) (j:k<=16) (f:b<=16):CallC prog 151 [.raw (.int .i64 (k:Int)),.raw (.int .i64 (b:Int))] ⟨[],Cf (List.range k++[b])⟩:=by
 refine ay func151 rfl ntmps151 (aA (k:=bz (k:=ai (bz (k:=?_)))));refine aF (G:=jo k) (fun g=>⟨(.raw (.int .i64 (k:Int))::rN b::jk::jk::.raw (.slice none 0 0)::.one (.sl 15 0 0 g.i)::rN g.i::j4 (j4 (j4 (jk::[])))),Hm [(15,[⟨3,1,lc fN (List.range g.i)⟩])]⟩) (fun g=>k-g.i) ⟨0,by omega⟩ ?_ ?_
 ·refine(dB (k:=5) (d:=15) 3 1 (by omega) rfl rfl).trans (aj ⟨rfl,trivial⟩ ?_);simp[wk]
 rintro⟨i,h⟩;simp only;by_cases f:i<k
 ·refine ai (ar (k:=aC rfl (ak (ai (am (dZ (aH @acA @oc) (k:=bL (k:=?_))))))));refine⟨⟨i+1,by omega⟩,by grind,aj ⟨?_,trivial⟩ ?_⟩
  ·rw[abi];rfl
  simp[wk]
 have c:i=k:=by omega
 subst c;refine ai (ar (k:=aq rfl (aY (aK (aH @acA @oc) (k:=?_)))));refine aW ⟨.inr rfl,fF 15 (bG rfl) ?_ rfl⟩;have e:List.take (i+1) (List.range i++[b])=List.range i++[b]:=aar (by simp);simp(disch:=omega) only[kd,results151,e,Cf]
structure Zl (n:Nat) where
 i:Nat
 hi:i<=n
theorem ma (l:List Int) (v:Int):lc fZ l++[[.p (.raw (.bool (decide (v<0)))),.p (.sl (ls fU (au v.natAbs)))]]=lc fZ (l++[v]):=by simp[lc,fZ]
theorem OR (M:List (List Int)) (r:List Int):lc (fR fZ) M++[[.p (.sl (ls fZ r))]]=lc (fR fZ) (M++[r]):=by simp[lc,fR]
theorem AE {b c:Type} {l:List b} {i:Nat} {x:b} (g:b->c) (h:l[i]?=some x):(l.take i).map g++[g x]=(l.take (i+1)).map g:=by
 grind [List.take_add_one]
theorem vZ (n c:Nat) (f:FF) (b e:List Nat) (L:n<=16) (I:c<=16) (E: ∀x∈b,x<n) (F: ∀x∈e,x<c) (M:b.length<=17) (H:e.length<=17):
  CallC prog 150 [dF (mat n c f),Cf b,Cf e] ⟨[],dF (b.map fun i=>e.map (f i))⟩:=by
 have D:=aU n c f;refine ay func150 rfl ntmps150 (aA (k:=bz (k:=ai (bz (k:=?_)))));refine aF (G:=Zl b.length) (fun g=>⟨(dF (mat n c f)::Cf b::Cf e::jk::jk::jk::.raw (.slice none 0 0)::.one (.sl 39 0 0 g.i)::j4 (jk::Cf b::rN b.length::rN g.i::j16 (j4 (j4 (jk::jk::[]))))),Hm [(39,[⟨85,1,lc (fR fZ) ((b.take g.i).map fun i=>e.map (f i))⟩])]⟩) (fun g=>b.length-g.i) ⟨0,by omega⟩ ?_ ?_
 ·refine(dB (k:=7) (d:=39) 85 1 (by omega) rfl rfl).trans (aj ⟨rfl,trivial⟩ ?_);simp[wk]
 rintro⟨i,J⟩;simp only;by_cases C:i<b.length
 ·obtain⟨r,h⟩:=getElem?_of_lt C;have y:=E r (u5 h);have q:=bE c f y;refine ar (k:=bi rfl (ai (am (aK h (k:=bz (k:=ai (bz (k:=?_))))))));refine aF (G:=Zl e.length) (fun g=>⟨(dF (mat n c f)::Cf b::Cf e::jk::jk::jk::.raw (.slice none 0 0)::.one (.sl 39 0 0 i)::jk::rN r::.one (.sl 34 0 0 g.i)::jk::jk::Cf b::rN b.length::rN i::jk::jk::jk::Cf e::rN e.length::rN g.i::j16 (j4 ([]))),Hm [(39,[⟨85,1,lc (fR fZ) ((b.take i).map fun i=>e.map (f i))⟩]),(34,[⟨65,2,lc fZ ((e.take g.i).map (f r))⟩])]⟩) (fun g=>e.length-g.i) ⟨0,by omega⟩ ?_ ?_
  ·refine(dB (k:=10) (d:=34) 65 2 (by omega) rfl rfl).trans (aj ⟨rfl,rfl,trivial⟩ ?_);simp[wk]
  rintro⟨j,K⟩;simp only;by_cases w:j<e.length
  ·obtain⟨s,m⟩:=getElem?_of_lt w;have z:=F s (u5 m);have o:=aB (f r) z;have t:((e.take j).map (f r)).length=j:=by simp;omega
   refine ar (k:=bi rfl (ai (am (aK m (k:=dZ (aH q (aH o (aH t (aH @ma (AE (f r) m))))) (k:=bL (k:=?_)))))));refine⟨⟨j+1,by omega⟩,by grind,aj ⟨rfl,rfl,trivial⟩ ?_⟩;simp[wk]
  have v:j=e.length:=by omega
  subst v;refine ar (k:=bv rfl ?_);show bo _ _ _ _;refine bo.weak ((bH 34 (bG rfl)).trans (aj (tm:=(dF (mat n c f)::Cf b::Cf e::jk::jk::jk::.raw (.slice none 0 0)::.one (.sl 39 0 0 i)::jk::jk::.one (.p (.sl (ls fZ (e.map (f r)))))::jk::jk::Cf b::rN b.length::rN i::j16 (j4 (j4 (jk::jk::[]))))) (l:=[(39,[⟨85,1,lc (fR fZ) ((b.take i).map fun i=>e.map (f i))⟩])]) ⟨rfl,trivial⟩ (by simp[wk,fc,dN,Hm,gR,fT,aar]))) ?_;have t:((b.take i).map fun i=>e.map (f i)).length=i:=by simp;omega
  have A:=AE (fun i=>e.map (f i)) h;refine dZ (aH t (aH @OR A)) (k:=bL (k:=?_));refine⟨⟨i+1,by omega⟩,by grind,aj ⟨rfl,trivial⟩ ?_⟩;simp[wk]
 have u:i=b.length:=by omega
 subst u;refine ar (k:=bv rfl (bz (k:=?_)));refine aW ⟨.inr rfl,fF 39 (bG rfl) ?_ rfl⟩;have B:List.take b.length (List.map (fun i=>e.map (f i)) b)=b.map fun i=>e.map (f i):=aar (by simp)
 simp(disch:=omega) only[kd,results150,adR,B,dF]
abbrev uS:List AV:=[.raw (.slice none 0 0)]
theorem BB {b:Type} {A:List b} {x:b} {l:List b} {i:Nat} (h:A.length=i):(A++x::l)[i]?=some x:=by
 grind
theorem BC {b:Type} {A:List b} {x y:b} {l:List b} {i:Nat} (h:A.length=i):(A++x::l).set i y=A++y::l:=by
 simp_all
theorem P5 (k:Nat->Nat->Bool) (R:List (List Int)):(R.map oD).map (jC k)=R.map oD:=by
 grind [List.map_congr_left,jC,oD,vo]
theorem Qo (d i c:Nat):(kG d (ae i c)).map (List.map (aN fun x y=>x==d&&y==i+1))=kG d (ae i c):=by
 apply aay;grind [ch,aN,dj]
def U0 (d n c:Nat) (f:FF) (i:Nat):List OObj:=⟨85,1,kG d (ae i c)++ae (n-i) uS⟩::(mat i c f).map oD
def X6 (d n c:Nat) (f:FF) (i j:Nat):List OObj:=⟨85,1,kG d (ae i c)++[.sl d (i+1) 0 (j+1)]::ae (n-i-1) uS⟩::((mat i c f).map oD++[oD (aQ (j+1) (f i))])
def Zr (d n c:Nat) (f:FF) (i:Nat):Nat->List OObj
 |0=>U0 d n c f i
 |j+1=>X6 d n c f i j
theorem DV (i c:Nat) (f:FF):mat (i+1) c f=mat i c f++[aQ c (f i)]:=by simp[mat,abi]
theorem jd (j:Nat) (g:Nat->Int):aQ (j+1) g=aQ j g++[g j]:=by simp[aQ,abi]
theorem Wq {d i:Nat} (f:FF) (b:1<=m) (e:i<n):Zr d n m f i m=U0 d n m f (i+1):=by
 obtain⟨j,rfl⟩: ∃j,m=j+1:=⟨m-1,by omega⟩;show X6 d n (j+1) f i j=_;grind [X6,U0,DV,List.replicate_succ',rU]
theorem Wo (d n c:Nat) (f:FF):U0 d n c f n=iT d n c f:=by
 unfold U0;simp
theorem Sx {d i:Nat} (f:FF) (b:i<n):U0 d n m f i=⟨85,1,kG d (ae i m)++uS::ae (n-i-1) uS⟩::(mat i m f).map oD:=by
 unfold U0;rw[show n-i=n-i-1+1 by omega,acG];rfl
theorem MN (n c:Nat) (f:FF) (B:n<=17) (s:1<=c) (y:c<=17) (x: ∀i j,i<n->j<c->Bg (f i j)):
  CallC prog 55 [dF (mat n c f)] ⟨iT 0 n c f,.one (.sl 0 0 0 n)⟩:=by
 have m:=aU n c f;refine ay func55 rfl ntmps55 (aA (k:=aK m (k:=ai (fL m (k:=?_)))));refine aF (G:=jo n) (fun g=>⟨(dF (mat n c f)::jk::.raw (.slice none 0 0)::.one (.sl 9 0 0 n)::j4 (jk::jk::jk::rN n::rN g.i::j16 (j4 (j4 (jk::[]))))),Hm [(9,U0 9 n c f g.i)]⟩) (fun g=>n-g.i) ⟨0,by omega⟩ ?_ ?_
 ·refine aj ⟨?_,trivial⟩ ?_
  ·rfl
  simp[wk]
 rintro⟨i,z⟩;simp only;by_cases q:i<n
 ·have o:=bE c f q;have v:=aU i c f;have b:(kG 9 (ae i c)).length=i:=by simp_all[dj]
  have h:((mat i c f).map oD).length=i:=by grind
  refine ar (k:=bi rfl (ai (am (bz (k:=aK (aH o @aI) (k:=?_))))));refine aF (G:=jo c) (fun g=>⟨(dF (mat n c f)::jk::.raw (.slice none 0 0)::.one (.sl 9 0 0 n)::rN i::j4 (jk::jk::rN n::rN i::j4 (jk::.one (.p (.sl (ls fZ (aQ c (f i)))))::rN c::rN g.i::j16 (jk::[])))),Hm [(9,Zr 9 n c f i g.i)]⟩) (fun g=>c-g.i) ⟨0,by omega⟩ ?_ ?_
  ·refine aj ⟨rfl,trivial⟩ ?_;simp[wk]
  rintro⟨j,A⟩;simp only;by_cases l:j<c
  ·have e:=aB (f i) l;have w:=Pk (f i j) (x i j q l);cases j with
   |zero=>
    rw[Zr,Sx f q];refine ar (k:=bi rfl (ai (am (aK e (k:=gf [⟨7,_,_,_,w⟩] (aH (BB b) (aH (BC b) v)) (k:=bL (k:=?_)))))));refine⟨⟨1,by omega⟩,by grind,aj ⟨?_,trivial⟩ ?_⟩
    ·rfl
    simp[wk]
   |succ j=>
    have r:(0==i+1)=false:=by simp
    rw[Zr,X6];refine ar (k:=bi rfl (ai (am (aK e (k:=gf [⟨7,_,_,_,w⟩] (aH @oD.eq_1 (aH (BB b) (aH (BB h) (aH @aI (aH @aba (aH @Qo (aH @aes (aH @P5 (aH @ma (aH (BC h) (aH r (aH (BC b) (aH @aa6 h))))))))))))) (k:=bL (k:=?_)))))));refine⟨⟨j+1+1,by omega⟩,by grind,aj ⟨?_,trivial⟩ ?_⟩
    ·show _=X6 9 n c f i (j+1);rw[X6,oD,jd (j+1)];rfl
    simp[wk]
  have u:j=c:=by omega
  subst u;refine ar (k:=bv rfl ?_);show bo _ _ _ _;rw[Wq f s q];refine bL (k:=?_);refine⟨⟨i+1,by omega⟩,by grind,aj ⟨rfl,trivial⟩ ?_⟩;simp[wk]
 have t:i=n:=by omega
 subst t;refine ar (k:=bv rfl ?_);show bo _ _ _ _;rw[Wo];refine bz (k:=?_);refine aW ⟨.inr rfl,_,bD.refl _,?_⟩;refine⟨.one (.sl 9 0 0 i),9,?_,rfl,?_,rfl⟩
 ·simp(disch:=omega) only[kd,results55]
 grind [gz]
theorem oJ {P:Program} {c z:Code} {Q:Exit->AS->Prop} {s S:AS} (f:bo P c (iP (fun b=>bD b S) Q) s) (g:bo P z Q S):bo P c (iP (bo P z Q) Q) s:=f.mono fun e b h=>by
 cases e with
 |normal=>exact bo.weak h g
 |_=>exact h
theorem Sz.mul {a:Int} {k:Nat} (c:Sz a k) (e:Sz x n):Sz (a*x) (k+n):=by
 grind [Sz,Int.natAbs_mul,Nat.mul_lt_mul'']
theorem Sz.sub {a:Int} {k:Nat} (c:Sz a k) (e:Sz x k):Sz (a-x) (k+1):=by
 grind [Sz]
theorem Sz.add {a:Int} {k:Nat} (c:Sz a k) (e:Sz x k):Sz (a+x) (k+1):=by
 grind [Sz]
theorem Sz.ediv {a:Int} {k:Nat} (c:Sz a k) (b:Int):Sz (a/b) k:=c.le (Int.natAbs_ediv_le_natAbs a b)
theorem Pz {f:FF} {n k:Nat}: ∀m p,n-p=m->piv f n k p<n->p<=piv f n k p/\f (piv f n k p) k≠0
 |0,p,c,h=>by grind [vr]
 |m+1,p,c,h=>by
  by_cases b:f p k=0
  ·rw[BN (by omega) b]at h⊢;have:=Pz m (p+1) (by omega) h;omega
  grind [BM]
theorem GV {f:FF} {n k:Nat}: ∀m p,n-p=m->piv f n k p<=n
 |0,p,c=>by grind [vr]
 |m+1,p,c=>by
  by_cases b:f p k=0
  ·rw[BN (by omega) b];exact GV m (p+1) (by omega)
  grind [BM]
def gB (k:Nat) (last:Int) (g:FF) (i j:Nat):Nat->Nat->Int:=fun a b=>if k<a/\k<b/\(a<i\/(a=i/\b<j))then(g k k*g a b-g a k*g k b)/last else g a b
theorem Tf {k i:Nat} (last:Int) (g:FF) (e:k<i) (f:k<n) (a b:Nat):upd (gB k last g i n) i n ((g k k*g i n-g i k*g k n)/last) a b=gB k last g i (n+1) a b:=by
 unfold upd gB;by_cases c:a=i
 ·subst c;grind
 simp[c]
theorem WY {k:Nat} (last:Int) (g:FF) (i a b:Nat) (c:b<n):gB k last g i n a b=gB k last g (i+1) (k+1) a b:=by
 grind [gB]
theorem Tg (k:Nat) (last:Int) (g:FF):gB k last g (k+1) (k+1)=g:=by
 grind [gB]
theorem WX {k:Nat} (last:Int) (g:FF) (a b:Nat) (c:a<n):gB k last g n (k+1) a b=Vc k last g a b:=by
 grind [gB,Vc]
theorem rp {k i a:Nat} (last:Int) (g:FF) (h: ¬(k<a/\k<m/\(a<i\/(a=i/\m<n)))):gB k last g i n a m=g a m:=by
 grind [gB]
theorem Js {d k:Nat} (g:FF) (h:m<n) (f:k<n) (b:k≠m) (r:Nat):(iT d n n (swp m k g))[r]?=
  (((⟨85,1,((kG d (ae n n)).set m [.sl d (k+1) 0 n]).set k [.sl d (m+1) 0 n]⟩::(mat n n g).map oD:List OObj))[sw (m+1) (k+1) r]?).map (Zd d (m+1) (k+1)):=by
 cases r with
 |zero=>
  rw[show sw (m+1) (k+1) 0=0 by simp[sw]];simp only[acj,aaT,Zd,sH]
  congr 2
  apply aay;intro i;rw[u9,aa7,aa7,ad2,dj,aaX];grind [ch,fY,OA,sw,dj]
 |succ r=>
  have c:sw (m+1) (k+1) (r+1)=sw m k r+1:=by
   grind [sw]
  have e: ∀l:List Int,Zd d (m+1) (k+1) (oD l)=oD l:=fun l=>by
   simp only[Zd,sH,oD,lc,abn]
   congr 1
  grind [sw,bE,swp,aU]
structure DeG (n:Nat) (f:FF) where
 k:Nat
 g:Nat->Nat->Int
 last:Int
 neg:Bool
 b:Nat
 hk:k<=n
 hv:detG n k g last neg=detF n f
 hl:last≠0
 hb:b+1<=1025*2^k
 sg: ∀i j,i<n->j<n->Sz (g i j) b
 sl:Sz last b
structure PvG (n k:Nat) (g:FF) where
 p:Nat
 hkp:k<=p
 hp:p<=n
 hv:piv g n k p=piv g n k k
structure Z0 (n k:Nat) where
 i:Nat
 hk:k+1<=i
 hi:i<=n
abbrev vd (v:Int):List OObj:=ve (decide (v<0)) (au v.natAbs)
theorem Cb:sg 0=0:=rfl
theorem JM (h:x≠0):sg x≠0:=by grind [sg]
theorem o6 {k:Nat} (h:k<=16):2^k<=65536:=aaE (n:=2) (by omega) h
theorem gK (n:Nat) (f:FF) (O:1<=n) (hn:n<=16) (hf: ∀i j,i<n->j<n->Sz (f i j) 1024):
  CallC prog 34 [dF (mat n n f)] ⟨[],tZ (detF n f)⟩:=by
 have hC:=MN n n f (by omega) O (by omega) (fun i j s w=>(hf i j s w).mono (by omega));have hS:=fh 1 (by omega) (by omega);refine ay func34 rfl ntmps34 (aA (k:=bM [⟨1,_,_,_,hC⟩] (k:=bz (k:=bK [⟨0,_,_,_,hS⟩] (k:=ai (bz (k:=?_)))))));refine aF (G:=DeG n f) (fun g=>⟨(jk::jk::.one (.ptr 2 0 0 0)::.one (.sl 12 0 0 n)::rN n::.one (.ptr 5 0 0 0)::.raw (.bool g.neg)::rN g.k::j16 (j16 (j16 (j16 (j16 (j16 (j16 (j4 (jk::[]))))))))),Hm [(2,ud),(5,vd g.last),(12,iT 12 n n g.g)]⟩) (fun g=>n-g.k) ⟨0,f,1,false,1024,by omega,rfl,by omega,by omega,hf,oG (by omega)⟩ ?_ ?_
 ·refine aj ⟨rfl,rfl,?_,trivial⟩ ?_
  ·exact gz 0 12 n n f
  simp[wk]
 rintro⟨k,g,last,neg,b,hk,u,hl,hb,U,B⟩;simp only;by_cases l:k<n
 ·have J:=o6 (k:=k) (by omega);have ad:b<=67174400:=by omega
  have o:detG n k g last neg=if piv g n k k=n then 0 else detG n (k+1) (Vc k last (Ya n k g)) (Ya n k g k k) (neg !=decide (k<piv g n k k)):=by grind [detG]
  refine ai (ar (k:=aC rfl (ak (ai (am (bz (k:=?_)))))));refine ai (oJ (S:=⟨(jk::jk::.one (.ptr 2 0 0 0)::.one (.sl 12 0 0 n)::rN n::.one (.ptr 5 0 0 0)::.raw (.bool neg)::rN k::.raw (.int .i64 ((piv g n k k:Nat):Int))::j16 (j16 (j16 (j16 (j16 (j16 (j16 (j4 ([]))))))))),Hm [(2,ud),(5,vd last),(12,iT 12 n n g)]⟩) ?_ ?_)
  ·refine aF (G:=PvG n k g) (fun q=>⟨(jk::jk::.one (.ptr 2 0 0 0)::.one (.sl 12 0 0 n)::rN n::.one (.ptr 5 0 0 0)::.raw (.bool neg)::rN k::rN q.p::j16 (j16 (j16 (j16 (j16 (j16 (j16 (j4 ([]))))))))),Hm [(2,ud),(5,vd last),(12,iT 12 n n g)]⟩) (fun q=>n-q.p) ⟨k,by omega,by omega,rfl⟩ ?_ ?_
   ·refine aj ⟨rfl,rfl,rfl,trivial⟩ ?_;simp[wk]
   rintro⟨p,M,hp,ap⟩;simp only;by_cases m:p<n
   ·have C:=ch (n:=n) (i:=p) 12 n m;have D:=fG n g m;have I:=aB (g p) l;have r:=lL (g p k) ((U p k m l).mono (by omega));by_cases Z:g p k=0
    ·rw[Z]at r I;refine ai (cn [⟨11,_,_,_,r⟩] (aH @Cb (aH C (aH D I))) (k:=aC rfl (ak (am (bL (k:=?_))))));refine⟨⟨p+1,by omega,by omega,?_⟩,by simp only;omega,aj ⟨rfl,rfl,rfl,trivial⟩ ?_⟩
     ·grind [BN]
     simp[wk]
    have av:=JM Z;refine ai (cn [⟨11,_,_,_,r⟩] (aH C (aH D I)) (k:=aq rfl (aY ?_)));show bD _ _;have t:piv g n k k=p:=by grind [BM]
    refine aj ⟨rfl,rfl,rfl,trivial⟩ ?_;simp[wk,t]
   have t:piv g n k k=p:=by grind [vr]
   refine ai (ar (k:=aq rfl (aY ?_)));show bD _ _;refine aj ⟨rfl,rfl,rfl,trivial⟩ ?_;simp[wk,t]
  have an:=GV (f:=g) (n:=n) (k:=k) (n-k) k rfl;have A:=Pz (f:=g) (n:=n) (k:=k) (n-k) k rfl;generalize Q:piv g n k k=p at*
  by_cases m:p=n
  ·rw[if_pos m]at o;refine ai (ar (k:=aC rfl (ar (k:=?_))));refine bo.weak (gQ 2) ?_;refine aW ⟨.inr rfl,cd rfl ?_ rfl⟩;rw[<- u,o];simp(disch:=omega) only[kd,results34,zH,ab,zO,E6,Fe,aa,tZ];simp[ce,ls]
  rw[if_neg m]at o;obtain⟨M,ac⟩:=A (by omega);refine ai (ar (k:=aq rfl (ak (ai (bz (k:=?_))))));refine oJ (S:=⟨(jk::jk::.one (.ptr 2 0 0 0)::.one (.sl 12 0 0 n)::rN n::.one (.ptr 5 0 0 0)::.raw (.bool (neg !=decide (k<p)))::rN k::j16 (j16 (j16 (j16 (j16 (j16 (j16 (j4 (jk::[]))))))))),Hm [(2,ud),(5,vd last),(12,iT 12 n n (swp p k g))]⟩) ?_ ?_
  ·by_cases N:k<p
   ·have C:=ch (n:=n) (i:=p) 12 n (by omega);have D:=ch (n:=n) (i:=k) 12 n (by omega);refine aZ rfl (fun _=>?_) (fun h=>by simp at h<;>omega);have g4:((kG 12 (ae n n)).set p [.sl 12 (k+1) 0 n])[k]?=some [.sl 12 (k+1) 0 n]:=by
     grind
    refine gW (aH D (aH C g4)) (k:=ZJ (k:=?_));refine(It 12 (p+1) (k+1) (iT 12 n n (swp p k g)) (Js g (by omega) l (by omega))).trans (aj ⟨rfl,rfl,rfl,trivial⟩ ?_);simp[wk,XA,mW,Zc,fY,T9,OA,sw,N]
   have P:p=k:=by omega
   subst P;refine aZ rfl (fun h=>by simp at h<;>omega) (fun _=>ak ?_);show bD _ _;rw[EI];refine aj ⟨rfl,rfl,rfl,trivial⟩ ?_;simp[wk]
  rw[Ya,Q]at o;have K:swp p k g k k≠0:=by
   unfold swp;grind
  have e: ∀i j,i<n->j<n->Sz (swp p k g i j) b:=fun i j s w=>by
   unfold swp;grind
  generalize swp p k g=c at*
  generalize(neg !=decide (k<p))=neg' at*
  refine ai (ar (k:=?_));refine aF (G:=Z0 n k) (fun q=>⟨(jk::jk::.one (.ptr 2 0 0 0)::.one (.sl 12 0 0 n)::rN n::.one (.ptr 5 0 0 0)::.raw (.bool neg')::rN k::jk::rN q.i::j16 (j16 (j16 (j16 (j16 (j16 (j16 (jk::jk::jk::[])))))))),Hm [(2,ud),(5,vd last),(12,iT 12 n n (gB k last c q.i (k+1)))]⟩) (fun q=>n-q.i) ⟨k+1,by omega,by omega⟩ ?_ ?_
  ·rw[Tg];refine aj ⟨rfl,rfl,rfl,trivial⟩ ?_;simp[wk]
  rintro⟨i,ah,af⟩;simp only;by_cases s:i<n
  ·refine ai (ar (k:=aC rfl (ak (ai (am (ar (k:=?_)))))));refine aF (G:=Z0 n k) (fun q=>⟨(jk::jk::.one (.ptr 2 0 0 0)::.one (.sl 12 0 0 n)::rN n::.one (.ptr 5 0 0 0)::.raw (.bool neg')::rN k::jk::rN i::rN q.i::j16 (j16 (j16 (j16 (j16 (j16 (j16 (jk::jk::[])))))))),Hm [(2,ud),(5,vd last),(12,iT 12 n n (gB k last c i q.i))]⟩) (fun q=>n-q.i) ⟨k+1,by omega,by omega⟩ ?_ ?_
   ·refine aj ⟨rfl,rfl,rfl,trivial⟩ ?_;simp[wk]
   rintro⟨j,al,ag⟩;simp only;by_cases w:j<n
   ·have a1:=ch (n:=n) (i:=i) 12 n s;have E:=ch (n:=n) (i:=k) 12 n l;have a3:=fG n (gB k last c i j) s;have F:=fG n (gB k last c i j) l;have H:(aQ n (gB k last c i j k))[k]?=some (c k k):=by grind [aB,rp]
    have a6:(aQ n (gB k last c i j i))[j]?=some (c i j):=by grind [aB,rp]
    have a7:(aQ n (gB k last c i j i))[k]?=some (c i k):=by grind [aB,rp]
    have a8:(aQ n (gB k last c i j k))[j]?=some (c k j):=by grind [aB,rp]
    have V:=e k k l l;have W:=e i j s w;have X:=e i k s l;have Y:=e k j l w;have c1:=jp (c k k) (c i j) (V.mono (by omega)) (W.mono (by omega));have c2:=jp (c i k) (c k j) (X.mono (by omega)) (Y.mono (by omega));have c3:=CJ (c k k*c i j) (c i k*c k j) ((V.mul W).mono (by omega)) ((X.mul Y).mono (by omega));have c4:=ze (c k k*c i j-c i k*c k j) last hl (((V.mul W).sub (X.mul Y)).mono (by omega)) (B.mono (by omega));refine ai (ar (k:=aC rfl (ak (ai (am (gf [⟨19,_,_,_,c1⟩,⟨34,_,_,_,c2⟩,⟨35,_,_,_,c3⟩,⟨37,_,_,_,c4⟩] (aH a1 (aH E (aH F (aH H (aH a3 (aH a6 (aH a7 (aH a8 @k9)))))))) (k:=bL (k:=?_))))))));refine⟨⟨j+1,by omega,by omega⟩,by grind,aj ⟨rfl,rfl,?_,trivial⟩ ?_⟩
    ·show _::_=_::_;grind [ca,Tf]
    simp[wk]
   have z:j=n:=by omega
   subst z;refine ai (ar (k:=aq rfl (aY (bL (k:=?_)))));refine⟨⟨i+1,by omega,by omega⟩,by grind,aj ⟨rfl,rfl,?_,trivial⟩ ?_⟩
   ·grind [ca,WY]
   simp[wk]
  have v:i=n:=by omega
  subst v;have E:=ch (n:=i) (i:=k) 12 i l;have F:=fG i (gB k last c i (k+1)) l;have H:(aQ i (gB k last c i (k+1) k))[k]?=some (c k k):=by grind [aB,rp]
  refine ai (ar (k:=aq rfl (aY (dZ (aH E (aH F H)) (k:=bL (k:=?_))))));refine⟨⟨k+1,Vc k last c,c k k,neg',2*b+1,by omega,by omega,K,by omega,fun x y R T=>?_,(e k k l l).mono (by omega)⟩,by simp only;omega,aj ⟨rfl,rfl,?_,trivial⟩ ?_⟩
  ·unfold Vc;split
   ·exact((((e k k l l).mul (e x y R T)).sub ((e x k R l).mul (e k y l T))).ediv last).mono (by omega)
   exact(e x y R T).mono (by omega)
  ·show _::_=_::_;grind [ca,WX]
  simp[wk]
 have L:k=n:=by omega
 subst L;rw[detG,if_neg l]at u;have J:=o6 (k:=k) hn;have hN:=Jv last (B.mono (by omega));refine ai (ar (k:=aq rfl (aY (ai (bz (k:=?_))))));cases neg with
 |true=>
  rw[if_pos rfl]at u;refine aC rfl (bK [⟨1,_,_,_,hN⟩] (k:=?_));rw[<- u]
  (refine aW ⟨.inr rfl,cd rfl ?_ rfl⟩;simp(disch:=omega) only[kd,results34,ab,aa,tZ])
 |false=>
  rw[if_neg (by simp)]at u;refine aq rfl (ak (ar (k:=?_)));rw[<- u]
  (refine aW ⟨.inr rfl,cd rfl ?_ rfl⟩;simp(disch:=omega) only[kd,results34,ab,aa,tZ])
theorem lB {k:Nat} (h:x.natAbs<4294967296) (b:1<=k):Sz x k:=by
 grind [Sz]
theorem r8 (k:Nat):Sz 0 k:=by grind [Sz]
theorem XD {p k:Nat} (l:p<n) (f:k<n) (h: ∀i j,i<n->j<n->Sz (b i j) m): ∀i j,i<n->j<n->Sz (swp p k b i j) m:=fun i j c e=>by
 unfold swp;grind
theorem W0 {k:Nat} (last:Int) (c:k<n) (h: ∀i j,i<n->j<n->Sz (b i j) m): ∀i j,i<n->j<n->Sz (Vc k last b i j) (2*m+1):=fun x y e f=>by
 unfold Vc;split
 ·exact((((h k k c c).mul (h x y e f)).sub ((h x k e c).mul (h k y c f))).ediv last).mono (by omega)
 exact(h x y e f).mono (by omega)
theorem IV {n:Nat} (s:n<=16): ∀m k g last neg b,n-k=m->k<=n->(∀i j,i<n->j<n->Sz (g i j) b)->Sz last b->b+1<=1025*2^k->Sz (detG n k g last neg) 67174400
 |0,k,g,last,neg,b,r,q,e,c,o=>by
  have l:=o6 (k:=k) (by omega);rw[detG,if_neg (by omega)];split
  ·exact c.neg.mono (by omega)
  exact c.mono (by omega)
 |m+1,k,g,last,neg,b,r,q,e,c,o=>by
  rw[detG,if_pos (by omega)];split
  ·exact r8 _
  rename_i u;have t:=GV (f:=g) (n:=n) (k:=k) (n-k) k rfl;have h:=XD (p:=piv g n k k) (k:=k) (by omega) (by omega) e;exact IV s m (k+1) _ _ _ (2*b+1) (by omega) (by omega) (W0 last (by omega) h) ((h k k (by omega) (by omega)).mono (by omega)) (by omega)
theorem oO {n:Nat} {f:FF} (c:n<=16) (b: ∀i j,i<n->j<n->Sz (f i j) 1024):Sz (detF n f) 67174400:=
 IV c n 0 f 1 false 1024 rfl (by omega) b (oG (by omega)) (by omega)
theorem iI (f:FF) (h:1<=n):((mat n m f).headD []).length=m:=by
 have:=jA (M:=mat n m f) (by rw[aU];omega);grind [bE,aI]
theorem mQ (f:FF) (e:1<=n) (h:n<=16) (b:1<=m) (g:m<=16):Fm (mat n m f):=by
 refine⟨by rw[aU];omega,by rw[aU];omega,fun r j=>?_⟩;grind [List.mem_iff_getElem?,aU,bE,aI,iI]
theorem RT {M:List (List Int)} (h:Fm M):M=mat M.length (M.headD []).length (ent M):=Jl fun r b=>(h.2.2 r b).2.2
theorem JR (f:FF) (b:1<=n) (c:n<=16):Vm (mat n n f)= .tup [(false,[.p (.raw (.int .i64 (n:Int)))]),(false,[.p (.raw (.bool true))])]:=by
 grind [Zm,mQ,aU,iI,Vm]
theorem Xm (f:FF) (b:1<=n) (h:n≠m):Vm (mat n m f)= .tup [(false,[.p (.raw (.int .i64 0))]),(false,[.p (.raw (.bool false))])]:=by
 unfold Vm;rw[if_neg];intro e;have:=e.2;grind [aU,iI]
abbrev yR (n:Nat) (f:FF):List Int:=aQ n fun k=>detF (k+1) f
def WO (n:Nat) (f:FF):TV:= .tup [(false,[.p (.sl (ls fZ (yR n f)))]),(false,[.p (.raw (.bool true))])]
theorem P9 (k:Nat) (f:FF):((List.range (k+1)).map fun i=>(List.range (k+1)).map (f i))=mat (k+1) (k+1) f:=rfl
theorem lS (n:Nat) (f:FF) (l:1<=n) (h:n<=16) (s: ∀i j,i<n->j<n->Sz (f i j) 1024):CallC prog 98 [dF (mat n n f)] ⟨[],WO n f⟩:=by
 have b:=CH (mat n n f);rw[JR f l h]at b;refine ay func98 rfl ntmps98 (aA (k:=bM [⟨1,_,_,_,b⟩] (k:=ai (bz (k:=aq rfl (ak (bz (k:=ai (bz (k:=?_))))))))));refine aF (G:=jo n) (fun g=>⟨(dF (mat n n f)::jk::.raw (.slice none 0 0)::.raw (.bool false)::rN n::jk::.one (.sl 31 0 0 g.i)::rN g.i::j16 (j4 (j4 (jk::[])))),Hm [(31,[⟨65,2,lc fZ (yR g.i f)⟩])]⟩) (fun g=>n-g.i) ⟨0,by omega⟩ ?_ ?_
 ·refine(dB (k:=6) (d:=31) 65 2 (by omega) rfl rfl).trans (aj ⟨rfl,trivial⟩ ?_);simp[wk]
 rintro⟨k,w⟩;simp only;by_cases y:k<n
 ·have c:=Bi k k (by omega) (by omega);rw[<- abi]at c;have m:=vZ n n f (List.range (k+1)) (List.range (k+1)) h h (fun x t=>by grind) (fun x t=>by grind) (by simp;omega) (by simp;omega);rw[P9]at m;have o:=gK (k+1) f (by omega) (by omega) (fun i j u v=>s i j (by omega) (by omega));have q:lc fZ (yR k f)++[[.p (.raw (.bool (decide (detF (k+1) f<0)))),.p (.sl (ls fU (au (detF (k+1) f).natAbs)))]]=lc fZ (yR (k+1) f):=by
   grind [ma,jd]
  refine ai (ar (k:=aC rfl (ak (ai (am (wv [⟨4,_,_,_,c⟩,⟨7,_,_,_,c⟩,⟨8,_,_,_,m⟩,⟨9,_,_,_,o⟩] (aH @aI q) (k:=bL (k:=?_))))))));refine⟨⟨k+1,by omega⟩,by grind,aj ⟨rfl,trivial⟩ ?_⟩;simp[wk]
 have e:k=n:=by omega
 subst e;refine ai (ar (k:=aq rfl (aY (bz (k:=?_)))));refine aW ⟨.inr rfl,fF 31 (bG rfl) ?_ rfl⟩;have r:List.take k (yR k f)=yR k f:=aar (by rw[aI];omega);simp(disch:=omega) only[kd,results98,r,WO]
structure SyG (n:Nat) (f:FF) where
 i:Nat
 hi:i<=n
 ok: ∀a,a<i-> ∀b,b<a->f a b=f b a
structure SyI (n i:Nat) (f:FF) where
 j:Nat
 hj:j<=i
 ok: ∀b,b<j->f i b=f b i
theorem KL (a:Int):nX a a=0:=by simp[nX]
theorem NP {a:Int} (h:a≠x):nX a x≠0:=by grind [nX]
theorem nJ (n:Nat) (f:FF) (D:n<=16) (w: ∀i j,i<n->j<n->Sz (f i j) 1024) (r:Bool) (x:r=true↔SymF f n):CallC prog 103 [dF (mat n n f)] ⟨[],.raw (.bool r)⟩:=by
 have o:=aU n n f;refine ay func103 rfl ntmps103 (aA (k:=ai (fL o (k:=?_))));refine aF (G:=SyG n f) (fun g=>⟨(dF (mat n n f)::jk::.raw (.bool false)::jk::jk::jk::rN n::rN g.i::j16 (j4 (j4 ([])))),Hm []⟩) (fun g=>n-g.i) ⟨0,by omega,fun a m=>by omega⟩ ?_ ?_
 ·refine aj trivial ?_;simp[wk]
 rintro⟨i,B,ok⟩;simp only;by_cases c:i<n
 ·refine ar (k:=bi rfl (ai (am (bz (k:=bz (k:=?_))))));refine aF (G:=SyI n i f) (fun g=>⟨(dF (mat n n f)::jk::.raw (.bool false)::rN i::rN g.j::jk::rN n::rN i::j16 (j4 (j4 ([])))),Hm []⟩) (fun g=>i-g.j) ⟨0,by omega,fun a m=>by omega⟩ ?_ ?_
  ·refine aj trivial ?_;simp[wk]
  rintro⟨j,C,A⟩;simp only;by_cases y:j<i
  ·have s:=bE n f c;have t:=bE n f (show j<n by omega);have h:=aB (f i) (show j<n by omega);have u:=aB (f j) c;have l:=y8 (f i j) (f j i) ((w i j c (by omega)).mono (by omega)) ((w j i (by omega) c).mono (by omega));by_cases e:f i j=f j i
   ·rw[e,KL]at l;rw[e]at h;refine ai (ar (k:=aC rfl (ak (ai (am (gh [⟨14,_,_,_,l⟩] (aH s (aH h (aH t u))) (k:=aq rfl (ak (bL (k:=?_))))))))));refine⟨⟨j+1,by omega,fun b v=>?_⟩,by simp only;omega,aj trivial ?_⟩
    ·grind
    simp[wk]
   have p:r=false:=by
    cases r with
    |false=>rfl
    |true=>exact absurd (x.1 rfl i c j (by omega)) e
   subst p;have z:=NP e;refine ai (ar (k:=aC rfl (ak (ai (am (gh [⟨14,_,_,_,l⟩] (aH s (aH h (aH t u))) (k:=aC rfl (bz (k:=aG @results103)))))))))
  refine ai (ar (k:=aq rfl (aY (bL (k:=?_)))));refine⟨⟨i+1,by omega,fun a m b v=>?_⟩,by simp only;omega,aj trivial ?_⟩
  ·grind
  simp[wk]
 have q:r=true:=x.2 fun a m b v=>by
  grind
 subst q;refine ar (k:=bv rfl (bz (k:=aG @results103)))
structure DfG (n:Nat) (f:FF) where
 i:Nat
 hi:i<=n
 ok: ∀a,a<i->0<detF (a+1) f
theorem Qf (h:0<x):sg x=1:=by grind [sg]
theorem TU (h: ¬0<x):sg x<=0:=by grind [sg]
theorem vP (n:Nat) (f:FF) (l:1<=n) (t:n<=16) (h: ∀i j,i<n->j<n->Sz (f i j) 1024) (z:SymF f n) (r:Bool) (u:r=true↔CF f n):CallC prog 104 [dF (mat n n f)] ⟨[],.raw (.bool r)⟩:=by
 have w:=lS n f l t h;have x:=nJ n f t h true (by simp[z]);refine ay func104 rfl ntmps104 (aA (k:=fj [⟨1,_,_,_,w⟩] @WO.eq_1 (k:=ai (bK [⟨4,_,_,_,x⟩] (k:=aq rfl (ak (ai (fL @aI (k:=?_)))))))));refine aF (G:=DfG n f) (fun g=>⟨(jk::jk::.raw (.bool false)::j16 (.one (.p (.sl (ls fZ (yR n f))))::rN n::rN g.i::j4 (jk::jk::jk::[]))),Hm []⟩) (fun g=>n-g.i) ⟨0,by omega,fun a e=>by omega⟩ ?_ ?_
 ·refine aj trivial ?_;simp[wk]
 rintro⟨i,C,ok⟩;simp only;by_cases s:i<n
 ·have v:(yR n f)[i]?=some (detF (i+1) f):=aB _ s;have A:=oO (n:=i+1) (f:=f) (by omega) (fun a b e B=>h a b (by omega) (by omega));have c:=lL (detF (i+1) f) (A.mono (by omega));refine ar (k:=bi rfl (ai (am (aK v (k:=?_)))));by_cases m:0<detF (i+1) f
  ·rw[Qf m]at c;refine bK [⟨1,_,_,_,c⟩] (k:=aq rfl (ak (bL (k:=?_))));refine⟨⟨i+1,by omega,fun a e=>?_⟩,by simp only;omega,aj trivial ?_⟩
   ·grind
   simp[wk]
  have o:r=false:=by
   cases r with
   |false=>rfl
   |true=>exact absurd (u.1 rfl i s) m
  subst o;have y:=TU m;refine bK [⟨1,_,_,_,c⟩] (k:=aC rfl (bz (k:=aG @results104)))
 have q:r=true:=u.2 fun a e=>ok a (by omega)
 subst q;refine ar (k:=bv rfl (bz (k:=aG @results104)))
theorem A8 (a b:Int):decide (nX a b<=0)=decide (a<=b):=by
 grind [nX]
theorem Sn (a b:Int):decide (0<=nX a b)=decide (b<=a):=by
 grind [nX]
theorem Ez (n:Nat) (f:FF) (c:1<=n) (g:n<=16) (e: ∀i j,i<n->j<n->Sz (f i j) 1024):CallC prog 54 [dF (mat n n f)] ⟨[],.raw (.bool (decide (detF n f<=10000)))⟩:=by
 have l:=gK n f c g e;have m:=fh 10000 (by omega) (by omega);have h:=y8 (detF n f) 10000 ((oO g e).mono (by omega)) (lB (by decide) (by omega));have b:=A8 (detF n f) 10000;refine ay func54 rfl ntmps54 (aA (k:=cn [⟨1,_,_,_,l⟩,⟨2,_,_,_,m⟩,⟨3,_,_,_,h⟩] b (k:=aG @results54)))
theorem pB (n c:Nat) (f:FF) (g:1<=n) (l:n<=16) (s:1<=c) (u:c<=16) (o: ∀i j,i<n->j<c->Sz (f i j) 1024):
  ∃e:Int,(e=0↔(n=c/\n<=8/\SymF f n/\CF f n))/\CallC prog 50 [dF (mat n c f)] ⟨[],.raw (.int .i64 e)⟩:=by
 have b:=CH (mat n c f);by_cases p:n=c
 ·subst p;rw[JR f g l]at b;by_cases t:8<n
  ·refine⟨3,by omega,?_⟩;refine ay func50 rfl ntmps50 (aA (k:=bM [⟨1,_,_,_,b⟩] (k:=ai (am (ar (k:=aC rfl (bz (k:=aG @results50))))))))
  by_cases h:SymF f n
  ·have m:=nJ n f l o true (by simp[h]);by_cases q:CF f n
   ·have r:=vP n f g l o h true (by simp[q]);refine⟨0,by grind,?_⟩;refine ay func50 rfl ntmps50 (aA (k:=bM [⟨1,_,_,_,b⟩] (k:=ai (am (ar (k:=aq rfl (bM [⟨1,_,_,_,m⟩] (k:=aq rfl (bM [⟨1,_,_,_,r⟩] (k:=aq rfl (ak (bz (k:=aG @results50)))))))))))))
   have r:=vP n f g l o h false (by simp[q]);refine⟨5,by simp[q],?_⟩;refine ay func50 rfl ntmps50 (aA (k:=bM [⟨1,_,_,_,b⟩] (k:=ai (am (ar (k:=aq rfl (bM [⟨1,_,_,_,m⟩] (k:=aq rfl (bM [⟨1,_,_,_,r⟩] (k:=aC rfl (bz (k:=aG @results50))))))))))))
  have m:=nJ n f l o false (by simp[h]);refine⟨4,by simp[h],?_⟩;refine ay func50 rfl ntmps50 (aA (k:=bM [⟨1,_,_,_,b⟩] (k:=ai (am (ar (k:=aq rfl (bM [⟨1,_,_,_,m⟩] (k:=aC rfl (bz (k:=aG @results50))))))))))
 rw[Xm f g p]at b;refine⟨3,by simp[p],?_⟩;refine ay func50 rfl ntmps50 (aA (k:=bM [⟨1,_,_,_,b⟩] (k:=ai (am (ar (k:=aC rfl (bz (k:=aG @results50))))))))
theorem TS (i j:Nat) (f:FF):((List.range j++[i]).map fun r=>(List.range (j+1)).map (f r))=mat (j+1) (j+1) (qX f i j):=by
 rw[mat,abi,aba,aba]
 congr 1
 ·refine aaA fun r b=>?_
  have:=aaK.1 b;rw[<- abi];exact eB (m:=j+1) fun c _=>by grind [qX]
 simp only[aaC,aaR];rw[<- abi]
 congr 1
 exact eB (m:=j+1) fun c _=>by grind [qX]
theorem Je {i:Nat} (h:i<n) (l:m<n) (g: ∀i m,i<n->m<n->Sz (b i m) 1024): ∀r c,r<m+1->c<m+1->Sz (qX b i m r c) 1024:=fun r c o e=>by
 grind [qX]
theorem GD {n i j:Nat} (h:n<=16) (e:i<n) (g:j<n) (c: ∀i j,i<n->j<n->Sz (b i j) 1024):Sz (lam b i j) 67174400:=
 oO (by omega) (Je e g c)
theorem Di {n k:Nat} (g:n<=16) (e:k<=n) (c: ∀i j,i<n->j<n->Sz (b i j) 1024):Sz (dd b k) 67174400:=by
 grind [dd,oG,oO]
theorem vT (n:Nat) (f:FF) (i j:Nat) (e:n<=16) (m:i<n) (o:j<n) (l: ∀i j,i<n->j<n->Sz (f i j) 1024):
  CallC prog 110 [dF (mat n n f),.raw (.int .i64 (i:Int)),.raw (.int .i64 (j:Int))] ⟨[],tZ (lam f i j)⟩:=by
 have c:=vZ n n f (List.range j++[i]) (List.range (j+1)) e e (fun x p=>by
  grind) (fun x p=>by grind) (by simp;omega) (by simp;omega)
 rw[TS]at c;have h:=gK (j+1) (qX f i j) (by omega) (by omega) (Je m o l);refine ay func110 rfl ntmps110 (aA (k:=bz (k:=ai (bz (k:=?_)))));refine aF (G:=jo j) (fun g=>⟨(dF (mat n n f)::rN i::rN j::jk::jk::jk::.one (.ptr 6 0 0 0)::.one (.sl 18 0 0 g.i)::.one (.sl 22 0 0 g.i)::rN g.i::j16 (j4 (j4 ([])))),Hm [(6,ud),(18,[⟨3,1,lc fN (List.range g.i)⟩]),(22,[⟨3,1,lc fN (List.range g.i)⟩])]⟩) (fun g=>j-g.i) ⟨0,by omega⟩ ?_ ?_
 ·refine(dB (k:=7) (d:=18) 3 1 (by omega) rfl rfl).trans ((dB (k:=8) (d:=22) 3 1 (by omega) rfl rfl).trans (aj ⟨rfl,rfl,rfl,trivial⟩ ?_));simp[wk]
 rintro⟨k,q⟩;simp only;by_cases r:k<j
 ·refine ai (ar (k:=aC rfl (ak (ai (am (aK (aH @acA @oc) (k:=dZ (aH @acA @oc) (k:=bL (k:=?_)))))))));refine⟨⟨k+1,by omega⟩,by grind,aj ⟨rfl,?_,?_,trivial⟩ ?_⟩
  ·rw[abi];rfl
  ·rw[abi];rfl
  simp[wk]
 have b:k=j:=by omega
 subst b;refine ai (ar (k:=aq rfl (aY ?_)));show bo _ _ _ _;refine ii 9 [⟨9,_,_,_,c⟩,⟨10,_,_,_,h⟩] [] (by simp[wk]) (by decide) fun _ K=>?_;simp(disch:=omega) only[kd,dF,Cf,tZ,aa,Nat.reduceMul,Nat.reduceLeDiff,ab,acA,oc,Nat.reduceBEq];apply K
 refine⟨⟨(j4 (jk::jk::.one (.ptr 6 0 0 0)::j16 (dF (mat n n f)::jk::jk::jk::Cf (List.range k++[i])::jk::jk::jk::Cf (List.range (k+1))::jk::jk::[]))),Hm [(6,ud)]⟩,(bH 18 (bG rfl)).trans ((bH 22 (bG rfl)).trans (aj ⟨rfl,trivial⟩ ?_)),by simp[wk],?_⟩
 ·simp[wk,fc,dN,aw,Hm,gR,fT,abi,aar]
 intro _ K;simp(disch:=omega) only[kd,dF,Cf,tZ,aa,Nat.reduceBEq];apply K;rw[<- lam]
 (refine aW ⟨.inr rfl,cd rfl ?_ rfl⟩;simp(disch:=omega) only[kd,results110,aa,tZ])
theorem rj (n:Nat) (f:FF) (k:Nat) (j:n<=16) (h:k<=n):
  CallC prog 111 [y6 (yR n f),.raw (.int .i64 (k:Int))] ⟨[],tZ (dd f k)⟩:=by
 have e:=fh 1 (by omega) (by omega);by_cases b:k=0
 ·subst b;rw[show dd f 0=1 from rfl];refine ay func111 rfl ntmps111 (aA (k:=ai (ar (k:=aC rfl (bK [⟨0,_,_,_,e⟩] (k:=aG @results111))))))
 rw[show dd f k=detF k f from if_neg b];have g:((k:Int)-1).toNat=k-1:=by omega
 have c:(yR n f)[k-1]?=some (detF k f):=by grind [aB]
 refine ay func111 rfl ntmps111 (aA (k:=ai (ar (k:=aq rfl (ak (aK (aH g c) (k:=aG @results111)))))))
theorem Ir (n:Nat) (f:FF) (i j:Nat) (c:n<=16) (m:i<n) (o:j<n) (e: ∀i j,i<n->j<n->Sz (f i j) 1024):
  CallC prog 107 [dF (mat n n f),y6 (yR n f),.raw (.int .i64 (i:Int)),.raw (.int .i64 (j:Int))] ⟨[],.raw (.bool (decide (2*((lam f i j).natAbs:Int)<=dd f (j+1))))⟩:=by
 have p:=GD c m o e;have v:=Di (k:=j+1) c (by omega) e;have b:Sz ((lam f i j).natAbs:Int) 67174400:=p.le (by omega);have w:Sz (2*((lam f i j).natAbs:Int)) (1+67174400):=Sz.mul (lB (by decide) (by omega)) b;have q:=fh 2 (by omega) (by omega);have r:=vT n f i j c m o e;have s:=Nn (lam f i j) (p.mono (by omega));have t:=jp 2 ((lam f i j).natAbs:Int) (lB (by decide) (by omega)) (b.mono (by omega));have h:=rj n f (j+1) c (by omega);rw[show((j+1:Nat):Int)=(j:Int)+1 by omega]at h;have u:=y8 (2*((lam f i j).natAbs:Int)) (dd f (j+1)) (w.mono (by omega)) (v.mono (by omega));have g:=A8 (2*((lam f i j).natAbs:Int)) (dd f (j+1));generalize lam f i j=l at*
 generalize dd f (j+1)=d at*
 refine ay func107 rfl ntmps107 (aA (k:=cn [⟨0,_,_,_,q⟩,⟨4,_,_,_,r⟩,⟨5,_,_,_,s⟩,⟨6,_,_,_,t⟩,⟨10,_,_,_,h⟩,⟨11,_,_,_,u⟩] g (k:=aG @results107)))
theorem CE (n:Nat) (f:FF) (i:Nat) (c:n<=16) (r:i<n) (H:0<i) (e: ∀i j,i<n->j<n->Sz (f i j) 1024):
  CallC prog 112 [dF (mat n n f),y6 (yR n f),.raw (.int .i64 (i:Int))] ⟨[],.raw (.bool (decide (3*(dd f i*dd f i)<=4*(dd f (i-1)*dd f (i+1)+lam f i (i-1)*lam f i (i-1)))))⟩:=by
 have g:=GD (j:=i-1) c r (by omega) e;have d0:=Di (k:=i-1) c (by omega) e;have d1:=Di (k:=i) c (by omega) e;have d2:=Di (k:=i+1) c (by omega) e;have m:=vT n f i (i-1) c r (by omega) e;have o:=rj n f (i-1) c (by omega);have p:=rj n f (i+1) c (by omega);have q:=rj n f i c (by omega);rw[show((i+1:Nat):Int)=(i:Int)+1 by omega]at p;rw[show((i-1:Nat):Int)=(i:Int)-1 by omega]at m o;have E:=fh 4 (by omega) (by omega);have D:=fh 3 (by omega) (by omega);generalize lam f i (i-1)=l at*
 generalize dd f (i-1)=a at*
 generalize dd f (i+1)=b at*
 generalize dd f i=d at*
 have s:Sz (a*b) 134348800:=(d0.mul d2).mono (by omega);have t:Sz (l*l) 134348800:=(g.mul g).mono (by omega);have u:Sz (a*b+l*l) 134348801:=s.add t;have F:Sz (4*(a*b+l*l)) 134348802:=(Sz.mul (lB (k:=1) (by decide) (by omega)) u).mono (by omega);have v:Sz (d*d) 134348800:=(d1.mul d1).mono (by omega);have G:Sz (3*(d*d)) 134348802:=(Sz.mul (lB (k:=1) (by decide) (by omega)) v).mono (by omega);have w:=jp a b (d0.mono (by omega)) (d2.mono (by omega));have x:=jp l l (g.mono (by omega)) (g.mono (by omega));have y:=tS (a*b) (l*l) (s.mono (by omega)) (t.mono (by omega));have z:=jp 4 (a*b+l*l) (lB (by decide) (by omega)) (u.mono (by omega));have A:=jp d d (d1.mono (by omega)) (d1.mono (by omega));have B:=jp 3 (d*d) (lB (by decide) (by omega)) (v.mono (by omega));have C:=y8 (4*(a*b+l*l)) (3*(d*d)) (F.mono (by omega)) (G.mono (by omega));have h:=Sn (4*(a*b+l*l)) (3*(d*d));refine ay func112 rfl ntmps112 (aA (k:=bK [⟨4,_,_,_,m⟩] (k:=cQ [⟨0,_,_,_,E⟩,⟨4,_,_,_,o⟩,⟨8,_,_,_,p⟩,⟨9,_,_,_,w⟩,⟨12,_,_,_,x⟩,⟨13,_,_,_,y⟩,⟨14,_,_,_,z⟩] (k:=gh [⟨1,_,_,_,D⟩,⟨4,_,_,_,q⟩,⟨7,_,_,_,q⟩,⟨8,_,_,_,A⟩,⟨9,_,_,_,B⟩,⟨10,_,_,_,C⟩] h (k:=aG @results112)))))
structure RdG (n:Nat) (f:FF) where
 i:Nat
 hi:i<=n
 ok: ∀a,a<i->(∀b,b<a->SizF f a b)/\(0<a->LovF f a)
structure RdJ (n i:Nat) (f:FF) where
 j:Nat
 hj:j<=i
 ok: ∀b,b<j->SizF f i b
theorem LK (n:Nat) (f:FF) (v:1<=n) (u:n<=16) (o: ∀i j,i<n->j<n->Sz (f i j) 1024) (r:Bool) (w:r=true↔VH f n):
  CallC prog 91 [dF (mat n n f)] ⟨[],.raw (.bool r)⟩:=by
 have z:=lS n f v u o;have t:=aU n n f;refine ay func91 rfl ntmps91 (aA (k:=fj [⟨1,_,_,_,z⟩] @WO.eq_1 (k:=ai (fL t (k:=?_)))));refine aF (G:=RdG n f) (fun g=>⟨(dF (mat n n f)::jk::.raw (.bool false)::y6 (yR n f)::j4 (j4 (jk::rN n::rN g.i::j16 (j4 (jk::jk::jk::[]))))),Hm []⟩) (fun g=>n-g.i) ⟨0,by omega,fun a l=>by omega⟩ ?_ ?_
 ·refine aj trivial ?_;simp[wk]
 rintro⟨i,C,ok⟩;simp only;by_cases m:i<n
 ·refine ar (k:=bi rfl (ai (am (bz (k:=ai (bz (k:=?_)))))));refine aF (G:=RdJ n i f) (fun g=>⟨(dF (mat n n f)::jk::.raw (.bool false)::y6 (yR n f)::jk::rN i::rN g.j::j4 (jk::jk::rN n::rN i::j16 (j4 (jk::jk::jk::[])))),Hm []⟩) (fun g=>i-g.j) ⟨0,by omega,fun a l=>by omega⟩ ?_ ?_
  ·refine aj trivial ?_;simp[wk]
  rintro⟨j,D,A⟩;simp only;by_cases s:j<i
  ·have c:=Ir n f i j u m (by omega) o;by_cases h:SizF f i j
   ·rw[decide_eq_true (show 2*((lam f i j).natAbs:Int)<=dd f (j+1)from h)]at c;refine ai (ar (k:=aC rfl (ak (ai (am (bM [⟨4,_,_,_,c⟩] (k:=aq rfl (ak (bL (k:=?_))))))))));refine⟨⟨j+1,by omega,fun b B=>?_⟩,by simp only;omega,aj trivial ?_⟩
    ·grind
    simp[wk]
   have e:r=false:=by
    cases r with
    |false=>rfl
    |true=>exact absurd ((w.1 rfl i m).1 j s) h
   subst e;rw[decide_eq_false (show ¬2*((lam f i j).natAbs:Int)<=dd f (j+1)from h)]at c;refine ai (ar (k:=aC rfl (ak (ai (am (bM [⟨4,_,_,_,c⟩] (k:=aC rfl (bz (k:=aG @results91)))))))))
  have q:j=i:=by omega
  subst q;refine ai (ar (k:=aq rfl (aY ?_)));show bo _ _ _ _;by_cases y:0<j
  ·have c:=CE n f j u m y o;by_cases h:LovF f j
   ·rw[decide_eq_true (show 3*(dd f j*dd f j)<=4*(dd f (j-1)*dd f (j+1)+lam f j (j-1)*lam f j (j-1))from h)]at c;refine bK [⟨6,_,_,_,c⟩] (k:=aq rfl (ak (bL (k:=?_))));refine⟨⟨j+1,by omega,fun a l=>?_⟩,by simp only;omega,aj trivial ?_⟩
    ·grind
    simp[wk]
   have e:r=false:=by
    cases r with
    |false=>rfl
    |true=>exact absurd ((w.1 rfl j m).2 y) h
   subst e;rw[decide_eq_false (show ¬3*(dd f j*dd f j)<=4*(dd f (j-1)*dd f (j+1)+lam f j (j-1)*lam f j (j-1))from h)]at c;refine bK [⟨6,_,_,_,c⟩] (k:=aC rfl (bz (k:=aG @results91)))
  have p:j=0:=by omega
  subst p;refine ar (k:=aq rfl (ak (bL (k:=?_))));refine⟨⟨1,by omega,fun a l=>?_⟩,by simp only;omega,aj trivial ?_⟩
  ·grind
  simp[wk]
 have x:r=true:=w.2 fun a l=>ok a (by omega)
 subst x;refine ar (k:=bv rfl (bz (k:=aG @results91)))
def I64 (z:Int):Prop:= -9223372036854775808<=z/\z<=9223372036854775807
theorem I64.sz (h:I64 x) {k:Nat} (b:2<=k):Sz x k:=by
 have:Sz x 2:=by
  unfold Sz;have:=h.1;have:=h.2;omega
 exact this.mono b
def MI (M:List (List Int)):Prop:= ∀r∈M,∀z∈r,I64 z
theorem MI.ent {M:List (List Int)} (h:MI M) (i j:Nat):I64 (ent M i j):=by
 simp only[Go.Proofs.YtalmoejhjceflaaGreat.ent,aav];cases b:M[i]? with
 |none=>simp[I64]
 |some r=>
  simp only[abh];cases c:r[j]? with
  |none=>simp[I64]
  |some z=>exact h r (u5 b) z (u5 c)
theorem Xp (e:1<=n):Sq (mat n m b)↔n=m:=by
 grind [Sq,mat,aI]
theorem Fk {g:FF} (h: ∀i j,i<n->j<n->b i j=g i j) (q:RedR b n):RedR g n:=by
 obtain⟨y,z,A,o⟩:=q;have x: ∀k,k<=n->dk g k=dk b k:=fun k u=>wV fun i j e s=>(h i j (by omega) (by omega)).symm
 have w: ∀t i,t<n->i<n->bk g t i t=bk b t i t:=fun t i m e=>by
  have v:dk (qX g i t) (t+1)=bk g t i t:=F7 (fun r c B p=>by grind [qX]) (fun c p=>by grind [qX]);grind [qX,F7]
 refine⟨fun i e j s=>by grind,fun k u=>by grind,by grind,fun t m=>⟨fun i e l=>?_,?_⟩⟩
 ·have:=(o t m).1 i e l;grind
 grind [Rv]
theorem vY (e:1<=n):VG (mat n m b)↔n=m/\n<=8/\RedR b n:=by
 grind [VG,aU,Xp,Fk,SI]
theorem CD (M:List (List Int)) (E:MI M):CallC prog 41 [dn M] ⟨[],.raw (.bool (isReducedM M))⟩:=by
 have B:=fS M;generalize isReducedM M=r at*
 by_cases h:Fm M
 ·obtain⟨n,c,f,rfl,b,q,m,y,p⟩: ∃n c f,M=mat n c f/\1<=n/\n<=16/\1<=c/\c<=16/\ ∀i j:Nat,I64 (f i j):=by
   have D:=jA (M:=M) h.1;have z:=h.2.2 _ (u5 D);exact⟨M.length,(M.headD []).length,ent M,RT h,h.1,h.2.1,z.1,z.2.1,fun i j=>E.ent i j⟩
  rw[vY b]at B;have l:=vQ n c f b q m y (fun i j _ _=>p i j);obtain⟨e,G,s⟩:=pB n c f b q m y (fun i j _ _=>(p i j).sz (by omega));by_cases v:e=0
  ·obtain⟨rfl,J,L,K⟩:=G.1 v;subst v;have o:=Ez n f b q (fun i j _ _=>(p i j).sz (by omega));by_cases w:detF n f<=10000
   ·rw[decide_eq_true w]at o;have F:=LK n f b q (fun i j _ _=>(p i j).sz (by omega)) r (by
     grind [vt])
    refine ay func41 rfl ntmps41 (aA (k:=fj [⟨1,_,_,_,l⟩] @Ry.eq_1 (k:=bK [⟨3,_,_,_,s⟩,⟨8,_,_,_,o⟩,⟨12,_,_,_,F⟩] (k:=aG @results41))))
   have g:r=false:=by
    grind [vt]
   subst g;rw[decide_eq_false w]at o;refine ay func41 rfl ntmps41 (aA (k:=fj [⟨1,_,_,_,l⟩] @Ry.eq_1 (k:=bK [⟨3,_,_,_,s⟩,⟨8,_,_,_,o⟩] (k:=aG @results41))))
  have g:r=false:=by
   grind [vt]
  subst g;refine ay func41 rfl ntmps41 (aA (k:=fj [⟨1,_,_,_,l⟩] @Ry.eq_1 (k:=bK [⟨3,_,_,_,s⟩] (k:=aG @results41))))
 have l:=CB M h;have g:r=false:=by
  cases r with
  |false=>rfl
  |true=>
   obtain⟨u,I,C,_⟩:=B.1 rfl;refine absurd ⟨u,by omega,fun x H=>?_⟩ h;obtain⟨i,t⟩:=abl.1 H;have A: ∀(i:Nat) x,M[i]?=some x->x.length=M.length:=fun i x t=>by
    have:=C i (aaf.1 t).1;grind
   rw[rOk,A i x t,A 0 _ (jA u)];omega
 subst g;refine ay func41 rfl ntmps41 (aA (k:=fj [⟨1,_,_,_,l⟩] @WD.eq_1 (k:=ar (k:=aG @results41))))
theorem Cw (x:List Int) (p:x.length<=16) (m: ∀z∈x,I64 z):CallC prog 152 [kE x] ⟨[],y6 x⟩:=by
 refine ay func152 rfl ntmps152 (aA (k:=bz (k:=ai (bz (k:=?_)))));refine aF (G:=Zl x.length) (fun g=>⟨(jk::jk::.raw (.slice none 0 0)::.one (.sl 16 0 0 g.i)::jk::jk::kE x::rN x.length::rN g.i::j4 (j4 (jk::jk::[]))),Hm [(16,[⟨65,2,lc fZ (x.take g.i)⟩])]⟩) (fun g=>x.length-g.i) ⟨0,by omega⟩ ?_ ?_
 ·refine(dB (k:=3) (d:=16) 65 2 (by omega) rfl rfl).trans (aj ⟨rfl,trivial⟩ ?_);simp[wk]
 rintro⟨i,o⟩;simp only;by_cases n:i<x.length
 ·obtain⟨c,f⟩:=getElem?_of_lt n;have b:=m c (u5 f);have h:=fh c b.1 b.2;have j:(x.take i).length=i:=by simp;omega
  have l:x.take i++[c]=x.take (i+1):=by grind [List.take_add_one]
  refine ar (k:=bi rfl (ai (am (aK f (k:=wv [⟨2,_,_,_,h⟩] (aH j (aH @ma l)) (k:=bL (k:=?_)))))));refine⟨⟨i+1,by omega⟩,by grind,aj ⟨rfl,trivial⟩ ?_⟩;simp[wk]
 have e:i=x.length:=by omega
 subst e;refine ar (k:=bv rfl (bz (k:=?_)));refine aW ⟨.inr rfl,fF 16 (bG rfl) ?_ rfl⟩;simp(disch:=omega) only[kd,results152,adR,y6]
theorem my {x y:List Int} {b c:Nat} (e: ∀i,Sz (x.getD i 0) b) (f: ∀i,Sz (y.getD i 0) c): ∀l,Sz (dC x y l) (b+c+l)
 |0=>r8 _
 |l+1=>by
  show Sz (dC x y l+x.getD l 0*y.getD l 0) _;exact(my e f l).add (((e l).mul (f l)).mono (by omega))
theorem gp {x:List Int} (h: ∀z∈x,Sz z n) (i:Nat):Sz (x.getD i 0) n:=by
 grind [r8]
theorem Im (x y:List Int) (v:x.length<=16) (t:x.length<=y.length) (j: ∀z∈x,Sz z 16777216) (m: ∀z∈y,Sz z 67108864):CallC prog 153 [y6 x,y6 y] ⟨[],tZ (dC x y x.length)⟩:=by
 refine ay func153 rfl ntmps153 (aA (k:=ar (k:=ai (bz (k:=?_)))));refine aF (G:=Zl x.length) (fun g=>⟨(y6 x::y6 y::jk::jk::.one (.ptr 4 0 0 0)::.one (.ptr 5 0 0 0)::jk::jk::jk::rN x.length::rN g.i::j4 (j4 (j4 (jk::jk::jk::[])))),Hm [(4,ud),(5,vd (dC x y g.i))]⟩) (fun g=>x.length-g.i) ⟨0,by omega⟩ ?_ ?_
 ·refine(gQ 5).trans (aj ⟨rfl,?_,trivial⟩ ?_)
  ·show _=vd 0;simp[zH,aw,zO,E6,Fe,vd,ve,ce,ls]
  simp[wk]
 rintro⟨i,u⟩;simp only;have s:=my (gp j) (gp m) i;by_cases r:i<x.length
 ·obtain⟨a,f⟩:=getElem?_of_lt r;obtain⟨b,h⟩:=getElem?_of_lt (l:=y) (k:=i) (by omega);have n:=j a (u5 f);have o:=m b (u5 h);have p:=jp a b (n.mono (by omega)) (o.mono (by omega));have e:=tS (dC x y i) (a*b) (s.mono (by omega)) ((n.mul o).mono (by omega));have q:dC x y i+a*b=dC x y (i+1):=by
   grind [dC]
  rw[q]at e;refine ar (k:=bi rfl (ai (am (bz (k:=gf [⟨9,_,_,_,p⟩,⟨10,_,_,_,e⟩] (aH f h) (k:=bL (k:=?_)))))));refine⟨⟨i+1,by omega⟩,by grind,aj ⟨rfl,rfl,trivial⟩ ?_⟩;simp[wk]
 have c:i=x.length:=by omega
 subst c;refine ar (k:=bv rfl (ar (k:=aG @results153)))
abbrev ID (n c:Nat) (f:FF) (y:List Int):List Int:=aQ n fun i=>dC (aQ c (f i)) y c
theorem RD (n c:Nat) (f:FF) (y:List Int) (b:1<=n) (x:n<=16) (h:1<=c) (u:c<=16) (C:y.length=c) (v: ∀i j:Nat,Sz (f i j) 1024) (A: ∀z∈y,Sz z 65536):
  CallC prog 205 [dF (mat n c f),y6 y] ⟨[],.tup [(false,[.p (.sl (ls fZ (ID n c f y)))]),(false,[.p (.raw (.bool true))])]⟩:=by
 have r:=qv (mat n c f);rw[iN (mQ f b x h u),aU,iI f b]at r;have m:=aU n c f;refine ay func205 rfl ntmps205 (aA (k:=bM [⟨1,_,_,_,r⟩] (k:=ai (ar (k:=aq rfl (ak (bz (k:=ai (fL m (k:=?_))))))))));refine aF (G:=jo n) (fun g=>⟨(jk::y6 y::jk::jk::.raw (.slice none 0 0)::.raw (.bool false)::jk::jk::jk::.one (.sl 37 0 0 g.i)::j16 (dF (mat n c f)::rN n::rN g.i::j4 (j4 (jk::jk::jk::[])))),Hm [(37,[⟨65,2,lc fZ (ID g.i c f y)⟩])]⟩) (fun g=>n-g.i) ⟨0,by omega⟩ ?_ ?_
 ·refine(dB (k:=9) (d:=37) 65 2 (by omega) rfl rfl).trans (aj ⟨rfl,trivial⟩ ?_);simp[wk]
 rintro⟨i,B⟩;simp only;by_cases w:i<n
 ·have e:=bE c f w;have q:=Im (aQ c (f i)) y (by rw[aI];omega) (by rw[aI];omega) (fun z o=>by
   obtain⟨j,_,rfl⟩:=aai.1 o;exact(v i j).mono (by omega)) (fun z o=>(A z o).mono (by omega))
  rw[aI]at q;have s:lc fZ (ID i c f y)++[[.p (.raw (.bool (decide (dC (aQ c (f i)) y c<0)))),.p (.sl (ls fU (au (dC (aQ c (f i)) y c).natAbs)))]]=lc fZ (ID (i+1) c f y):=by
   grind [ma,jd]
  refine ar (k:=bi rfl (ai (am (aK e (k:=wv [⟨3,_,_,_,q⟩] (aH @aI s) (k:=bL (k:=?_)))))));refine⟨⟨i+1,by omega⟩,by grind,aj ⟨rfl,trivial⟩ ?_⟩;simp[wk]
 have l:i=n:=by omega
 subst l;refine ar (k:=bv rfl (bz (k:=?_)));refine aW ⟨.inr rfl,fF 37 (bG rfl) ?_ rfl⟩;have t:List.take i (ID i c f y)=ID i c f y:=aar (by rw[aI];omega);simp(disch:=omega) only[kd,results205,t]
theorem FN {y:List Int} (h:isReducedM (mat n n b)=true) (j:E9 y=true):fO (mat n n b) y=ID n n b y:=by
 have g:=i9 h;have e:=g.2.1;rw[aU]at e;apply aay;intro i;rw[fO,u9];by_cases c:i<n
 ·rw[bE _ _ c,aB _ c];simp only[aaT,aI];exact congrArg some (pD (g.row_bd (bE _ _ c)) (fun i z l=>mr j l) n e).1
 grind [aU,aI]
theorem Ys (a b:Int) (c:b≠0) (f:Bh a) (g:Bh b):CallC prog 253 [tZ a,tZ b] ⟨[],tZ (a%b)⟩:=by
 have e:=Cz a b c f g;refine ay func253 rfl ntmps253 (aA (k:=bK [⟨2,_,_,_,e⟩] (k:=ar (k:=aG @results253))))
structure GcG (a b:Int) where
 x:Int
 y:Int
 hx:0<=x
 hy:0<=y
 hg:Int.gcd x y=Int.gcd a b
 sx:Bh x
 sy:Bh y
theorem On {y:Int} (b:0<=x) (c:0<=y):Int.gcd y (x%y)=Int.gcd x y:=by
 obtain⟨m,rfl⟩:=aaP b;obtain⟨n,rfl⟩:=aaP c;show Nat.gcd n (m%n)=Nat.gcd m n;grind [Nat.gcd_comm,Nat.gcd_rec]
theorem Yn (a b:Int) (l:Bh a) (m:Bh b):CallC prog 242 [tZ a,tZ b] ⟨[],tZ (Int.gcd a b:Nat)⟩:=by
 have n:=Nn a l.bg;have o:=Nn b m.bg;refine ay func242 rfl ntmps242 (aA (k:=cQ [⟨1,_,_,_,n⟩,⟨3,_,_,_,o⟩] (k:=?_)));refine ai (aF (G:=GcG a b) (fun g=>⟨(j4 (.one (.ptr 4 0 0 0)::.one (.ptr 5 0 0 0)::.one (.ptr 6 0 0 0)::j4 (j4 (j4 ([]))))),Hm [(4,ud),(5,vd g.x),(6,vd g.y)]⟩) (fun g=>g.y.natAbs) ⟨a.natAbs,b.natAbs,by omega,by omega,by simp;rfl,l.le (by omega),m.le (by omega)⟩ ?_ ?_)
 ·refine aj ⟨rfl,rfl,rfl,trivial⟩ ?_;simp[wk]
 rintro⟨x,y,v,r,t,s,f⟩;simp only;have j:=lL y f.bg;by_cases c:y=0
 ·subst c;refine ai (cn [⟨1,_,_,_,j⟩] @Cb (k:=aq rfl (aY ?_)));show bo _ _ _ _;have e:((Int.gcd a b:Nat):Int)=x:=by grind [Int.gcd_zero_right]
  rw[e];refine ar (k:=aG @results242)
 have u:=JM c;have p:=Ys x y c s f;have q:=adt x (show 0<y by omega);have h:=adZ x c;refine ai (bK [⟨1,_,_,_,j⟩] (k:=aC rfl (ak (am (VT [⟨3,_,_,_,p⟩] (k:=?_))))));refine⟨⟨y,x%y,r,h,by grind [On],f,f.le (by omega)⟩,by grind,aj ⟨rfl,by simp_all[aw],by simp_all[aw],trivial⟩ ?_⟩;simp[wk]
def cR (n d:Int):List AV:=[.p (.raw (.bool (decide (n<0)))),.p (.sl (ls fU (au n.natAbs))),.p (.raw (.bool (decide (d<0)))),.p (.sl (ls fU (au d.natAbs)))]
def nN (n d:Int):Int:=n/(Int.gcd n d:Nat)
def nD (n d:Int):Int:=d/(Int.gcd n d:Nat)
theorem qR {n d:Int} (b:0<d):0<Int.gcd n d:=Int.gcd_pos_of_ne_zero_right n (by omega)
theorem GM {n d:Int}:nN n d*(Int.gcd n d:Nat)=n:=aef (Int.gcd_dvd_left n d)
theorem BE {n d:Int}:nD n d*(Int.gcd n d:Nat)=d:=aef (Int.gcd_dvd_right n d)
theorem p8 {n d:Int} (c:0<d):0<nD n d:=by
 have h:=BE (n:=n) (d:=d);have e:=qR (n:=n) c;rcases acy 0 (nD n d)with b|b
 ·exact b
 have:=Int.mul_nonpos_of_nonpos_of_nonneg b (show(0:Int)<=(Int.gcd n d:Nat) by omega);omega
theorem Ju {d:Int} (b:0<d):nN x d/nD x d=x/d:=by
 grind [Int.mul_ediv_mul_of_pos_left,GM,BE]
theorem zZ {d:Int} {k:Nat} (h:Sz x k):Sz (nN x d) k:=h.ediv _
theorem zY {d:Int} {k:Nat} (h:Sz d k):Sz (nD x d) k:=h.ediv _
theorem UN (n d:Int) (b:0<d) (j:Bh n) (c:Bh d):CallC prog 206 [tZ n,tZ d] ⟨[],.tup [(true,cR (nN n d) (nD n d)),(false,[.p (.raw (.bool true))])]⟩:=by
 have e:=lL d c.bg;rw[Qf b]at e;have l:=Yn n d j c;have o:=qR (n:=n) b;have sg:Bh (Int.gcd n d:Nat):=c.le (by
  have:=Nat.le_of_dvd (by omega) (Int.gcd_dvd_natAbs_right n d);omega)
 have f:=ze n (Int.gcd n d:Nat) (by omega) j sg;have h:=ze d (Int.gcd n d:Nat) (by omega) c sg;rw[show n/(Int.gcd n d:Nat)=nN n d from rfl]at f;rw[show d/(Int.gcd n d:Nat)=nD n d from rfl]at h;generalize((Int.gcd n d:Nat):Int)=g at*
 generalize nN n d=q at*
 generalize nD n d=m at*
 refine ay func206 rfl ntmps206 (aA (k:=ai (bK [⟨1,_,_,_,e⟩] (k:=aq rfl (ak (ai (bK [⟨1,_,_,_,e⟩] (k:=aq rfl (ak (bK [⟨2,_,_,_,l⟩] (k:=cQ [⟨2,_,_,_,f⟩,⟨5,_,_,_,h⟩] (k:=aG (aH @results206 @cR.eq_1)))))))))))))
theorem jW (n d:Int) (b:0<d) (f:Bh n) (e:Bh d):CallC prog 162 [tR n d] ⟨[],tR (nN n d) (nD n d)⟩:=by
 have c:=UN n d b f e;generalize nN n d=h at*
 generalize nD n d=g at*
 refine ay func162 rfl ntmps162 (aA (k:=cn [⟨4,_,_,_,c⟩] @cR.eq_1 (k:=ai (bz (k:=aq rfl (ak (ar (k:=aG @results162))))))))
theorem VA:CallC prog 161 [] ⟨[],tR 1 2⟩:=by
 have b:=fh 1 (by omega) (by omega);have c:=fh 2 (by omega) (by omega);refine ay func161 rfl ntmps161 (aA (k:=bK [⟨0,_,_,_,b⟩,⟨1,_,_,_,c⟩] (k:=aG @results161)))
theorem RH (n d:Int) (b:0<d) (f:Bh n) (e:Bh d):CallC prog 159 [tR n d] ⟨[],tZ (n/d)⟩:=by
 have g:=jW n d b f e;have c:=ze (nN n d) (nD n d) (by have:=p8 (n:=n) b;omega) (zZ f) (zY e);rw[Ju b]at c;generalize nN n d=j at*
 generalize nD n d=h at*
 refine ay func159 rfl ntmps159 (aA (k:=bK [⟨1,_,_,_,g⟩] (k:=bK [⟨4,_,_,_,c⟩] (k:=aG @results159))))
abbrev ZM:List OObj:=[⟨143,4,[[.raw (.bool false),.raw (.slice none 0 0),.raw (.bool false),.raw (.slice none 0 0)]]⟩]
abbrev bxR (n d:Int):List OObj:=[⟨143,4,[[.p (.raw (.bool (decide (n<0)))),.p (.sl (ls fU (au n.natAbs))),.p (.raw (.bool false)),.p (.sl (ls fU (au d.natAbs)))]]⟩]
theorem Vu (a b c d:Int) (e:0<b) (f:0<d) (j:Sz a 100000000) (m:Sz b 100000000) (o:Sz c 100000000) (p:Sz d 100000000):
  CallC prog 160 [tR a b,tR c d] ⟨[],tR (nN (nN a b*nD c d+nN c d*nD a b) (nD a b*nD c d)) (nD (nN a b*nD c d+nN c d*nD a b) (nD a b*nD c d))⟩:=by
 have w:=jW a b e (j.mono (by omega)) (m.mono (by omega));have z:=jW c d f (o.mono (by omega)) (p.mono (by omega));have r:Sz (nN a b) 100000000:=zZ j;have h:Sz (nD a b) 100000000:=zY m;have q:Sz (nN c d) 100000000:=zZ o;have g:Sz (nD c d) 100000000:=zY p;have G:=p8 (n:=a) e;have F:=p8 (n:=c) f;generalize nN a b=x at*
 generalize nD a b=y at*
 generalize nN c d=u at*
 generalize nD c d=v at*
 have s:Sz (x*v) 200000000:=(r.mul g).mono (by omega);have t:Sz (u*y) 200000000:=(q.mul h).mono (by omega);have H:Sz (x*v+u*y) 200000001:=s.add t;have I:Sz (y*v) 200000000:=(h.mul g).mono (by omega);have A:=jp x v (r.mono (by omega)) (g.mono (by omega));have B:=jp u y (q.mono (by omega)) (h.mono (by omega));have C:=tS (x*v) (u*y) (s.mono (by omega)) (t.mono (by omega));have D:=jp y v (h.mono (by omega)) (g.mono (by omega));have E:=UN (x*v+u*y) (y*v) (aeb G F) (H.mono (by omega)) (I.mono (by omega));generalize nN (x*v+u*y) (y*v)=J at*
 generalize nD (x*v+u*y) (y*v)=rd at*
 refine ay func160 rfl ntmps160 (aA (k:=cQ [⟨1,_,_,_,w⟩,⟨3,_,_,_,z⟩] (k:=?_)));refine bo.weak (aj (tm:=(j4 (.one (.ptr 4 0 0 0)::.one (.ptr 5 0 0 0)::.one (.ptr 6 0 0 0)::j16 (j4 (j4 (jk::jk::jk::[])))))) (l:=[(4,ZM),(5,bxR x y),(6,bxR u v)]) ⟨rfl,rfl,rfl,trivial⟩ (by simp[wk])) ?_;refine gh [⟨4,_,_,_,A⟩,⟨9,_,_,_,B⟩,⟨10,_,_,_,C⟩,⟨15,_,_,_,D⟩,⟨16,_,_,_,E⟩] @cR.eq_1 (k:=ar (k:=aG @results160))
theorem Td {q:Int} (b:0<q):nN (nN x q*nD 1 2+nN 1 2*nD x q) (nD x q*nD 1 2)/nD (nN x q*nD 1 2+nN 1 2*nD x q) (nD x q*nD 1 2)=(2*x+q)/(2*q):=by
 have c:nN 1 2=1:=by decide
 have e:nD 1 2=2:=by decide
 have j:=p8 (n:=x) b;rw[c,e,Ju (by omega)];have h:=qR (n:=x) b;have f:=GM (n:=x) (d:=q);have g:=BE (n:=x) (d:=q);have:(nN x q*2+1*nD x q)*(Int.gcd x q:Nat)/((nD x q*2)*(Int.gcd x q:Nat))=(nN x q*2+1*nD x q)/(nD x q*2):=adi _ _ (by omega);rw[<- this]
 congr 1
 ·grind
 grind
theorem Kd (p q:Int) (b:0<q) (f:Sz p 100000000) (g:Sz q 100000000):CallC prog 108 [tR p q] ⟨[],tZ ((2*p+q)/(2*q))⟩:=by
 have m:=Vu p q 1 2 b (by omega) f g (oG (by omega)) (lB (by decide) (by omega));have r:Sz (nN p q) 100000000:=zZ f;have h:Sz (nD p q) 100000000:=zY g;have s:=p8 (n:=p) b;have o:nN 1 2=1:=by decide
 have e:nD 1 2=2:=by decide
 have j:Sz (2:Int) 1:=lB (by decide) (by omega);have u:Sz (nN p q*nD 1 2+nN 1 2*nD p q) 100000002:=by
  rw[o,e];refine Sz.add (k:=100000001) ((r.mul j).mono (by omega)) ?_;rw[aeL];exact h.mono (by omega)
 have t:Sz (nD p q*nD 1 2) 100000001:=by rw[e];exact(h.mul j).mono (by omega)
 have c:=RH (nN (nN p q*nD 1 2+nN 1 2*nD p q) (nD p q*nD 1 2)) (nD (nN p q*nD 1 2+nN 1 2*nD p q) (nD p q*nD 1 2)) (p8 (by grind)) ((zZ u).mono (by omega)) ((zY t).mono (by omega));rw[Td b]at c;generalize nN (nN p q*nD 1 2+nN 1 2*nD p q) (nD p q*nD 1 2)=v at*
 generalize nD (nN p q*nD 1 2+nN 1 2*nD p q) (nD p q*nD 1 2)=rd at*
 have l:=VA;refine ay func108 rfl ntmps108 (aA (k:=cQ [⟨1,_,_,_,l⟩,⟨2,_,_,_,m⟩,⟨3,_,_,_,c⟩] (k:=aG @results108)))
theorem vX (p q:Int) (b:0<q) (e:Bh p) (f:Bh q):CallC prog 109 [tZ p,tZ q] ⟨[],tR (nN p q) (nD p q)⟩:=by
 have c:=jW p q b e f;generalize nN p q=h at*
 generalize nD p q=g at*
 refine ay func109 rfl ntmps109 (aA (k:=bK [⟨3,_,_,_,c⟩] (k:=aG @results109)))
def qF (l d:Int):Int:=(2*l+d)/(2*d)
theorem ZV {d:Int} (b:0<d):(2*nN x d+nD x d)/(2*nD x d)=qF x d:=by
 have f:=qR (n:=x) b;have c:=GM (n:=x) (d:=d);have e:=BE (n:=x) (d:=d);have:(2*nN x d+nD x d)*(Int.gcd x d:Nat)/((2*nD x d)*(Int.gcd x d:Nat))=(2*nN x d+nD x d)/(2*nD x d):=adi _ _ (by omega);simp_all[qF,Int.add_mul,aem]
end Go.Proofs.YtalmoejhjceflaaGreat
