/-
  Part 18 of a proof (walks and plain facts).
-/
import Derived.Test.YtalmoejhjceflaaGreatV16
set_option linter.all false
set_option maxRecDepth 100000
set_option maxHeartbeats 64000000
open Nat renaming reduceAdd → aa
open Nat renaming reduceEqDiff → ae
namespace Go.Proofs.YtalmoejhjceflaaGreat
open Go.RowKit Go.Proofs.Tryz
variable {n m:Nat} {x:Int} {b:FF}
theorem mc {P:Program} {c z:Code} {Q:Exit->AS->Prop} {s S:AS} (f:bv P c (l8 (fun b=>bN b S) Q) s) (g:bv P z Q S):bv P c (l8 (bv P z Q) Q) s:=f.mono fun e b h=>by
 cases e with
 |normal=>exact bv.weak h g
 |_=>exact h
theorem Sz.mul {a:Int} {k:Nat} (c:Sz a k) (e:Sz x n):Sz (a*x) (k+n):=by
 show _<_;rw[afr,af8];exact ahB c e
theorem Sz.sub {a:Int} {k:Nat} (c:Sz a k) (e:Sz x k):Sz (a-x) (k+1):=by
 grind [Sz]
theorem Sz.add {a:Int} {k:Nat} (c:Sz a k) (e:Sz x k):Sz (a+x) (k+1):=by
 grind [Sz]
theorem Sz.ediv {a:Int} {k:Nat} (c:Sz a k) (b:Int):Sz (a/b) k:=c.le (ahV a b)
theorem VY {f:FF} {n k:Nat}: ∀m p,n-p=m->piv f n k p<n->p<=piv f n k p/\f (piv f n k p) k≠0
 |0,p,c,h=>by grind [zt]
 |m+1,p,c,h=>by
  by_cases b:f p k=0
  ·rw[F0 (by omega) b]at h⊢;have:=VY m (p+1) (by omega) h;omega
  grind [FZ]
theorem LZ {f:FF} {n k:Nat}: ∀m p,n-p=m->piv f n k p<=n
 |0,p,c=>by grind [zt]
 |m+1,p,c=>by
  by_cases b:f p k=0
  ·rw[F0 (by omega) b];exact LZ m (p+1) (by omega)
  grind [FZ]
def dQ (k:Nat) (last:Int) (g:FF) (i j:Nat):Nat->Nat->Int:=fun a b=>if k<a/\k<b/\(a<i\/(a=i/\b<j))then(g k k*g a b-g a k*g k b)/last else g a b
theorem FP {k i:Nat} (last:Int) (g:FF) (e:k<i) (f:k<n) (a b:Nat):upd (dQ k last g i n) i n ((g k k*g i n-g i k*g k n)/last) a b=dQ k last g i (n+1) a b:=by
 unfold upd dQ;by_cases c:a=i
 ·subst c;grind
 simp[c]
theorem LT {k:Nat} (last:Int) (g:FF) (i a b:Nat) (c:b<n):dQ k last g i n a b=dQ k last g (i+1) (k+1) a b:=by
 grind [dQ]
theorem FQ (k:Nat) (last:Int) (g:FF):dQ k last g (k+1) (k+1)=g:=by
 grind [dQ]
theorem LS {k:Nat} (last:Int) (g:FF) (a b:Nat) (c:a<n):dQ k last g n (k+1) a b=LW k last g a b:=by
 grind [dQ,LW]
theorem gT {k i a:Nat} (last:Int) (g:FF) (h: ¬(k<a/\k<m/\(a<i\/(a=i/\m<n)))):dQ k last g i n a m=g a m:=by
 grind [dQ]
theorem zq {d k:Nat} (g:FF) (h:m<n) (f:k<n) (b:k≠m) (r:Nat):(gC d n n (swp m k g))[r]?=
  (((⟨85,1,((kw d (List.replicate n n)).set m [.sl d (k+1) 0 n]).set k [.sl d (m+1) 0 n]⟩::(mat n n g).map rH:List OObj))[sw (m+1) (k+1) r]?).map (swO d (m+1) (k+1)):=by
 cases r with
 |zero=>
  rw[show sw (m+1) (k+1) 0=0 by simp[sw]];simp only[ah9,afV,swO,BC]
  congr 2
  apply aeW;intro i;rw[aeG,afG,afG,List.length_set,eQ,afc];grind [bO,iD,SV,sw,eQ]
 |succ r=>
  have c:sw (m+1) (k+1) (r+1)=sw m k r+1:=by
   grind [sw]
  have e: ∀l:List Int,swO d (m+1) (k+1) (rH l)=rH l:=fun l=>by
   simp only[swO,BC,rH,lc,aga]
   congr 1
  grind [sw,bA,swp,aS]
structure DeG (n:Nat) (f:FF) where
 k:Nat
 g:Nat->Nat->Int
 last:Int
 neg:Bool
 b:Nat
 hk:k<=n
 hv:detG n k g last neg=detF n f
 hl:last≠0
 hb:b+1<=1025*2^k
 sg: ∀i j,i<n->j<n->Sz (g i j) b
 sl:Sz last b
structure PvG (n k:Nat) (g:FF) where
 p:Nat
 hkp:k<=p
 hp:p<=n
 hv:piv g n k p=piv g n k k
structure NxG (n k:Nat) where
 i:Nat
 hk:k+1<=i
 hi:i<=n
abbrev oh (v:Int):List OObj:=uy (decide (v<0)) (aD v.natAbs)
theorem we:sg 0=0:=rfl
theorem yF (h:x≠0):sg x≠0:=by grind [sg]
theorem oS {k:Nat} (h:k<=16):2^k<=65536:=ae5 (n:=2) (by omega) h
theorem gm (n:Nat) (f:FF) (O:1<=n) (hn:n<=16) (hf: ∀i j,i<n->j<n->Sz (f i j) 1024):
  CallC prog 34 [dq (mat n n f)] ⟨[],tZ (detF n f)⟩:=by
 have hC:=Ey n n f (by omega) O (by omega) (fun i j s w=>(hf i j s w).mono (by omega));have hS:=er 1 (by omega) (by omega);refine aB func34 rfl ntmps34 (aE (k:=bu [⟨1,_,_,_,hC⟩] (k:=aZ (k:=bD [⟨0,_,_,_,hS⟩] (k:=aj (aZ (k:=?_)))))));refine ay (G:=DeG n f) (fun g=>⟨(jk::jk::.one (.ptr 2 0 0 0)::.one (.sl 12 0 0 n)::rN n::.one (.ptr 5 0 0 0)::.raw (.bool g.neg)::rN g.k::j16 (j16 (j16 (j16 (j16 (j16 (j16 (j4 (jk::[]))))))))),Hm [(2,sX),(5,oh g.last),(12,gC 12 n n g.g)]⟩) (fun g=>n-g.k) ⟨0,f,1,false,1024,by omega,rfl,by omega,by omega,hf,ni (by omega)⟩ ?_ ?_
 ·refine ak ⟨rfl,rfl,?_,trivial⟩ ?_
  ·exact fD 0 12 n n f
  simp[wk]
 rintro⟨k,g,last,neg,b,hk,u,hl,hb,U,B⟩;simp only;by_cases l:k<n
 ·have J:=oS (k:=k) (by omega);have ac:b<=67174400:=by omega
  have o:detG n k g last neg=if piv g n k k=n then 0 else detG n (k+1) (LW k last (pvt n k g)) (pvt n k g k k) (neg !=decide (k<piv g n k k)):=by grind [detG]
  refine aj (ax (k:=aC rfl (al (aj (ao (aZ (k:=?_)))))));refine aj (mc (S:=⟨(jk::jk::.one (.ptr 2 0 0 0)::.one (.sl 12 0 0 n)::rN n::.one (.ptr 5 0 0 0)::.raw (.bool neg)::rN k::.raw (.int .i64 ((piv g n k k:Nat):Int))::j16 (j16 (j16 (j16 (j16 (j16 (j16 (j4 ([]))))))))),Hm [(2,sX),(5,oh last),(12,gC 12 n n g)]⟩) ?_ ?_)
  ·refine ay (G:=PvG n k g) (fun q=>⟨(jk::jk::.one (.ptr 2 0 0 0)::.one (.sl 12 0 0 n)::rN n::.one (.ptr 5 0 0 0)::.raw (.bool neg)::rN k::rN q.p::j16 (j16 (j16 (j16 (j16 (j16 (j16 (j4 ([]))))))))),Hm [(2,sX),(5,oh last),(12,gC 12 n n g)]⟩) (fun q=>n-q.p) ⟨k,by omega,by omega,rfl⟩ ?_ ?_
   ·refine ak ⟨rfl,rfl,rfl,trivial⟩ ?_;simp[wk]
   rintro⟨p,M,hp,an⟩;simp only;by_cases m:p<n
   ·have C:=bO (n:=n) (i:=p) 12 n m;have D:=dp n g m;have I:=aw (g p) l;have r:=kh (g p k) ((U p k m l).mono (by omega));by_cases Z:g p k=0
    ·rw[Z]at r I;refine aj (ce [⟨11,_,_,_,r⟩] (aG @we (aG C (aG D I))) (k:=aC rfl (al (ao (bK (k:=?_))))));refine⟨⟨p+1,by omega,by omega,?_⟩,by simp only;omega,ak ⟨rfl,rfl,rfl,trivial⟩ ?_⟩
     ·grind [F0]
     simp[wk]
    have ap:=yF Z;refine aj (ce [⟨11,_,_,_,r⟩] (aG C (aG D I)) (k:=aq rfl (aT ?_)));show bN _ _;have t:piv g n k k=p:=by grind [FZ]
    refine ak ⟨rfl,rfl,rfl,trivial⟩ ?_;simp[wk,t]
   have t:piv g n k k=p:=by grind [zt]
   refine aj (ax (k:=aq rfl (aT ?_)));show bN _ _;refine ak ⟨rfl,rfl,rfl,trivial⟩ ?_;simp[wk,t]
  have ai:=LZ (f:=g) (n:=n) (k:=k) (n-k) k rfl;have A:=VY (f:=g) (n:=n) (k:=k) (n-k) k rfl;generalize Q:piv g n k k=p at*
  by_cases m:p=n
  ·rw[if_pos m]at o;refine aj (ax (k:=aC rfl (ax (k:=?_))));refine bv.weak (io 2) ?_;refine aM ⟨.inr rfl,bQ rfl ?_ rfl⟩;rw[<- u,o];simp(disch:=omega) only[kd,results34,zH,ae,zO,GP,GV,aa,tZ];simp[cX,ls]
  rw[if_neg m]at o;obtain⟨M,ab⟩:=A (by omega);refine aj (ax (k:=aq rfl (al (aj (aZ (k:=?_))))));refine mc (S:=⟨(jk::jk::.one (.ptr 2 0 0 0)::.one (.sl 12 0 0 n)::rN n::.one (.ptr 5 0 0 0)::.raw (.bool (neg !=decide (k<p)))::rN k::j16 (j16 (j16 (j16 (j16 (j16 (j16 (j4 (jk::[]))))))))),Hm [(2,sX),(5,oh last),(12,gC 12 n n (swp p k g))]⟩) ?_ ?_
  ·by_cases N:k<p
   ·have C:=bO (n:=n) (i:=p) 12 n (by omega);have D:=bO (n:=n) (i:=k) 12 n (by omega);refine aX rfl (fun _=>?_) (fun h=>by simp at h<;>omega);have g4:((kw 12 (List.replicate n n)).set p [.sl 12 (k+1) 0 n])[k]?=some [.sl 12 (k+1) 0 n]:=by
     grind
    refine iH (aG D (aG C g4)) (k:=aAl (k:=?_));refine(y7 12 (p+1) (k+1) (gC 12 n n (swp p k g)) (zq g (by omega) l (by omega))).trans (ak ⟨rfl,rfl,rfl,trivial⟩ ?_);simp[wk,WN,oc,aaf,iD,swP,SV,sw,N]
   have P:p=k:=by omega
   subst P;refine aX rfl (fun h=>by simp at h<;>omega) (fun _=>al ?_);show bN _ _;rw[wA];refine ak ⟨rfl,rfl,rfl,trivial⟩ ?_;simp[wk]
  rw[pvt,Q]at o;have K:swp p k g k k≠0:=by
   unfold swp;grind
  have e: ∀i j,i<n->j<n->Sz (swp p k g i j) b:=fun i j s w=>by
   unfold swp;grind
  generalize swp p k g=c at*
  generalize(neg !=decide (k<p))=neg' at*
  refine aj (ax (k:=?_));refine ay (G:=NxG n k) (fun q=>⟨(jk::jk::.one (.ptr 2 0 0 0)::.one (.sl 12 0 0 n)::rN n::.one (.ptr 5 0 0 0)::.raw (.bool neg')::rN k::jk::rN q.i::j16 (j16 (j16 (j16 (j16 (j16 (j16 (jk::jk::jk::[])))))))),Hm [(2,sX),(5,oh last),(12,gC 12 n n (dQ k last c q.i (k+1)))]⟩) (fun q=>n-q.i) ⟨k+1,by omega,by omega⟩ ?_ ?_
  ·rw[FQ];refine ak ⟨rfl,rfl,rfl,trivial⟩ ?_;simp[wk]
  rintro⟨i,ag,ad⟩;simp only;by_cases s:i<n
  ·refine aj (ax (k:=aC rfl (al (aj (ao (ax (k:=?_)))))));refine ay (G:=NxG n k) (fun q=>⟨(jk::jk::.one (.ptr 2 0 0 0)::.one (.sl 12 0 0 n)::rN n::.one (.ptr 5 0 0 0)::.raw (.bool neg')::rN k::jk::rN i::rN q.i::j16 (j16 (j16 (j16 (j16 (j16 (j16 (jk::jk::[])))))))),Hm [(2,sX),(5,oh last),(12,gC 12 n n (dQ k last c i q.i))]⟩) (fun q=>n-q.i) ⟨k+1,by omega,by omega⟩ ?_ ?_
   ·refine ak ⟨rfl,rfl,rfl,trivial⟩ ?_;simp[wk]
   rintro⟨j,ah,af⟩;simp only;by_cases w:j<n
   ·have a1:=bO (n:=n) (i:=i) 12 n s;have E:=bO (n:=n) (i:=k) 12 n l;have a3:=dp n (dQ k last c i j) s;have F:=dp n (dQ k last c i j) l;have H:(aA n (dQ k last c i j k))[k]?=some (c k k):=by grind [aw,gT]
    have a6:(aA n (dQ k last c i j i))[j]?=some (c i j):=by grind [aw,gT]
    have a7:(aA n (dQ k last c i j i))[k]?=some (c i k):=by grind [aw,gT]
    have a8:(aA n (dQ k last c i j k))[j]?=some (c k j):=by grind [aw,gT]
    have V:=e k k l l;have W:=e i j s w;have X:=e i k s l;have Y:=e k j l w;have c1:=gu (c k k) (c i j) (V.mono (by omega)) (W.mono (by omega));have c2:=gu (c i k) (c k j) (X.mono (by omega)) (Y.mono (by omega));have c3:=ta (c k k*c i j) (c i k*c k j) ((V.mul W).mono (by omega)) ((X.mul Y).mono (by omega));have c4:=s9 (c k k*c i j-c i k*c k j) last hl (((V.mul W).sub (X.mul Y)).mono (by omega)) (B.mono (by omega));refine aj (ax (k:=aC rfl (al (aj (ao (fP [⟨19,_,_,_,c1⟩,⟨34,_,_,_,c2⟩,⟨35,_,_,_,c3⟩,⟨37,_,_,_,c4⟩] (aG a1 (aG E (aG F (aG H (aG a3 (aG a6 (aG a7 (aG a8 @gS)))))))) (k:=bK (k:=?_))))))));refine⟨⟨j+1,by omega,by omega⟩,by grind,ak ⟨rfl,rfl,?_,trivial⟩ ?_⟩
    ·show _::_=_::_;grind [bC,FP]
    simp[wk]
   have z:j=n:=by omega
   subst z;refine aj (ax (k:=aq rfl (aT (bK (k:=?_)))));refine⟨⟨i+1,by omega,by omega⟩,by grind,ak ⟨rfl,rfl,?_,trivial⟩ ?_⟩
   ·grind [bC,LT]
   simp[wk]
  have v:i=n:=by omega
  subst v;have E:=bO (n:=i) (i:=k) 12 i l;have F:=dp i (dQ k last c i (k+1)) l;have H:(aA i (dQ k last c i (k+1) k))[k]?=some (c k k):=by grind [aw,gT]
  refine aj (ax (k:=aq rfl (aT (dz (aG E (aG F H)) (k:=bK (k:=?_))))));refine⟨⟨k+1,LW k last c,c k k,neg',2*b+1,by omega,by omega,K,by omega,fun x y R T=>?_,(e k k l l).mono (by omega)⟩,by simp only;omega,ak ⟨rfl,rfl,?_,trivial⟩ ?_⟩
  ·unfold LW;split
   ·exact((((e k k l l).mul (e x y R T)).sub ((e x k R l).mul (e k y l T))).ediv last).mono (by omega)
   exact(e x y R T).mono (by omega)
  ·show _::_=_::_;grind [bC,LS]
  simp[wk]
 have L:k=n:=by omega
 subst L;rw[detG,if_neg l]at u;have J:=oS (k:=k) hn;have hN:=I4 last (B.mono (by omega));refine aj (ax (k:=aq rfl (aT (aj (aZ (k:=?_))))));cases neg with
 |true=>
  rw[if_pos rfl]at u;refine aC rfl (bD [⟨1,_,_,_,hN⟩] (k:=?_));rw[<- u]
  (refine aM ⟨.inr rfl,bQ rfl ?_ rfl⟩;simp(disch:=omega) only[kd,results34,ae,aa,tZ])
 |false=>
  rw[if_neg (by simp)]at u;refine aq rfl (al (ax (k:=?_)));rw[<- u]
  (refine aM ⟨.inr rfl,bQ rfl ?_ rfl⟩;simp(disch:=omega) only[kd,results34,ae,aa,tZ])
theorem kA {k:Nat} (h:x.natAbs<4294967296) (b:1<=k):Sz x k:=by
 grind [Sz]
theorem mu (k:Nat):Sz 0 k:=by grind [Sz]
theorem ac5 {p k:Nat} (l:p<n) (f:k<n) (h: ∀i j,i<n->j<n->Sz (b i j) m): ∀i j,i<n->j<n->Sz (swp p k b i j) m:=fun i j c e=>by
 unfold swp;grind
theorem acD {k:Nat} (last:Int) (c:k<n) (h: ∀i j,i<n->j<n->Sz (b i j) m): ∀i j,i<n->j<n->Sz (LW k last b i j) (2*m+1):=fun x y e f=>by
 unfold LW;split
 ·exact((((h k k c c).mul (h x y e f)).sub ((h x k e c).mul (h k y c f))).ediv last).mono (by omega)
 exact(h x y e f).mono (by omega)
theorem Oc {n:Nat} (s:n<=16): ∀m k g last neg b,n-k=m->k<=n->(∀i j,i<n->j<n->Sz (g i j) b)->Sz last b->b+1<=1025*2^k->Sz (detG n k g last neg) 67174400
 |0,k,g,last,neg,b,r,q,e,c,o=>by
  have l:=oS (k:=k) (by omega);rw[detG,if_neg (by omega)];split
  ·exact c.neg.mono (by omega)
  exact c.mono (by omega)
 |m+1,k,g,last,neg,b,r,q,e,c,o=>by
  rw[detG,if_pos (by omega)];split
  ·exact mu _
  rename_i u;have t:=LZ (f:=g) (n:=n) (k:=k) (n-k) k rfl;have h:=ac5 (p:=piv g n k k) (k:=k) (by omega) (by omega) e;exact Oc s m (k+1) _ _ _ (2*b+1) (by omega) (by omega) (acD last (by omega) h) ((h k k (by omega) (by omega)).mono (by omega)) (by omega)
theorem pK {n:Nat} {f:FF} (c:n<=16) (b: ∀i j,i<n->j<n->Sz (f i j) 1024):Sz (detF n f) 67174400:=
 Oc c n 0 f 1 false 1024 rfl (by omega) b (ni (by omega)) (by omega)
theorem j7 (f:FF) (h:1<=n):((mat n m f).headD []).length=m:=by
 have:=vj (M:=mat n m f) (by rw[aS];omega);grind [bA,az]
theorem mo (f:FF) (e:1<=n) (h:n<=16) (b:1<=m) (g:m<=16):Td (mat n m f):=by
 refine⟨by rw[aS];omega,by rw[aS];omega,fun r j=>?_⟩;grind [List.mem_iff_getElem?,aS,bA,az,j7]
theorem Py (f:FF) (b:1<=n) (c:n<=16):sqT (mat n n f)= .tup [(false,[.p (.raw (.int .i64 (n:Int)))]),(false,[.p (.raw (.bool true))])]:=by
 grind [SqP,mo,aS,j7,sqT]
theorem acX (f:FF) (b:1<=n) (h:n≠m):sqT (mat n m f)= .tup [(false,[.p (.raw (.int .i64 0))]),(false,[.p (.raw (.bool false))])]:=by
 unfold sqT;rw[if_neg];intro e;have:=e.2;grind [aS,j7]
abbrev yw (n:Nat) (f:FF):List Int:=aA n fun k=>detF (k+1) f
def Zd (n:Nat) (f:FF):TV:= .tup [(false,[.p (.sl (ls fZ (yw n f)))]),(false,[.p (.raw (.bool true))])]
theorem Wl (k:Nat) (f:FF):((List.range (k+1)).map fun i=>(List.range (k+1)).map (f i))=mat (k+1) (k+1) f:=rfl
theorem kB (n:Nat) (f:FF) (l:1<=n) (h:n<=16) (s: ∀i j,i<n->j<n->Sz (f i j) 1024):CallC prog 98 [dq (mat n n f)] ⟨[],Zd n f⟩:=by
 have b:=G4 (mat n n f);rw[Py f l h]at b;refine aB func98 rfl ntmps98 (aE (k:=bu [⟨1,_,_,_,b⟩] (k:=aj (aZ (k:=aq rfl (al (aZ (k:=aj (aZ (k:=?_))))))))));refine ay (G:=fp n) (fun g=>⟨(dq (mat n n f)::jk::.raw (.slice none 0 0)::.raw (.bool false)::rN n::jk::.one (.sl 31 0 0 g.i)::rN g.i::j16 (j4 (j4 (jk::[])))),Hm [(31,[⟨65,2,lc fZ (yw g.i f)⟩])]⟩) (fun g=>n-g.i) ⟨0,by omega⟩ ?_ ?_
 ·refine(ca (k:=6) (d:=31) 65 2 (by omega) rfl rfl).trans (ak ⟨rfl,trivial⟩ ?_);simp[wk]
 rintro⟨k,w⟩;simp only;by_cases y:k<n
 ·have c:=vb k k (by omega) (by omega);rw[<- afH]at c;have m:=uH n n f (List.range (k+1)) (List.range (k+1)) h h (fun x t=>by grind) (fun x t=>by grind) (by simp;omega) (by simp;omega);rw[Wl]at m;have o:=gm (k+1) f (by omega) (by omega) (fun i j u v=>s i j (by omega) (by omega));have q:lc fZ (yw k f)++[[.p (.raw (.bool (decide (detF (k+1) f<0)))),.p (.sl (ls fU (aD (detF (k+1) f).natAbs)))]]=lc fZ (yw (k+1) f):=by
   grind [oM,kS]
  refine aj (ax (k:=aC rfl (al (aj (ao (nU [⟨4,_,_,_,c⟩,⟨7,_,_,_,c⟩,⟨8,_,_,_,m⟩,⟨9,_,_,_,o⟩] (aG @az q) (k:=bK (k:=?_))))))));refine⟨⟨k+1,by omega⟩,by grind,ak ⟨rfl,trivial⟩ ?_⟩;simp[wk]
 have e:k=n:=by omega
 subst e;refine aj (ax (k:=aq rfl (aT (aZ (k:=?_)))));refine aM ⟨.inr rfl,dI 31 (bj rfl) ?_ rfl⟩;have r:List.take k (yw k f)=yw k f:=aeS (by rw[az];omega);simp(disch:=omega) only[kd,results98,r,Zd]
structure SyG (n:Nat) (f:FF) where
 i:Nat
 hi:i<=n
 ok: ∀a,a<i-> ∀b,b<a->f a b=f b a
structure SyI (n i:Nat) (f:FF) where
 j:Nat
 hj:j<=i
 ok: ∀b,b<j->f i b=f b i
theorem QG (a:Int):nY a a=0:=by simp[nY]
theorem T5 {a:Int} (h:a≠x):nY a x≠0:=by grind [nY]
theorem qG (n:Nat) (f:FF) (D:n<=16) (w: ∀i j,i<n->j<n->Sz (f i j) 1024) (r:Bool) (x:r=true↔SymF f n):CallC prog 103 [dq (mat n n f)] ⟨[],.raw (.bool r)⟩:=by
 have o:=aS n n f;refine aB func103 rfl ntmps103 (aE (k:=aj (d9 o (k:=?_))));refine ay (G:=SyG n f) (fun g=>⟨(dq (mat n n f)::jk::.raw (.bool false)::jk::jk::jk::rN n::rN g.i::j16 (j4 (j4 ([])))),Hm []⟩) (fun g=>n-g.i) ⟨0,by omega,fun a m=>by omega⟩ ?_ ?_
 ·refine ak trivial ?_;simp[wk]
 rintro⟨i,B,ok⟩;simp only;by_cases c:i<n
 ·refine ax (k:=aP rfl (aj (ao (aZ (k:=aZ (k:=?_))))));refine ay (G:=SyI n i f) (fun g=>⟨(dq (mat n n f)::jk::.raw (.bool false)::rN i::rN g.j::jk::rN n::rN i::j16 (j4 (j4 ([])))),Hm []⟩) (fun g=>i-g.j) ⟨0,by omega,fun a m=>by omega⟩ ?_ ?_
  ·refine ak trivial ?_;simp[wk]
  rintro⟨j,C,A⟩;simp only;by_cases y:j<i
  ·have s:=bA n f c;have t:=bA n f (show j<n by omega);have h:=aw (f i) (show j<n by omega);have u:=aw (f j) c;have l:=zK (f i j) (f j i) ((w i j c (by omega)).mono (by omega)) ((w j i (by omega) c).mono (by omega));by_cases e:f i j=f j i
   ·rw[e,QG]at l;rw[e]at h;refine aj (ax (k:=aC rfl (al (aj (ao (dF [⟨14,_,_,_,l⟩] (aG s (aG h (aG t u))) (k:=aq rfl (al (bK (k:=?_))))))))));refine⟨⟨j+1,by omega,fun b v=>?_⟩,by simp only;omega,ak trivial ?_⟩
    ·grind
    simp[wk]
   have p:r=false:=by
    cases r with
    |false=>rfl
    |true=>exact absurd (x.1 rfl i c j (by omega)) e
   subst p;have z:=T5 e;refine aj (ax (k:=aC rfl (al (aj (ao (dF [⟨14,_,_,_,l⟩] (aG s (aG h (aG t u))) (k:=aC rfl (aZ (k:=aI @results103)))))))))
  refine aj (ax (k:=aq rfl (aT (bK (k:=?_)))));refine⟨⟨i+1,by omega,fun a m b v=>?_⟩,by simp only;omega,ak trivial ?_⟩
  ·grind
  simp[wk]
 have q:r=true:=x.2 fun a m b v=>by
  grind
 subst q;refine ax (k:=aQ rfl (aZ (k:=aI @results103)))
structure DfG (n:Nat) (f:FF) where
 i:Nat
 hi:i<=n
 ok: ∀a,a<i->0<detF (a+1) f
theorem Ws (h:0<x):sg x=1:=by grind [sg]
theorem Z5 (h: ¬0<x):sg x<=0:=by grind [sg]
theorem zL (n:Nat) (f:FF) (l:1<=n) (t:n<=16) (h: ∀i j,i<n->j<n->Sz (f i j) 1024) (z:SymF f n) (r:Bool) (u:r=true↔uG f n):CallC prog 104 [dq (mat n n f)] ⟨[],.raw (.bool r)⟩:=by
 have w:=kB n f l t h;have x:=qG n f t h true (by simp[z]);refine aB func104 rfl ntmps104 (aE (k:=fJ [⟨1,_,_,_,w⟩] @Zd.eq_1 (k:=aj (bD [⟨4,_,_,_,x⟩] (k:=aq rfl (al (aj (d9 @az (k:=?_)))))))));refine ay (G:=DfG n f) (fun g=>⟨(jk::jk::.raw (.bool false)::j16 (.one (.p (.sl (ls fZ (yw n f))))::rN n::rN g.i::j4 (jk::jk::jk::[]))),Hm []⟩) (fun g=>n-g.i) ⟨0,by omega,fun a e=>by omega⟩ ?_ ?_
 ·refine ak trivial ?_;simp[wk]
 rintro⟨i,C,ok⟩;simp only;by_cases s:i<n
 ·have v:(yw n f)[i]?=some (detF (i+1) f):=aw _ s;have A:=pK (n:=i+1) (f:=f) (by omega) (fun a b e B=>h a b (by omega) (by omega));have c:=kh (detF (i+1) f) (A.mono (by omega));refine ax (k:=aP rfl (aj (ao (aF v (k:=?_)))));by_cases m:0<detF (i+1) f
  ·rw[Ws m]at c;refine bD [⟨1,_,_,_,c⟩] (k:=aq rfl (al (bK (k:=?_))));refine⟨⟨i+1,by omega,fun a e=>?_⟩,by simp only;omega,ak trivial ?_⟩
   ·grind
   simp[wk]
  have o:r=false:=by
   cases r with
   |false=>rfl
   |true=>exact absurd (u.1 rfl i s) m
  subst o;have y:=Z5 m;refine bD [⟨1,_,_,_,c⟩] (k:=aC rfl (aZ (k:=aI @results104)))
 have q:r=true:=u.2 fun a e=>ok a (by omega)
 subst q;refine ax (k:=aQ rfl (aZ (k:=aI @results104)))
theorem EY (a b:Int):decide (nY a b<=0)=decide (a<=b):=by
 grind [nY]
theorem YG (a b:Int):decide (0<=nY a b)=decide (b<=a):=by
 grind [nY]
theorem JG (n:Nat) (f:FF) (c:1<=n) (g:n<=16) (e: ∀i j,i<n->j<n->Sz (f i j) 1024):CallC prog 54 [dq (mat n n f)] ⟨[],.raw (.bool (decide (detF n f<=10000)))⟩:=by
 have l:=gm n f c g e;have m:=er 10000 (by omega) (by omega);have h:=zK (detF n f) 10000 ((pK g e).mono (by omega)) (kA (by decide) (by omega));have b:=EY (detF n f) 10000;refine aB func54 rfl ntmps54 (aE (k:=ce [⟨1,_,_,_,l⟩,⟨2,_,_,_,m⟩,⟨3,_,_,_,h⟩] b (k:=aI @results54)))
theorem tp (n c:Nat) (f:FF) (g:1<=n) (l:n<=16) (s:1<=c) (u:c<=16) (o: ∀i j,i<n->j<c->Sz (f i j) 1024):
  ∃e:Int,(e=0↔(n=c/\n<=8/\SymF f n/\uG f n))/\CallC prog 50 [dq (mat n c f)] ⟨[],.raw (.int .i64 e)⟩:=by
 have b:=G4 (mat n c f);by_cases p:n=c
 ·subst p;rw[Py f g l]at b;by_cases t:8<n
  ·refine⟨3,by omega,?_⟩;refine aB func50 rfl ntmps50 (aE (k:=bu [⟨1,_,_,_,b⟩] (k:=aj (ao (ax (k:=aC rfl (aZ (k:=aI @results50))))))))
  by_cases h:SymF f n
  ·have m:=qG n f l o true (by simp[h]);by_cases q:uG f n
   ·have r:=zL n f g l o h true (by simp[q]);refine⟨0,by grind,?_⟩;refine aB func50 rfl ntmps50 (aE (k:=bu [⟨1,_,_,_,b⟩] (k:=aj (ao (ax (k:=aq rfl (bu [⟨1,_,_,_,m⟩] (k:=aq rfl (bu [⟨1,_,_,_,r⟩] (k:=aq rfl (al (aZ (k:=aI @results50)))))))))))))
   have r:=zL n f g l o h false (by simp[q]);refine⟨5,by simp[q],?_⟩;refine aB func50 rfl ntmps50 (aE (k:=bu [⟨1,_,_,_,b⟩] (k:=aj (ao (ax (k:=aq rfl (bu [⟨1,_,_,_,m⟩] (k:=aq rfl (bu [⟨1,_,_,_,r⟩] (k:=aC rfl (aZ (k:=aI @results50))))))))))))
  have m:=qG n f l o false (by simp[h]);refine⟨4,by simp[h],?_⟩;refine aB func50 rfl ntmps50 (aE (k:=bu [⟨1,_,_,_,b⟩] (k:=aj (ao (ax (k:=aq rfl (bu [⟨1,_,_,_,m⟩] (k:=aC rfl (aZ (k:=aI @results50))))))))))
 rw[acX f g p]at b;refine⟨3,by simp[p],?_⟩;refine aB func50 rfl ntmps50 (aE (k:=bu [⟨1,_,_,_,b⟩] (k:=aj (ao (ax (k:=aC rfl (aZ (k:=aI @results50))))))))
theorem Z1 (i j:Nat) (f:FF):((List.range j++[i]).map fun r=>(List.range (j+1)).map (f r))=mat (j+1) (j+1) (vr f i j):=by
 rw[mat,afH,afv,afv]
 congr 1
 ·refine ae1 fun r b=>?_
  have:=afE.1 b;rw[<- afH];exact bG (m:=j+1) fun c _=>by grind [vr]
 simp only[aeX,afh];rw[<- afH]
 congr 1
 exact bG (m:=j+1) fun c _=>by grind [vr]
theorem OG {i:Nat} (h:i<n) (l:m<n) (g: ∀i m,i<n->m<n->Sz (b i m) 1024): ∀r c,r<m+1->c<m+1->Sz (vr b i m r c) 1024:=fun r c o e=>by
 grind [vr]
theorem Ly {n i j:Nat} (h:n<=16) (e:i<n) (g:j<n) (c: ∀i j,i<n->j<n->Sz (b i j) 1024):Sz (lam b i j) 67174400:=
 pK (by omega) (OG e g c)
theorem Io {n k:Nat} (g:n<=16) (e:k<=n) (c: ∀i j,i<n->j<n->Sz (b i j) 1024):Sz (dd b k) 67174400:=by
 grind [dd,ni,pK]
theorem zT (n:Nat) (f:FF) (i j:Nat) (e:n<=16) (m:i<n) (o:j<n) (l: ∀i j,i<n->j<n->Sz (f i j) 1024):
  CallC prog 110 [dq (mat n n f),.raw (.int .i64 (i:Int)),.raw (.int .i64 (j:Int))] ⟨[],tZ (lam f i j)⟩:=by
 have c:=uH n n f (List.range j++[i]) (List.range (j+1)) e e (fun x p=>by
  grind) (fun x p=>by grind) (by simp;omega) (by simp;omega)
 rw[Z1]at c;have h:=gm (j+1) (vr f i j) (by omega) (by omega) (OG m o l);refine aB func110 rfl ntmps110 (aE (k:=aZ (k:=aj (aZ (k:=?_)))));refine ay (G:=fp j) (fun g=>⟨(dq (mat n n f)::rN i::rN j::jk::jk::jk::.one (.ptr 6 0 0 0)::.one (.sl 18 0 0 g.i)::.one (.sl 22 0 0 g.i)::rN g.i::j16 (j4 (j4 ([])))),Hm [(6,sX),(18,[⟨3,1,lc fN (List.range g.i)⟩]),(22,[⟨3,1,lc fN (List.range g.i)⟩])]⟩) (fun g=>j-g.i) ⟨0,by omega⟩ ?_ ?_
 ·refine(ca (k:=7) (d:=18) 3 1 (by omega) rfl rfl).trans ((ca (k:=8) (d:=22) 3 1 (by omega) rfl rfl).trans (ak ⟨rfl,rfl,rfl,trivial⟩ ?_));simp[wk]
 rintro⟨k,q⟩;simp only;by_cases r:k<j
 ·refine aj (ax (k:=aC rfl (al (aj (ao (aF (aG @agR @oL) (k:=dz (aG @agR @oL) (k:=bK (k:=?_)))))))));refine⟨⟨k+1,by omega⟩,by grind,ak ⟨rfl,?_,?_,trivial⟩ ?_⟩
  ·rw[afH];rfl
  ·rw[afH];rfl
  simp[wk]
 have b:k=j:=by omega
 subst b;refine aj (ax (k:=aq rfl (aT ?_)));show bv _ _ _ _;refine iW 9 [⟨9,_,_,_,c⟩,⟨10,_,_,_,h⟩] [] (by simp[wk]) (by decide) fun _ K=>?_;simp(disch:=omega) only[kd,dq,Gq,tZ,aa,Nat.reduceMul,Nat.reduceLeDiff,ae,agR,oL,Nat.reduceBEq];apply K
 refine⟨⟨(j4 (jk::jk::.one (.ptr 6 0 0 0)::j16 (dq (mat n n f)::jk::jk::jk::Gq (List.range k++[i])::jk::jk::jk::Gq (List.range (k+1))::jk::jk::[]))),Hm [(6,sX)]⟩,(bR 18 (bj rfl)).trans ((bR 22 (bj rfl)).trans (ak ⟨rfl,trivial⟩ ?_)),by simp[wk],?_⟩
 ·simp[wk,f5,gn,aK,Hm,ld,jp,afH,aeS]
 intro _ K;simp(disch:=omega) only[kd,dq,Gq,tZ,aa,Nat.reduceBEq];apply K;rw[<- lam]
 (refine aM ⟨.inr rfl,bQ rfl ?_ rfl⟩;simp(disch:=omega) only[kd,results110,aa,tZ])
theorem vy (n:Nat) (f:FF) (k:Nat) (j:n<=16) (h:k<=n):
  CallC prog 111 [qE (yw n f),.raw (.int .i64 (k:Int))] ⟨[],tZ (dd f k)⟩:=by
 have e:=er 1 (by omega) (by omega);by_cases b:k=0
 ·subst b;rw[show dd f 0=1 from rfl];refine aB func111 rfl ntmps111 (aE (k:=aj (ax (k:=aC rfl (bD [⟨0,_,_,_,e⟩] (k:=aI @results111))))))
 rw[show dd f k=detF k f from if_neg b];have g:((k:Int)-1).toNat=k-1:=by omega
 have c:(yw n f)[k-1]?=some (detF k f):=by grind [aw]
 refine aB func111 rfl ntmps111 (aE (k:=aj (ax (k:=aq rfl (al (aF (aG g c) (k:=aI @results111)))))))
theorem NG (n:Nat) (f:FF) (i j:Nat) (c:n<=16) (m:i<n) (o:j<n) (e: ∀i j,i<n->j<n->Sz (f i j) 1024):
  CallC prog 107 [dq (mat n n f),qE (yw n f),.raw (.int .i64 (i:Int)),.raw (.int .i64 (j:Int))] ⟨[],.raw (.bool (decide (2*((lam f i j).natAbs:Int)<=dd f (j+1))))⟩:=by
 have p:=Ly c m o e;have v:=Io (k:=j+1) c (by omega) e;have b:Sz ((lam f i j).natAbs:Int) 67174400:=p.le (by omega);have w:Sz (2*((lam f i j).natAbs:Int)) (1+67174400):=Sz.mul (kA (by decide) (by omega)) b;have q:=er 2 (by omega) (by omega);have r:=zT n f i j c m o e;have s:=TB (lam f i j) (p.mono (by omega));have t:=gu 2 ((lam f i j).natAbs:Int) (kA (by decide) (by omega)) (b.mono (by omega));have h:=vy n f (j+1) c (by omega);rw[show((j+1:Nat):Int)=(j:Int)+1 by omega]at h;have u:=zK (2*((lam f i j).natAbs:Int)) (dd f (j+1)) (w.mono (by omega)) (v.mono (by omega));have g:=EY (2*((lam f i j).natAbs:Int)) (dd f (j+1));generalize lam f i j=l at*
 generalize dd f (j+1)=d at*
 refine aB func107 rfl ntmps107 (aE (k:=ce [⟨0,_,_,_,q⟩,⟨4,_,_,_,r⟩,⟨5,_,_,_,s⟩,⟨6,_,_,_,t⟩,⟨10,_,_,_,h⟩,⟨11,_,_,_,u⟩] g (k:=aI @results107)))
theorem G1 (n:Nat) (f:FF) (i:Nat) (c:n<=16) (r:i<n) (G:0<i) (e: ∀i j,i<n->j<n->Sz (f i j) 1024):
  CallC prog 112 [dq (mat n n f),qE (yw n f),.raw (.int .i64 (i:Int))] ⟨[],.raw (.bool (decide (3*(dd f i*dd f i)<=4*(dd f (i-1)*dd f (i+1)+lam f i (i-1)*lam f i (i-1)))))⟩:=by
 have g:=Ly (j:=i-1) c r (by omega) e;have d0:=Io (k:=i-1) c (by omega) e;have d1:=Io (k:=i) c (by omega) e;have d2:=Io (k:=i+1) c (by omega) e;have m:=zT n f i (i-1) c r (by omega) e;have o:=vy n f (i-1) c (by omega);have p:=vy n f (i+1) c (by omega);have q:=vy n f i c (by omega);rw[show((i+1:Nat):Int)=(i:Int)+1 by omega]at p;rw[show((i-1:Nat):Int)=(i:Int)-1 by omega]at m o;have D:=er 4 (by omega) (by omega);have C:=er 3 (by omega) (by omega);generalize lam f i (i-1)=l at*
 generalize dd f (i-1)=a at*
 generalize dd f (i+1)=b at*
 generalize dd f i=d at*
 have s:Sz (a*b) 134348800:=(d0.mul d2).mono (by omega);have t:Sz (l*l) 134348800:=(g.mul g).mono (by omega);have u:Sz (a*b+l*l) 134348801:=s.add t;have E:Sz (4*(a*b+l*l)) 134348802:=(Sz.mul (kA (k:=1) (by decide) (by omega)) u).mono (by omega);have v:Sz (d*d) 134348800:=(d1.mul d1).mono (by omega);have F:Sz (3*(d*d)) 134348802:=(Sz.mul (kA (k:=1) (by decide) (by omega)) v).mono (by omega);have w:=gu a b (d0.mono (by omega)) (d2.mono (by omega));have x:=gu l l (g.mono (by omega)) (g.mono (by omega));have m3:=ql (a*b) (l*l) (s.mono (by omega)) (t.mono (by omega));have y:=gu 4 (a*b+l*l) (kA (by decide) (by omega)) (u.mono (by omega));have z:=gu d d (d1.mono (by omega)) (d1.mono (by omega));have A:=gu 3 (d*d) (kA (by decide) (by omega)) (v.mono (by omega));have B:=zK (4*(a*b+l*l)) (3*(d*d)) (E.mono (by omega)) (F.mono (by omega));have h:=YG (4*(a*b+l*l)) (3*(d*d));refine aB func112 rfl ntmps112 (aE (k:=bD [⟨4,_,_,_,m⟩] (k:=dR [⟨0,_,_,_,D⟩,⟨4,_,_,_,o⟩,⟨8,_,_,_,p⟩,⟨9,_,_,_,w⟩,⟨12,_,_,_,x⟩,⟨13,_,_,_,m3⟩,⟨14,_,_,_,y⟩] (k:=dF [⟨1,_,_,_,C⟩,⟨4,_,_,_,q⟩,⟨7,_,_,_,q⟩,⟨8,_,_,_,z⟩,⟨9,_,_,_,A⟩,⟨10,_,_,_,B⟩] h (k:=aI @results112)))))
structure RdG (n:Nat) (f:FF) where
 i:Nat
 hi:i<=n
 ok: ∀a,a<i->(∀b,b<a->SizF f a b)/\(0<a->LovF f a)
structure RdJ (n i:Nat) (f:FF) where
 j:Nat
 hj:j<=i
 ok: ∀b,b<j->SizF f i b
theorem RM (n:Nat) (f:FF) (v:1<=n) (u:n<=16) (o: ∀i j,i<n->j<n->Sz (f i j) 1024) (r:Bool) (w:r=true↔abA f n):
  CallC prog 91 [dq (mat n n f)] ⟨[],.raw (.bool r)⟩:=by
 have z:=kB n f v u o;have t:=aS n n f;refine aB func91 rfl ntmps91 (aE (k:=fJ [⟨1,_,_,_,z⟩] @Zd.eq_1 (k:=aj (d9 t (k:=?_)))));refine ay (G:=RdG n f) (fun g=>⟨(dq (mat n n f)::jk::.raw (.bool false)::qE (yw n f)::j4 (j4 (jk::rN n::rN g.i::j16 (j4 (jk::jk::jk::[]))))),Hm []⟩) (fun g=>n-g.i) ⟨0,by omega,fun a l=>by omega⟩ ?_ ?_
 ·refine ak trivial ?_;simp[wk]
 rintro⟨i,C,ok⟩;simp only;by_cases m:i<n
 ·refine ax (k:=aP rfl (aj (ao (aZ (k:=aj (aZ (k:=?_)))))));refine ay (G:=RdJ n i f) (fun g=>⟨(dq (mat n n f)::jk::.raw (.bool false)::qE (yw n f)::jk::rN i::rN g.j::j4 (jk::jk::rN n::rN i::j16 (j4 (jk::jk::jk::[])))),Hm []⟩) (fun g=>i-g.j) ⟨0,by omega,fun a l=>by omega⟩ ?_ ?_
  ·refine ak trivial ?_;simp[wk]
  rintro⟨j,D,A⟩;simp only;by_cases s:j<i
  ·have c:=NG n f i j u m (by omega) o;by_cases h:SizF f i j
   ·rw[decide_eq_true (show 2*((lam f i j).natAbs:Int)<=dd f (j+1)from h)]at c;refine aj (ax (k:=aC rfl (al (aj (ao (bu [⟨4,_,_,_,c⟩] (k:=aq rfl (al (bK (k:=?_))))))))));refine⟨⟨j+1,by omega,fun b B=>?_⟩,by simp only;omega,ak trivial ?_⟩
    ·grind
    simp[wk]
   have e:r=false:=by
    cases r with
    |false=>rfl
    |true=>exact absurd ((w.1 rfl i m).1 j s) h
   subst e;rw[decide_eq_false (show ¬2*((lam f i j).natAbs:Int)<=dd f (j+1)from h)]at c;refine aj (ax (k:=aC rfl (al (aj (ao (bu [⟨4,_,_,_,c⟩] (k:=aC rfl (aZ (k:=aI @results91)))))))))
  have q:j=i:=by omega
  subst q;refine aj (ax (k:=aq rfl (aT ?_)));show bv _ _ _ _;by_cases y:0<j
  ·have c:=G1 n f j u m y o;by_cases h:LovF f j
   ·rw[decide_eq_true (show 3*(dd f j*dd f j)<=4*(dd f (j-1)*dd f (j+1)+lam f j (j-1)*lam f j (j-1))from h)]at c;refine bD [⟨6,_,_,_,c⟩] (k:=aq rfl (al (bK (k:=?_))));refine⟨⟨j+1,by omega,fun a l=>?_⟩,by simp only;omega,ak trivial ?_⟩
    ·grind
    simp[wk]
   have e:r=false:=by
    cases r with
    |false=>rfl
    |true=>exact absurd ((w.1 rfl j m).2 y) h
   subst e;rw[decide_eq_false (show ¬3*(dd f j*dd f j)<=4*(dd f (j-1)*dd f (j+1)+lam f j (j-1)*lam f j (j-1))from h)]at c;refine bD [⟨6,_,_,_,c⟩] (k:=aC rfl (aZ (k:=aI @results91)))
  have p:j=0:=by omega
  subst p;refine ax (k:=aq rfl (al (bK (k:=?_))));refine⟨⟨1,by omega,fun a l=>?_⟩,by simp only;omega,ak trivial ?_⟩
  ·grind
  simp[wk]
 have x:r=true:=w.2 fun a l=>ok a (by omega)
 subst x;refine ax (k:=aQ rfl (aZ (k:=aI @results91)))
def ju (z:Int):Prop:= -9223372036854775808<=z/\z<=9223372036854775807
theorem ju.sz (h:ju x) {k:Nat} (b:2<=k):Sz x k:=by
 have:Sz x 2:=by
  unfold Sz;have:=h.1;have:=h.2;omega
 exact this.mono b
theorem acY (e:1<=n):Sq (mat n m b)↔n=m:=by
 grind [Sq,mat,az]
theorem Kv {g:FF} (h: ∀i j,i<n->j<n->b i j=g i j) (q:RedR b n):RedR g n:=by
 obtain⟨y,z,A,o⟩:=q;have x: ∀k,k<=n->dk g k=dk b k:=fun k u=>cy fun i j e s=>(h i j (by omega) (by omega)).symm
 have w: ∀t i,t<n->i<n->bk g t i t=bk b t i t:=fun t i m e=>by
  have v:dk (vr g i t) (t+1)=bk g t i t:=K9 (fun r c B p=>by grind [vr]) (fun c p=>by grind [vr]);grind [vr,K9]
 refine⟨fun i e j s=>by grind,fun k u=>by grind,by grind,fun t m=>⟨fun i e l=>?_,?_⟩⟩
 ·have:=(o t m).1 i e l;grind
 grind [X0]
theorem zZ (e:1<=n):Ta (mat n m b)↔n=m/\n<=4/\RedR b n:=by
 grind [Ta,aS,acY,Kv,mj]
theorem Jo {M:List (List Int)} (h:isReducedM M=true): ∃n f,M=mat n n f/\1<=n/\n<=4/\RedR f n:=by
 obtain⟨c,g,e,b⟩:=(iL M).1 h;refine⟨M.length,ent M,OP fun r b=>?_,c,g,b⟩;obtain⟨i,j⟩:=afo.1 b;exact e.at_ j
theorem nu (M:List (List Int)) (r:isReducedM M=true):CallC prog 41 [bV M] ⟨[],.raw (.bool true)⟩:=by
 obtain⟨n,f,rfl,b,p,o⟩:=Jo r;have m:=iZ b p o;obtain⟨v,w,x,y⟩:=(Ga b).2 o;have c: ∀i j,i<n->j<n->Sz (f i j) 1024:=fun i j g h=>by
  have:=m i g j h;exact Sz.mono (k:=1) (show _<_ by omega) (by omega)
 have q:=zN n n f b (by omega) b (by omega) (fun i j g h=>by have:=m i g j h;omega);obtain⟨e,u,t⟩:=tp n n f b (by omega) b (by omega) c;obtain rfl:=u.2 ⟨rfl,by omega,v,w⟩;have l:=JG n f b (by omega) c;rw[decide_eq_true x]at l;have s:=RM n f b (by omega) c true (by grind [Ga]);refine aB func41 rfl ntmps41 (aE (k:=fJ [⟨1,_,_,_,q⟩] @fiY.eq_1 (k:=bD [⟨3,_,_,_,t⟩,⟨8,_,_,_,l⟩,⟨12,_,_,_,s⟩] (k:=aI @results41))))
structure InG (x:List Int) where
 i:Nat
 hi:i<=x.length
 ok: ∀j c,j<i->x[j]?=some c-> -1099511627776<=c/\c<=1099511627776
theorem II (x:List Int):CallC prog 122 [d7 x] ⟨[],.raw (.bool (CQ x))⟩:=by
 refine Qz 0 (ls fI x) rfl (fun b=>?_) (by kernel_rfl);rw[iM]at b;refine aB func122 rfl ntmps122 (aE (k:=aj (aZ (k:=?_))));refine ay (G:=InG x) (fun g=>⟨(jk::jk::.raw (.bool false)::jk::jk::d7 x::rN x.length::rN g.i::j4 (j4 (jk::jk::[]))),Hm []⟩) (fun g=>x.length-g.i) ⟨0,by omega,fun j c n=>by omega⟩ ?_ ?_
 ·refine ak trivial ?_;simp[wk]
 rintro⟨i,m,ok⟩;simp only;by_cases l:i<x.length
 ·obtain⟨c,e⟩:=getElem?_of_lt l;refine ax (k:=aP rfl (aj (ao (aF e (k:=?_)))));by_cases f:c< -1099511627776
  ·rw[C9 e (.inl f)];refine ax (k:=aC rfl (aZ (k:=aI @results122)))
  by_cases h:1099511627776<c
  ·rw[C9 e (.inr h)];refine ax (k:=aC rfl (aZ (k:=aI @results122)))
  refine ax (k:=aq rfl (al (bK (k:=?_))));refine⟨⟨i+1,by omega,SN ok e (by omega)⟩,by grind,ak trivial ?_⟩;simp[wk]
 rw[zR (k:=i) (by omega) ok];refine ax (k:=aQ rfl (aZ (k:=aI @results122)))
theorem uD (x:List Int) (p:x.length<=16) (m: ∀z∈x,ju z):CallC prog 152 [d7 x] ⟨[],qE x⟩:=by
 refine aB func152 rfl ntmps152 (aE (k:=aZ (k:=aj (aZ (k:=?_)))));refine ay (G:=SeG x.length) (fun g=>⟨(jk::jk::.raw (.slice none 0 0)::.one (.sl 16 0 0 g.i)::jk::jk::d7 x::rN x.length::rN g.i::j4 (j4 (jk::jk::[]))),Hm [(16,[⟨65,2,lc fZ (x.take g.i)⟩])]⟩) (fun g=>x.length-g.i) ⟨0,by omega⟩ ?_ ?_
 ·refine(ca (k:=3) (d:=16) 65 2 (by omega) rfl rfl).trans (ak ⟨rfl,trivial⟩ ?_);simp[wk]
 rintro⟨i,o⟩;simp only;by_cases n:i<x.length
 ·obtain⟨c,f⟩:=getElem?_of_lt n;have b:=m c (adQ f);have h:=er c b.1 b.2;have j:(x.take i).length=i:=by simp;omega
  have l:x.take i++[c]=x.take (i+1):=by grind [List.take_add_one]
  refine ax (k:=aP rfl (aj (ao (aF f (k:=nU [⟨2,_,_,_,h⟩] (aG j (aG @oM l)) (k:=bK (k:=?_)))))));refine⟨⟨i+1,by omega⟩,by grind,ak ⟨rfl,trivial⟩ ?_⟩;simp[wk]
 have e:i=x.length:=by omega
 subst e;refine ax (k:=aQ rfl (aZ (k:=?_)));refine aM ⟨.inr rfl,dI 16 (bj rfl) ?_ rfl⟩;simp(disch:=omega) only[kd,results152,afS,qE]
theorem jX {x y:List Int} {b c:Nat} (e: ∀i,Sz (x.getD i 0) b) (f: ∀i,Sz (y.getD i 0) c): ∀l,Sz (gG x y l) (b+c+l)
 |0=>mu _
 |l+1=>by
  show Sz (gG x y l+x.getD l 0*y.getD l 0) _;exact(jX e f l).add (((e l).mul (f l)).mono (by omega))
theorem eM {x:List Int} (h: ∀z∈x,Sz z n) (i:Nat):Sz (x.getD i 0) n:=by
 grind [mu]
theorem C8 (x y:List Int) (v:x.length<=16) (t:x.length<=y.length) (j: ∀z∈x,Sz z 16777216) (m: ∀z∈y,Sz z 67108864):CallC prog 153 [qE x,qE y] ⟨[],tZ (gG x y x.length)⟩:=by
 refine aB func153 rfl ntmps153 (aE (k:=ax (k:=aj (aZ (k:=?_)))));refine ay (G:=SeG x.length) (fun g=>⟨(qE x::qE y::jk::jk::.one (.ptr 4 0 0 0)::.one (.ptr 5 0 0 0)::jk::jk::jk::rN x.length::rN g.i::j4 (j4 (j4 (jk::jk::jk::[])))),Hm [(4,sX),(5,oh (gG x y g.i))]⟩) (fun g=>x.length-g.i) ⟨0,by omega⟩ ?_ ?_
 ·refine(io 5).trans (ak ⟨rfl,?_,trivial⟩ ?_)
  ·show _=oh 0;simp[zH,aK,zO,GP,GV,oh,uy,cX,ls]
  simp[wk]
 rintro⟨i,u⟩;simp only;have s:=jX (eM j) (eM m) i;by_cases r:i<x.length
 ·obtain⟨a,f⟩:=getElem?_of_lt r;obtain⟨b,h⟩:=getElem?_of_lt (l:=y) (k:=i) (by omega);have n:=j a (adQ f);have o:=m b (adQ h);have p:=gu a b (n.mono (by omega)) (o.mono (by omega));have e:=ql (gG x y i) (a*b) (s.mono (by omega)) ((n.mul o).mono (by omega));have q:gG x y i+a*b=gG x y (i+1):=by
   grind [gG]
  rw[q]at e;refine ax (k:=aP rfl (aj (ao (aZ (k:=fP [⟨9,_,_,_,p⟩,⟨10,_,_,_,e⟩] (aG f h) (k:=bK (k:=?_)))))));refine⟨⟨i+1,by omega⟩,by grind,ak ⟨rfl,rfl,trivial⟩ ?_⟩;simp[wk]
 have c:i=x.length:=by omega
 subst c;refine ax (k:=aQ rfl (ax (k:=aI @results153)))
abbrev NR (n c:Nat) (f:FF) (y:List Int):List Int:=aA n fun i=>gG (aA c (f i)) y c
theorem Nv (n c:Nat) (f:FF) (y:List Int) (b:1<=n) (x:n<=16) (h:1<=c) (u:c<=16) (C:y.length=c) (v: ∀i j:Nat,Sz (f i j) 1024) (A: ∀z∈y,Sz z 65536):
  CallC prog 205 [dq (mat n c f),qE y] ⟨[],.tup [(false,[.p (.sl (ls fZ (NR n c f y)))]),(false,[.p (.raw (.bool true))])]⟩:=by
 have r:=ph (mat n c f);rw[jx (mo f b x h u),aS,j7 f b]at r;have m:=aS n c f;refine aB func205 rfl ntmps205 (aE (k:=bu [⟨1,_,_,_,r⟩] (k:=aj (ax (k:=aq rfl (al (aZ (k:=aj (d9 m (k:=?_))))))))));refine ay (G:=fp n) (fun g=>⟨(jk::qE y::jk::jk::.raw (.slice none 0 0)::.raw (.bool false)::jk::jk::jk::.one (.sl 37 0 0 g.i)::j16 (dq (mat n c f)::rN n::rN g.i::j4 (j4 (jk::jk::jk::[])))),Hm [(37,[⟨65,2,lc fZ (NR g.i c f y)⟩])]⟩) (fun g=>n-g.i) ⟨0,by omega⟩ ?_ ?_
 ·refine(ca (k:=9) (d:=37) 65 2 (by omega) rfl rfl).trans (ak ⟨rfl,trivial⟩ ?_);simp[wk]
 rintro⟨i,B⟩;simp only;by_cases w:i<n
 ·have e:=bA c f w;have q:=C8 (aA c (f i)) y (by rw[az];omega) (by rw[az];omega) (fun z o=>by
   obtain⟨j,_,rfl⟩:=aeL.1 o;exact(v i j).mono (by omega)) (fun z o=>(A z o).mono (by omega))
  rw[az]at q;have s:lc fZ (NR i c f y)++[[.p (.raw (.bool (decide (gG (aA c (f i)) y c<0)))),.p (.sl (ls fU (aD (gG (aA c (f i)) y c).natAbs)))]]=lc fZ (NR (i+1) c f y):=by
   grind [oM,kS]
  refine ax (k:=aP rfl (aj (ao (aF e (k:=nU [⟨3,_,_,_,q⟩] (aG @az s) (k:=bK (k:=?_)))))));refine⟨⟨i+1,by omega⟩,by grind,ak ⟨rfl,trivial⟩ ?_⟩;simp[wk]
 have l:i=n:=by omega
 subst l;refine ax (k:=aQ rfl (aZ (k:=?_)));refine aM ⟨.inr rfl,dI 37 (bj rfl) ?_ rfl⟩;have t:List.take i (NR i c f y)=NR i c f y:=aeS (by rw[az];omega);simp(disch:=omega) only[kd,results205,t]
abbrev tvI (v:Int) (b:Bool):TV:= .tup [(false,[.p (.raw (.int .i64 v))]),(false,[.p (.raw (.bool b))])]
end Go.Proofs.YtalmoejhjceflaaGreat
