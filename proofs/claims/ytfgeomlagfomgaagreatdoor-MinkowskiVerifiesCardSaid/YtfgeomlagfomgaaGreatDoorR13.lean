/-
  Part 14 of a proof (walks and plain facts).
-/
import Derived.Test.YtfgeomlagfomgaaGreatDoorR12
set_option linter.all false
set_option maxRecDepth 100000
set_option maxHeartbeats 64000000
open Nat renaming reduceAdd → aa
open Nat renaming reduceEqDiff → ab
open List renaming replicate → ae
open Nat renaming reduceBEq → af
open Nat renaming reduceLeDiff → ah
open List renaming getElem?_eq_none → aq
open List renaming mem_of_getElem? → au
open List renaming getElem?_map → ax
namespace Go.Proofs.YtfgeomlagfomgaaGreatDoor
open Go.RowKit
theorem jc {P:Program} {c z:Code} {Q:Exit->AS->Prop} {s S:AS} (h1:bf P c (mf (fun s'=>b8 s' S) Q) s) (h2:bf P z Q S):bf P c (mf (bf P z Q) Q) s:=h1.mono fun e s' h=>by
 cases e with
 |normal=>exact bf.weak h h2
 |_=>exact h
theorem Sz.mul {a b:Int} {k l:Nat} (ha:Sz a k) (hb:Sz b l):Sz (a*b) (k+l):=by
 unfold Sz at*;rw[Int.natAbs_mul,Nat.pow_add];exact Nat.mul_lt_mul'' ha hb
theorem Sz.sub {a b:Int} {k:Nat} (ha:Sz a k) (hb:Sz b k):Sz (a-b) (k+1):=by
 unfold Sz at*
 have:=Int.natAbs_sub_le a b;rw[Nat.pow_succ];generalize 4294967296^k=p at*
 omega
theorem Sz.add {a b:Int} {k:Nat} (ha:Sz a k) (hb:Sz b k):Sz (a+b) (k+1):=by
 unfold Sz at*
 have:=Int.natAbs_add_le a b;rw[Nat.pow_succ];generalize 4294967296^k=p at*
 omega
theorem Sz.ediv {a:Int} {k:Nat} (ha:Sz a k) (b:Int):Sz (a/b) k:=ha.le (Int.natAbs_ediv_le_natAbs a b)
theorem CB {f:FF} {n k:Nat}: ∀m p,n-p=m->piv f n k p<n->p<=piv f n k p/\f (piv f n k p) k≠0
 |0,p,hm,h=>by rw[nZ (by omega)]at h;omega
 |m+1,p,hm,h=>by
  by_cases h0:f p k=0
  ·rw[rc (by omega) h0]at h⊢;have:=CB m (p+1) (by omega) h;exact⟨by omega,this.2⟩
  rw[rb (by omega) h0]at h⊢;exact⟨by omega,h0⟩
theorem yw {f:FF} {n k:Nat}: ∀m p,n-p=m->piv f n k p<=n
 |0,p,hm=>by rw[nZ (by omega)];omega
 |m+1,p,hm=>by
  by_cases h0:f p k=0
  ·rw[rc (by omega) h0];exact yw m (p+1) (by omega)
  rw[rb (by omega) h0];omega
def d6 (k:Nat) (last:Int) (g:FF) (i j:Nat):Nat->Nat->Int:=fun a b=>if k<a/\k<b/\(a<i\/(a=i/\b<j))then(g k k*g a b-g a k*g k b)/last else g a b
theorem El {k i j:Nat} (last:Int) (g:FF) (hi:k<i) (hj:k<j) (a b:Nat):upd (d6 k last g i j) i j ((g k k*g i j-g i k*g k j)/last) a b=d6 k last g i (j+1) a b:=by
 unfold upd d6;by_cases h1:a=i
 ·subst h1;by_cases h2:b=j
  ·subst h2;simp[hi,hj]
  have:b<j+1↔b<j:=by omega
  simp[h2,this]
 simp[h1]
theorem Je {k n:Nat} (last:Int) (g:FF) (i a b:Nat) (hb:b<n):d6 k last g i n a b=d6 k last g (i+1) (k+1) a b:=by
 unfold d6;have:(k<a/\k<b/\(a<i\/a=i/\b<n))↔(k<a/\k<b/\(a<i+1\/a=i+1/\b<k+1)):=by omega
 simp only[this]
theorem Em (k:Nat) (last:Int) (g:FF):d6 k last g (k+1) (k+1)=g:=by
 funext a b;unfold d6;rw[if_neg (by omega)]
theorem Jd {k n:Nat} (last:Int) (g:FF) (a b:Nat) (ha:a<n):d6 k last g n (k+1) a b=Jf k last g a b:=by
 unfold d6 Jf;have:(k<a/\k<b/\(a<n\/a=n/\b<k+1))↔(k<a/\k<b):=by omega
 simp only[this]
theorem iz {k i j a b:Nat} (last:Int) (g:FF) (h: ¬(k<a/\k<b/\(a<i\/(a=i/\b<j)))):d6 k last g i j a b=g a b:=by
 unfold d6;rw[if_neg h]
theorem yl {d n p k:Nat} (g:FF) (hp:p<n) (hk:k<n) (hne:k≠p) (r:Nat):(gK d n n (swp p k g))[r]?=
  (((⟨84,1,((fO d (ae n n)).set p [.sl d (k+1) 0 n]).set k [.sl d (p+1) 0 n]⟩::(mat n n g).map mn:List OObj))[sw (p+1) (k+1) r]?).map (y7 d (p+1) (k+1)):=by
 cases r with
 |zero=>
  rw[show sw (p+1) (k+1) 0=0 by simp[sw]];simp only[List.getElem?_cons_zero,Option.map_some,y7]
  congr 2
  apply List.ext_getElem?;intro i;rw[ax,List.getElem?_set,List.getElem?_set,List.length_set,cq,List.length_replicate];by_cases hi:i<n
  ·rw[bK d n hi];by_cases h1:k=i
   ·subst h1;simp[hi,k9,pN,sw]
   by_cases h2:p=i
   ·subst h2;simp[h1,hi,k9,pN,sw]
   have h1': ¬i=k:=fun e=>h1 e.symm
   have h2': ¬i=p:=fun e=>h2 e.symm
   simp[h1,h2,h1',h2',k9,pN,sw]
  have h1: ¬k=i:=by omega
  have h2: ¬p=i:=by omega
  rw[if_neg h1,if_neg h2,aq (by rw[cq,List.length_replicate];omega)];rfl
 |succ r=>
  have hsw:sw (p+1) (k+1) (r+1)=sw p k r+1:=by
   unfold sw;by_cases h1:r=p
   ·simp[h1]
   by_cases h2:r=k
   ·simp[h1,h2,hne]
   simp[h1,h2]
  have hO: ∀l:List Int,y7 d (p+1) (k+1) (mn l)=mn l:=fun l=>by
   simp only[y7,mn,lc,List.map_map]
   congr 1
  rw[hsw,List.getElem?_cons_succ,List.getElem?_cons_succ,ax,ax];by_cases hr:r<n
  ·have hs:sw p k r<n:=by unfold sw;split<;>(try split)<;>omega
   rw[bs _ _ hr,bs _ _ hs];simp only[Option.map_some,hO]
   congr 3
   unfold swp sw;by_cases h1:r=p
   ·simp[h1]
   by_cases h2:r=k
   ·simp[h1,h2,hne]
   simp[h1,h2]
  have hs: ¬sw p k r<n:=by unfold sw;rw[if_neg (by omega),if_neg (by omega)];exact hr
  rw[aq (by rw[aU];omega),aq (by rw[aU];omega)];rfl
structure Rg (n:Nat) (f:FF) where
 k:Nat
 g:Nat->Nat->Int
 last:Int
 neg:Bool
 b:Nat
 hk:k<=n
 hv:detG n k g last neg=detF n f
 hl:last≠0
 hb:b+1<=1025*2^k
 sg: ∀i j,i<n->j<n->Sz (g i j) b
 sl:Sz last b
structure Rj (n k:Nat) (g:FF) where
 p:Nat
 hkp:k<=p
 hp:p<=n
 hv:piv g n k p=piv g n k k
structure QB (n k:Nat) where
 i:Nat
 hk:k+1<=i
 hi:i<=n
abbrev qy (v:Int):List OObj:=yX (decide (v<0)) (aQ v.natAbs)
theorem sN:sg 0=0:=rfl
theorem EA {z:Int} (h:z≠0):sg z≠0:=by unfold sg;split<;>simp[h]
theorem ip {k:Nat} (h:k<=16):2^k<=65536:=Nat.pow_le_pow_right (n:=2) (by omega) h
theorem f7 (n:Nat) (f:FF) (hn1:1<=n) (hn:n<=16) (hf: ∀i j,i<n->j<n->Sz (f i j) 1024):
  CallC Tryz.prog 22 [slM (mat n n f)] ⟨[],tZ (detF n f)⟩:=by
 have hC:=G4 n n f (by omega) hn1 (by omega) (fun i j hi hj=>(hf i j hi hj).mono (by omega));have hS:=fX 1 (by omega) (by omega);refine aI Tryz.func22 rfl (by kernel_rfl) ?_;rw[Tryz.ntmps22];refine aC fun _ K=>?_;simp(disch:=omega) only[kd,slM,ae,aa];apply K
 refine aF [⟨1,_,_,_,hC⟩] [] fun _ K=>?_;simp only[kd,slM,aa,ab];apply K
 refine aC fun _ K=>?_;simp only[kd,aa];apply K
 refine aF [⟨0,_,_,_,hS⟩] [] fun _ K=>?_;simp(disch:=omega) only[kd,tZ,aa,ab];apply K
 refine aD (aC fun _ K=>?_);simp only[kd];apply K;refine aT (G:=Rg n f) (fun g=>⟨(jk::jk::.one (.ptr 2 0 0 0)::.one (.sl 12 0 0 n)::rN n::.one (.ptr 5 0 0 0)::.raw (.bool g.neg)::rN g.k::j16 (j16 (j16 (j16 (j16 (j16 (j16 (j4 (jk::[]))))))))),Hm [(2,qL),(5,qy g.last),(12,gK 12 n n g.g)]⟩) (fun g=>n-g.k) ⟨0,f,1,false,1024,by omega,rfl,by omega,by omega,hf,l4 (by omega)⟩ ?_ ?_
 ·refine aE ⟨rfl,rfl,?_,trivial⟩ ?_
  ·exact gu 0 12 n n f
  simp[wk]
 rintro⟨k,g,last,neg,b,hk,hv,hl,hb,sgz,slz⟩;simp only;by_cases hm:k<n
 ·have h2k:=ip (k:=k) (by omega);have hbb:b<=67174400:=by omega
  have hvk:detG n k g last neg=if piv g n k k=n then 0 else detG n (k+1) (Jf k last (K6 n k g)) (K6 n k g k k) (neg !=decide (k<piv g n k k)):=by rw[detG,if_pos hm]
  refine aD (aC fun _ K=>?_);simp(disch:=omega) only[kd,aa];apply K;refine aS rfl (aK ?_);refine aD (aJ ?_);refine aC fun _ K=>?_;simp only[kd];apply K
  refine aD (jc (S:=⟨(jk::jk::.one (.ptr 2 0 0 0)::.one (.sl 12 0 0 n)::rN n::.one (.ptr 5 0 0 0)::.raw (.bool neg)::rN k::.raw (.int .i64 ((piv g n k k:Nat):Int))::j16 (j16 (j16 (j16 (j16 (j16 (j16 (j4 ([]))))))))),Hm [(2,qL),(5,qy last),(12,gK 12 n n g)]⟩) ?_ ?_)
  ·refine aT (G:=Rj n k g) (fun q=>⟨(jk::jk::.one (.ptr 2 0 0 0)::.one (.sl 12 0 0 n)::rN n::.one (.ptr 5 0 0 0)::.raw (.bool neg)::rN k::rN q.p::j16 (j16 (j16 (j16 (j16 (j16 (j16 (j4 ([]))))))))),Hm [(2,qL),(5,qy last),(12,gK 12 n n g)]⟩) (fun q=>n-q.p) ⟨k,by omega,by omega,rfl⟩ ?_ ?_
   ·refine aE ⟨rfl,rfl,rfl,trivial⟩ ?_;simp[wk]
   rintro⟨p,hkp,hp,hpv⟩;simp only;by_cases hpn:p<n
   ·have g1:=bK (n:=n) (i:=p) 12 n hpn;have g2:=em n g hpn;have g3:=aR (g p) hm;have hSg:=ng (g p k) ((sgz p k hpn hm).mono (by omega));by_cases h0:g p k=0
    ·rw[h0]at hSg g3;refine aD (aF [⟨11,_,_,_,hSg⟩] [] fun _ K=>?_);simp(disch:=omega) only[kd,tZ,sN,aa,ab,g1,g2,fZ,g3];apply K;refine aS rfl (aK ?_);refine aJ ?_;refine aL fun _ K=>?_;simp(disch:=omega) only[kd,aa,aO];apply K
     refine⟨⟨p+1,by omega,by omega,?_⟩,by simp only;omega,aE ⟨rfl,rfl,rfl,trivial⟩ ?_⟩
     ·rw[<- hpv,rc hpn h0]
     simp[wk]
    have hs0:=EA h0;refine aD (aF [⟨11,_,_,_,hSg⟩] [] fun _ K=>?_);simp(disch:=omega) only[kd,tZ,aa,ab,g1,g2,fZ,g3];apply K;refine aN rfl (bE ?_);show b8 _ _;have hpe:piv g n k k=p:=by rw[<- hpv,rb hpn h0]
    refine aE ⟨rfl,rfl,rfl,trivial⟩ ?_;simp[wk,hpe]
   have hpe:piv g n k k=p:=by rw[<- hpv,nZ hpn];omega
   refine aD (aC fun _ K=>?_);simp(disch:=omega) only[kd,aa];apply K;refine aN rfl (bE ?_);show b8 _ _;refine aE ⟨rfl,rfl,rfl,trivial⟩ ?_;simp[wk,hpe]
  have hpl:=yw (f:=g) (n:=n) (k:=k) (n-k) k rfl;have hpn':=CB (f:=g) (n:=n) (k:=k) (n-k) k rfl;generalize hpp:piv g n k k=p at*
  by_cases hpn:p=n
  ·rw[if_pos hpn]at hvk;refine aD (aC fun _ K=>?_);simp(disch:=omega) only[kd,aa];apply K;refine aS rfl ?_;refine aC fun _ K=>?_;simp(disch:=omega) only[kd,ab,aa];apply K
   refine bf.weak (eK 2) ?_;refine aH ⟨.inr rfl,aG rfl ?_ rfl⟩;rw[<- hv,hvk];simp(disch:=omega) only[kd,Tryz.results22,zH,ab,zO,yV,y9,aa,tZ];simp[ci,ls]
  rw[if_neg hpn]at hvk;obtain⟨hkp,hpk0⟩:=hpn' (by omega);refine aD (aC fun _ K=>?_);simp(disch:=omega) only[kd,aa];apply K;refine aN rfl (aK ?_);show bf _ _ _ _;refine aD (aC fun _ K=>?_);simp only[kd,aa];apply K;refine jc (S:=⟨(jk::jk::.one (.ptr 2 0 0 0)::.one (.sl 12 0 0 n)::rN n::.one (.ptr 5 0 0 0)::.raw (.bool (neg !=decide (k<p)))::rN k::j16 (j16 (j16 (j16 (j16 (j16 (j16 (j4 (jk::[]))))))))),Hm [(2,qL),(5,qy last),(12,gK 12 n n (swp p k g))]⟩) ?_ ?_
  ·by_cases hlt:k<p
   ·have g1:=bK (n:=n) (i:=p) 12 n (by omega);have g2:=bK (n:=n) (i:=k) 12 n (by omega);refine bP rfl (fun _=>?_) (fun h=>by simp at h<;>omega);have g4:((fO 12 (ae n n)).set p [.sl 12 (k+1) 0 n])[k]?=some [.sl 12 (k+1) 0 n]:=by
     rw[List.getElem?_set_ne (by omega),g2]
    refine b9 aW (by kernel_rfl) fun _ K=>?_;simp(disch:=omega) only[kd,aa,ab,g2,g1,g4,ah,reduceCtorEq];apply K
    refine aL fun _ K=>?_;simp only[kd,aa];apply K
    refine(si 12 (p+1) (k+1) (gK 12 n n (swp p k g)) (yl g (by omega) hm (by omega))).trans (aE ⟨rfl,rfl,rfl,trivial⟩ ?_);simp[wk,Gz,k9,pN,sw,hlt]
   have hpk:p=k:=by omega
   subst hpk;refine bP rfl (fun h=>by simp at h<;>omega) (fun _=>aK ?_);show b8 _ _;rw[qr];refine aE ⟨rfl,rfl,rfl,trivial⟩ ?_;simp[wk]
  rw[K6,hpp]at hvk;have hkk:swp p k g k k≠0:=by
   unfold swp;by_cases h:k=p
   ·subst h;rw[if_pos rfl];exact hpk0
   rw[if_neg h,if_pos rfl];exact hpk0
  have hsz: ∀i j,i<n->j<n->Sz (swp p k g i j) b:=fun i j hi hj=>by
   unfold swp;split
   ·exact sgz k j hm hj
   split
   ·exact sgz p j (by omega) hj
   exact sgz i j hi hj
  generalize swp p k g=g' at*
  generalize(neg !=decide (k<p))=neg' at*
  refine aD (aC fun _ K=>?_);simp(disch:=omega) only[kd,aa,aO];apply K;refine aT (G:=QB n k) (fun q=>⟨(jk::jk::.one (.ptr 2 0 0 0)::.one (.sl 12 0 0 n)::rN n::.one (.ptr 5 0 0 0)::.raw (.bool neg')::rN k::jk::rN q.i::j16 (j16 (j16 (j16 (j16 (j16 (j16 (jk::jk::jk::[])))))))),Hm [(2,qL),(5,qy last),(12,gK 12 n n (d6 k last g' q.i (k+1)))]⟩) (fun q=>n-q.i) ⟨k+1,by omega,by omega⟩ ?_ ?_
  ·rw[Em];refine aE ⟨rfl,rfl,rfl,trivial⟩ ?_;simp[wk]
  rintro⟨i,hki,hin⟩;simp only;by_cases hi:i<n
  ·refine aD (aC fun _ K=>?_);simp(disch:=omega) only[kd,aa];apply K;refine aS rfl (aK ?_);refine aD (aJ ?_);refine aC fun _ K=>?_;simp(disch:=omega) only[kd,aa,aO];apply K
   refine aT (G:=QB n k) (fun q=>⟨(jk::jk::.one (.ptr 2 0 0 0)::.one (.sl 12 0 0 n)::rN n::.one (.ptr 5 0 0 0)::.raw (.bool neg')::rN k::jk::rN i::rN q.i::j16 (j16 (j16 (j16 (j16 (j16 (j16 (jk::jk::[])))))))),Hm [(2,qL),(5,qy last),(12,gK 12 n n (d6 k last g' i q.i))]⟩) (fun q=>n-q.i) ⟨k+1,by omega,by omega⟩ ?_ ?_
   ·refine aE ⟨rfl,rfl,rfl,trivial⟩ ?_;simp[wk]
   rintro⟨j,hkj,hjn⟩;simp only;by_cases hj:j<n
   ·have a1:=bK (n:=n) (i:=i) 12 n hi;have a2:=bK (n:=n) (i:=k) 12 n hm;have a3:=em n (d6 k last g' i j) hi;have a4:=em n (d6 k last g' i j) hm;have a5:(bz n (d6 k last g' i j k))[k]?=some (g' k k):=by rw[aR _ hm,iz _ _ (by omega)]
    have a6:(bz n (d6 k last g' i j i))[j]?=some (g' i j):=by rw[aR _ hj,iz _ _ (by omega)]
    have a7:(bz n (d6 k last g' i j i))[k]?=some (g' i k):=by rw[aR _ hm,iz _ _ (by omega)]
    have a8:(bz n (d6 k last g' i j k))[j]?=some (g' k j):=by rw[aR _ hj,iz _ _ (by omega)]
    have z1:=hsz k k hm hm;have z2:=hsz i j hi hj;have z3:=hsz i k hi hm;have z4:=hsz k j hm hj;have c1:=ma (g' k k) (g' i j) (z1.mono (by omega)) (z2.mono (by omega));have c2:=ma (g' i k) (g' k j) (z3.mono (by omega)) (z4.mono (by omega));have c3:=NH (g' k k*g' i j) (g' i k*g' k j) ((z1.mul z2).mono (by omega)) ((z3.mul z4).mono (by omega));have c4:=Dj (g' k k*g' i j-g' i k*g' k j) last hl (((z1.mul z2).sub (z3.mul z4)).mono (by omega)) (slz.mono (by omega));refine aD (aC fun _ K=>?_);simp(disch:=omega) only[kd,aa];apply K;refine aS rfl (aK ?_);refine aD (aJ ?_);refine d8 aW [⟨19,_,_,_,c1⟩,⟨34,_,_,_,c2⟩,⟨35,_,_,_,c3⟩,⟨37,_,_,_,c4⟩] [] (by kernel_rfl) fun _ K=>?_;simp(disch:=omega) only[kd,tZ,aa,ab,a1,a2,a4,fZ,a5,a3,a6,a7,a8,af,j7];apply K
    show bf _ _ _ _;refine aL fun _ K=>?_;simp(disch:=omega) only[kd,aa,aO];apply K
    refine⟨⟨j+1,by omega,by omega⟩,by simp only;omega,aE ⟨rfl,rfl,?_,trivial⟩ ?_⟩
    ·show _::_=_::_;rw[cx fun a b _ _=>El last g' hki hkj a b]
    simp[wk]
   have hjn':j=n:=by omega
   subst hjn';refine aD (aC fun _ K=>?_);simp(disch:=omega) only[kd,aa];apply K;refine aN rfl (bE ?_);show bf _ _ _ _;refine aL fun _ K=>?_;simp(disch:=omega) only[kd,aa,aO];apply K
   refine⟨⟨i+1,by omega,by omega⟩,by simp only;omega,aE ⟨rfl,rfl,?_,trivial⟩ ?_⟩
   ·show _::_=_::_;rw[cx fun a b _ hb=>Je last g' i a b hb]
   simp[wk]
  have hin':i=n:=by omega
  subst hin';have a2:=bK (n:=i) (i:=k) 12 i hm;have a4:=em i (d6 k last g' i (k+1)) hm;have a5:(bz i (d6 k last g' i (k+1) k))[k]?=some (g' k k):=by rw[aR _ hm,iz _ _ (by omega)]
  refine aD (aC fun _ K=>?_);simp(disch:=omega) only[kd,aa];apply K;refine aN rfl (bE ?_);show bf _ _ _ _;refine aL fun _ K=>?_;simp(disch:=omega) only[kd,aa,ab,a2,a4,fZ,a5];apply K
  show bf _ _ _ _;refine aL fun _ K=>?_;simp(disch:=omega) only[kd,aa,aO];apply K
  refine⟨⟨k+1,Jf k last g',g' k k,neg',2*b+1,by omega,by rw[<- hvk,hv],hkk,by rw[Nat.pow_succ];omega,fun x y hx hy=>?_,(hsz k k hm hm).mono (by omega)⟩,by simp only;omega,aE ⟨rfl,rfl,?_,trivial⟩ ?_⟩
  ·unfold Jf;split
   ·exact((((hsz k k hm hm).mul (hsz x y hx hy)).sub ((hsz x k hx hm).mul (hsz k y hm hy))).ediv last).mono (by omega)
   exact(hsz x y hx hy).mono (by omega)
  ·show _::_=_::_;rw[cx fun a b ha _=>Jd last g' a b ha]
  simp[wk]
 have hkn:k=n:=by omega
 subst hkn;rw[detG,if_neg hm]at hv;have h2k:=ip (k:=k) hn;have hN:=I7 last (slz.mono (by omega));refine aD (aC fun _ K=>?_);simp(disch:=omega) only[kd,aa];apply K;refine aN rfl (bE ?_);show bf _ _ _ _;refine aD (aC fun _ K=>?_);simp only[kd];apply K;cases neg with
 |true=>
  rw[if_pos rfl]at hv;refine aS rfl ?_;refine aF [⟨1,_,_,_,hN⟩] [] fun _ K=>?_;simp(disch:=omega) only[kd,tZ,aa,ab];apply K
  rw[<- hv]
  (refine aH ⟨.inr rfl,aG rfl ?_ rfl⟩;simp(disch:=omega) only[kd,Tryz.results22,ab,aa,tZ])
 |false=>
  rw[if_neg (by simp)]at hv;refine aN rfl (aK ?_);show bf _ _ _ _;refine aC fun _ K=>?_;simp(disch:=omega) only[kd,ab,aa];apply K
  rw[<- hv]
  (refine aH ⟨.inr rfl,aG rfl ?_ rfl⟩;simp(disch:=omega) only[kd,Tryz.results22,ab,aa,tZ])
theorem ns {z:Int} {k:Nat} (h:z.natAbs<4294967296) (hk:1<=k):Sz z k:=by
 have:Sz z 1:=by unfold Sz;simpa using h
 exact this.mono hk
theorem sO (k:Nat):Sz 0 k:=by unfold Sz;exact Nat.pow_pos (by omega)
theorem Pu {n p k b:Nat} {g:FF} (hp:p<n) (hk:k<n) (h: ∀i j,i<n->j<n->Sz (g i j) b): ∀i j,i<n->j<n->Sz (swp p k g i j) b:=fun i j hi hj=>by
 unfold swp;split
 ·exact h k j hk hj
 split
 ·exact h p j hp hj
 exact h i j hi hj
theorem OY {n k b:Nat} {g:FF} (last:Int) (hk:k<n) (h: ∀i j,i<n->j<n->Sz (g i j) b): ∀i j,i<n->j<n->Sz (Jf k last g i j) (2*b+1):=fun x y hx hy=>by
 unfold Jf;split
 ·exact((((h k k hk hk).mul (h x y hx hy)).sub ((h x k hx hk).mul (h k y hk hy))).ediv last).mono (by omega)
 exact(h x y hx hy).mono (by omega)
theorem DM {n:Nat} (hn:n<=16): ∀m k g last neg b,n-k=m->k<=n->(∀i j,i<n->j<n->Sz (g i j) b)->Sz last b->b+1<=1025*2^k->Sz (detG n k g last neg) 67174400
 |0,k,g,last,neg,b,hm,hk,hg,hl,hb=>by
  have h2k:=ip (k:=k) (by omega);rw[detG,if_neg (by omega)];split
  ·exact hl.neg.mono (by omega)
  exact hl.mono (by omega)
 |m+1,k,g,last,neg,b,hm,hk,hg,hl,hb=>by
  rw[detG,if_pos (by omega)];split
  ·exact sO _
  rename_i hp;have hpl:=yw (f:=g) (n:=n) (k:=k) (n-k) k rfl;have hs:=Pu (p:=piv g n k k) (k:=k) (by omega) (by omega) hg;exact DM hn m (k+1) _ _ _ (2*b+1) (by omega) (by omega) (OY last (by omega) hs) ((hs k k (by omega) (by omega)).mono (by omega)) (by rw[Nat.pow_succ];omega)
theorem lG {n:Nat} {f:FF} (hn:n<=16) (hf: ∀i j,i<n->j<n->Sz (f i j) 1024):Sz (detF n f) 67174400:=
 DM hn n 0 f 1 false 1024 rfl (by omega) hf (l4 (by omega)) (by omega)
theorem fb {n c:Nat} (f:FF) (h:1<=n):((mat n c f).headD []).length=c:=by
 have:=gh (M:=mat n c f) (by rw[aU];omega);rw[bs _ _ (by omega)]at this;injection this with this
 rw[<- this,bv]
theorem iy {n c:Nat} (f:FF) (hn1:1<=n) (hn:n<=16) (hc1:1<=c) (hc:c<=16):xz (mat n c f):=by
 refine⟨by rw[aU];omega,by rw[aU];omega,fun r hr=>?_⟩;obtain⟨i,hi⟩:=List.mem_iff_getElem?.1 hr;have hin:i<n:=by
  have:=(List.getElem?_eq_some_iff.1 hi).1;rwa[aU]at this
 rw[bs _ _ hin]at hi;injection hi with hi
 rw[<- hi,rOk,bv,fb f hn1];omega
theorem sh {M:List (List Int)} (h:xz M):M=mat M.length (M.headD []).length (ent M):=j6 fun r hr=>(h.2.2 r hr).2.2
theorem yM {n:Nat} (f:FF) (hn1:1<=n) (hn:n<=16):NY (mat n n f)= .tup [(false,[.p (.raw (.int .i64 (n:Int)))]),(false,[.p (.raw (.bool true))])]:=by
 have h:QC (mat n n f):=⟨iy f hn1 hn hn1 hn,by rw[aU,fb f hn1]⟩;unfold NY;rw[if_pos h,aU]
theorem Ki {n c:Nat} (f:FF) (hn1:1<=n) (h:n≠c):NY (mat n c f)= .tup [(false,[.p (.raw (.int .i64 0))]),(false,[.p (.raw (.bool false))])]:=by
 unfold NY;rw[if_neg];intro hs;have:=hs.2;rw[aU,fb f hn1]at this;exact h this
abbrev yZ (n:Nat) (f:FF):List Int:=bz n fun k=>detF (k+1) f
def Qj (n:Nat) (f:FF):TV:= .tup [(false,[.p (.sl (ls fZ (yZ n f)))]),(false,[.p (.raw (.bool true))])]
theorem J4 (k:Nat) (f:FF):((List.range (k+1)).map fun i=>(List.range (k+1)).map (f i))=mat (k+1) (k+1) f:=rfl
theorem qC (n:Nat) (f:FF) (hn1:1<=n) (hn:n<=16) (hf: ∀i j,i<n->j<n->Sz (f i j) 1024):CallC Tryz.prog 103 [slM (mat n n f)] ⟨[],Qj n f⟩:=by
 have hSq:=pw (mat n n f);rw[yM f hn1 hn]at hSq;refine aI Tryz.func103 rfl (by kernel_rfl) ?_;rw[Tryz.ntmps103];refine aC fun _ K=>?_;simp only[kd,slM,ae];apply K
 refine aF [⟨1,_,_,_,hSq⟩] [] fun _ K=>?_;simp only[kd,slM,aa];apply K
 refine aD (aC fun _ K=>?_);simp only[kd];apply K;refine aN rfl (aK ?_);show bf _ _ _ _;refine aC fun _ K=>?_;simp only[kd];apply K
 refine aD (aC fun _ K=>?_);simp only[kd];apply K;refine aT (G:=jP n) (fun g=>⟨(slM (mat n n f)::jk::.raw (.slice none 0 0)::.raw (.bool false)::rN n::jk::.one (.sl 31 0 0 g.i)::rN g.i::j16 (j4 (j4 (jk::[])))),Hm [(31,[⟨42,2,lc fZ (yZ g.i f)⟩])]⟩) (fun g=>n-g.i) ⟨0,by omega⟩ ?_ ?_
 ·refine(fp (k:=6) (d:=31) 42 2 (by omega) rfl rfl).trans (aE ⟨rfl,trivial⟩ ?_);simp[wk]
 rintro⟨k,hk⟩;simp only;by_cases hm:k<n
 ·have c1:=LS k k (by omega) (by omega);rw[<- List.range_succ]at c1;have c2:=zh n n f (List.range (k+1)) (List.range (k+1)) hn hn (fun x hx=>by have:=List.mem_range.1 hx;omega) (fun x hx=>by have:=List.mem_range.1 hx;omega) (by simp;omega) (by simp;omega);rw[J4]at c2;have c3:=f7 (k+1) f (by omega) (by omega) (fun i j hi hj=>hf i j (by omega) (by omega));have e1:lc fZ (yZ k f)++[[.p (.raw (.bool (decide (detF (k+1) f<0)))),.p (.sl (ls fU (aQ (detF (k+1) f).natAbs)))]]=lc fZ (yZ (k+1) f):=by
   rw[ug,yZ,yZ,oh k]
  refine aD (aC fun _ K=>?_);simp(disch:=omega) only[kd,aa,slM];apply K;refine aS rfl (aK ?_);refine aD (aJ ?_);refine jx [⟨4,_,_,_,c1⟩,⟨7,_,_,_,c1⟩,⟨8,_,_,_,c2⟩,⟨9,_,_,_,c3⟩] [] fun _ K=>?_;simp(disch:=omega) only[kd,r9,slM,tZ,aa,af,Nat.reduceMul,ah,bv,e1];apply K
  show bf _ _ _ _;refine aL fun _ K=>?_;simp(disch:=omega) only[kd,aa,aO];apply K
  refine⟨⟨k+1,by omega⟩,by simp only;omega,aE ⟨rfl,trivial⟩ ?_⟩;simp[wk]
 have hkn:k=n:=by omega
 subst hkn;refine aD (aC fun _ K=>?_);simp(disch:=omega) only[kd,aa,slM];apply K;refine aN rfl (bE ?_);show bf _ _ _ _;refine aC fun _ K=>?_;simp only[kd,aa];apply K
 refine aH ⟨.inr rfl,kw 31 (cY rfl) ?_ rfl⟩;have eT:List.take k (yZ k f)=yZ k f:=List.take_of_length_le (by rw[bv];omega);simp(disch:=omega) only[kd,Tryz.results103,eT,Qj]
structure Rl (n:Nat) (f:FF) where
 i:Nat
 hi:i<=n
 ok: ∀a,a<i-> ∀b,b<a->f a b=f b a
structure Rn (n i:Nat) (f:FF) where
 j:Nat
 hj:j<=i
 ok: ∀b,b<j->f i b=f b i
theorem qO (a:Int):oy a a=0:=by simp[oy]
theorem tE {a b:Int} (h:a≠b):oy a b≠0:=by unfold oy;split<;>(try split)<;>omega
theorem mq (n:Nat) (f:FF) (hn:n<=16) (hf: ∀i j,i<n->j<n->Sz (f i j) 1024) (r:Bool) (hr:r=true↔SymF f n):CallC Tryz.prog 79 [slM (mat n n f)] ⟨[],.raw (.bool r)⟩:=by
 have hml:=aU n n f;refine aI Tryz.func79 rfl (by kernel_rfl) ?_;rw[Tryz.ntmps79];refine aC fun _ K=>?_;simp only[kd,slM,ae];apply K
 refine aD (aC fun _ K=>?_);simp only[kd,aa,hml];apply K;refine aT (G:=Rl n f) (fun g=>⟨(slM (mat n n f)::jk::.raw (.bool false)::jk::jk::jk::rN n::rN g.i::j16 (j4 (j4 ([])))),Hm []⟩) (fun g=>n-g.i) ⟨0,by omega,fun a ha=>by omega⟩ ?_ ?_
 ·refine aE trivial ?_;simp[wk]
 rintro⟨i,hi,ok⟩;simp only;by_cases hm:i<n
 ·refine aC fun _ K=>?_;simp(disch:=omega) only[kd,slM];apply K
  refine bu rfl ?_;refine aD (aJ ?_);refine aC fun _ K=>?_;simp only[kd];apply K
  refine aC fun _ K=>?_;simp only[kd];apply K
  refine aT (G:=Rn n i f) (fun g=>⟨(slM (mat n n f)::jk::.raw (.bool false)::rN i::rN g.j::jk::rN n::rN i::j16 (j4 (j4 ([])))),Hm []⟩) (fun g=>i-g.j) ⟨0,by omega,fun a ha=>by omega⟩ ?_ ?_
  ·refine aE trivial ?_;simp[wk]
  rintro⟨j,hj,okj⟩;simp only;by_cases hm2:j<i
  ·have a1:=bs n f hm;have a2:=bs n f (show j<n by omega);have a3:=aR (f i) (show j<n by omega);have a4:=aR (f j) hm;have c1:=sS (f i j) (f j i) ((hf i j hm (by omega)).mono (by omega)) ((hf j i (by omega) hm).mono (by omega));by_cases he:f i j=f j i
   ·rw[he,qO]at c1;rw[he]at a3;refine aD (aC fun _ K=>?_);simp(disch:=omega) only[kd,aa,slM];apply K;refine aS rfl (aK ?_);refine aD (aJ ?_);refine bo aW [⟨14,_,_,_,c1⟩] [] (by kernel_rfl) fun _ K=>?_;simp(disch:=omega) only[kd,tZ,aa,a1,fR,a3,fZ,a2,a4];apply K
    refine aN rfl (aK ?_);show bf _ _ _ _;refine aL fun _ K=>?_;simp(disch:=omega) only[kd,aa,aO];apply K
    refine⟨⟨j+1,by omega,fun b hb=>?_⟩,by simp only;omega,aE trivial ?_⟩
    ·by_cases e:b=j
     ·subst e;exact he
     exact okj b (by omega)
    simp[wk]
   have hr0:r=false:=by
    cases r with
    |false=>rfl
    |true=>exact absurd (hr.1 rfl i hm j (by omega)) he
   subst hr0;have hne:=tE he;refine aD (aC fun _ K=>?_);simp(disch:=omega) only[kd,aa,slM];apply K;refine aS rfl (aK ?_);refine aD (aJ ?_);refine bo aW [⟨14,_,_,_,c1⟩] [] (by kernel_rfl) fun _ K=>?_;simp(disch:=omega) only[kd,tZ,aa,a1,fR,a3,fZ,a2,a4];apply K
   refine aS rfl ?_;refine aC fun _ K=>?_;simp only[kd];apply K
   (refine aH ⟨.inr rfl,aG rfl ?_ rfl⟩;simp(disch:=omega) only[kd,Tryz.results79])
  refine aD (aC fun _ K=>?_);simp(disch:=omega) only[kd,aa,slM];apply K;refine aN rfl (bE ?_);show bf _ _ _ _;refine aL fun _ K=>?_;simp(disch:=omega) only[kd,aO];apply K
  refine⟨⟨i+1,by omega,fun a ha b hb=>?_⟩,by simp only;omega,aE trivial ?_⟩
  ·by_cases e:a=i
   ·subst e;exact okj b (by omega)
   exact ok a (by omega) b hb
  simp[wk]
 have hr1:r=true:=hr.2 fun a ha b hb=>by
  rcases Nat.lt_trichotomy a b with h|h|h
  ·exact(ok b (by omega) a h).symm
  ·rw[h]
  exact ok a (by omega) b h
 subst hr1;refine aC fun _ K=>?_;simp(disch:=omega) only[kd,slM];apply K
 refine bD rfl ?_;show bf _ _ _ _;refine aC fun _ K=>?_;simp only[kd];apply K
 (refine aH ⟨.inr rfl,aG rfl ?_ rfl⟩;simp(disch:=omega) only[kd,Tryz.results79])
structure Rx (n:Nat) (f:FF) where
 i:Nat
 hi:i<=n
 ok: ∀a,a<i->0<detF (a+1) f
theorem CU {z:Int} (h:0<z):sg z=1:=by unfold sg;rw[if_neg (by omega),if_neg (by omega)]
theorem EB {z:Int} (h: ¬0<z):sg z<=0:=by unfold sg;split<;>(try split)<;>omega
theorem sU (n:Nat) (f:FF) (hn1:1<=n) (hn:n<=16) (hf: ∀i j,i<n->j<n->Sz (f i j) 1024) (hs:SymF f n) (r:Bool) (hr:r=true↔xy f n):CallC Tryz.prog 80 [slM (mat n n f)] ⟨[],.raw (.bool r)⟩:=by
 have hL:=qC n f hn1 hn hf;have hS:=mq n f hn hf true (by simp[hs]);refine aI Tryz.func80 rfl (by kernel_rfl) ?_;rw[Tryz.ntmps80];refine aC fun _ K=>?_;simp only[kd,slM,ae];apply K
 refine aF [⟨1,_,_,_,hL⟩] [] fun _ K=>?_;simp only[kd,slM,Qj,aa];apply K
 refine aD (aF [⟨4,_,_,_,hS⟩] [] fun _ K=>?_);simp(disch:=omega) only[kd,slM,aa];apply K;refine aN rfl (aK ?_);show bf _ _ _ _;refine aD (aC fun _ K=>?_);simp only[kd,aa,bv];apply K;refine aT (G:=Rx n f) (fun g=>⟨(jk::jk::.raw (.bool false)::j16 (.one (.p (.sl (ls fZ (yZ n f))))::rN n::rN g.i::j4 (jk::jk::jk::[]))),Hm []⟩) (fun g=>n-g.i) ⟨0,by omega,fun a ha=>by omega⟩ ?_ ?_
 ·refine aE trivial ?_;simp[wk]
 rintro⟨i,hi,ok⟩;simp only;by_cases hm:i<n
 ·have a1:(yZ n f)[i]?=some (detF (i+1) f):=aR _ hm;have hz:=lG (n:=i+1) (f:=f) (by omega) (fun a b ha hb=>hf a b (by omega) (by omega));have c1:=ng (detF (i+1) f) (hz.mono (by omega));refine aC fun _ K=>?_;simp(disch:=omega) only[kd];apply K
  refine bu rfl ?_;refine aD (aJ ?_);refine aC fun _ K=>?_;simp(disch:=omega) only[kd,aa,a1,fZ];apply K
  by_cases hp:0<detF (i+1) f
  ·rw[CU hp]at c1;refine aF [⟨1,_,_,_,c1⟩] [] fun _ K=>?_;simp(disch:=omega) only[kd,tZ,aa,Int.reduceLE];apply K
   refine aN rfl (aK ?_);show bf _ _ _ _;refine aL fun _ K=>?_;simp(disch:=omega) only[kd,aO];apply K
   refine⟨⟨i+1,by omega,fun a ha=>?_⟩,by simp only;omega,aE trivial ?_⟩
   ·by_cases e:a=i
    ·subst e;exact hp
    exact ok a (by omega)
   simp[wk]
  have hr0:r=false:=by
   cases r with
   |false=>rfl
   |true=>exact absurd (hr.1 rfl i hm) hp
  subst hr0;have hle:=EB hp;refine aF [⟨1,_,_,_,c1⟩] [] fun _ K=>?_;simp(disch:=omega) only[kd,tZ,aa];apply K
  refine aS rfl ?_;refine aC fun _ K=>?_;simp only[kd];apply K
  (refine aH ⟨.inr rfl,aG rfl ?_ rfl⟩;simp(disch:=omega) only[kd,Tryz.results80])
 have hr1:r=true:=hr.2 fun a ha=>ok a (by omega)
 subst hr1;refine aC fun _ K=>?_;simp(disch:=omega) only[kd];apply K
 refine bD rfl ?_;show bf _ _ _ _;refine aC fun _ K=>?_;simp only[kd];apply K
 (refine aH ⟨.inr rfl,aG rfl ?_ rfl⟩;simp(disch:=omega) only[kd,Tryz.results80])
theorem xR (a b:Int):decide (oy a b<=0)=decide (a<=b):=by
 unfold oy;split
 ·simp;omega
 split
 ·simp;omega
 simp;omega
theorem Lz (a b:Int):decide (0<=oy a b)=decide (b<=a):=by
 unfold oy;split
 ·simp;omega
 split
 ·simp;omega
 simp;omega
theorem AW (n:Nat) (f:FF) (hn1:1<=n) (hn:n<=16) (hf: ∀i j,i<n->j<n->Sz (f i j) 1024):CallC Tryz.prog 62 [slM (mat n n f)] ⟨[],.raw (.bool (decide (detF n f<=10000)))⟩:=by
 have hD:=f7 n f hn1 hn hf;have hS:=fX 10000 (by omega) (by omega);have hC:=sS (detF n f) 10000 ((lG hn hf).mono (by omega)) (ns (by decide) (by omega));have hle:=xR (detF n f) 10000;refine aI Tryz.func62 rfl (by kernel_rfl) ?_;rw[Tryz.ntmps62];refine aC fun _ K=>?_;simp only[kd,slM,ae];apply K
 refine aF [⟨1,_,_,_,hD⟩,⟨2,_,_,_,hS⟩,⟨3,_,_,_,hC⟩] [] fun _ K=>?_;simp(disch:=omega) only[kd,slM,tZ,aa,af,hle];apply K
 (refine aH ⟨.inr rfl,aG rfl ?_ rfl⟩;simp(disch:=omega) only[kd,Tryz.results62])
theorem lk (n c:Nat) (f:FF) (hn1:1<=n) (hn:n<=16) (hc1:1<=c) (hc:c<=16) (hf: ∀i j,i<n->j<c->Sz (f i j) 1024):
  ∃e:Int,(e=0↔(n=c/\n<=8/\SymF f n/\xy f n))/\CallC Tryz.prog 38 [slM (mat n c f)] ⟨[],.raw (.int .i64 e)⟩:=by
 have hSq:=pw (mat n c f);by_cases h1:n=c
 ·subst h1;rw[yM f hn1 hn]at hSq;by_cases h2:8<n
  ·refine⟨3,by omega,?_⟩;refine aI Tryz.func38 rfl (by kernel_rfl) ?_;rw[Tryz.ntmps38];refine aC fun _ K=>?_;simp only[kd,slM,ae];apply K
   refine aF [⟨1,_,_,_,hSq⟩] [] fun _ K=>?_;simp only[kd,slM,aa];apply K
   refine aD (aJ ?_);refine aC fun _ K=>?_;simp(disch:=omega) only[kd,aa];apply K
   refine aS rfl ?_;refine aC fun _ K=>?_;simp only[kd];apply K
   (refine aH ⟨.inr rfl,aG rfl ?_ rfl⟩;simp(disch:=omega) only[kd,Tryz.results38])
  by_cases h3:SymF f n
  ·have hS:=mq n f hn hf true (by simp[h3]);by_cases h4:xy f n
   ·have hD:=sU n f hn1 hn hf h3 true (by simp[h4]);refine⟨0,by simp[h3,h4];omega,?_⟩;refine aI Tryz.func38 rfl (by kernel_rfl) ?_;rw[Tryz.ntmps38];refine aC fun _ K=>?_;simp only[kd,slM,ae];apply K
    refine aF [⟨1,_,_,_,hSq⟩] [] fun _ K=>?_;simp only[kd,slM,aa];apply K
    refine aD (aJ ?_);refine aC fun _ K=>?_;simp(disch:=omega) only[kd,aa];apply K
    refine aN rfl ?_;refine aF [⟨1,_,_,_,hS⟩] [] fun _ K=>?_;simp only[kd,slM,aa];apply K
    refine aN rfl ?_;refine aF [⟨1,_,_,_,hD⟩] [] fun _ K=>?_;simp only[kd,slM,aa];apply K
    refine aN rfl (aK ?_);show bf _ _ _ _;refine aC fun _ K=>?_;simp only[kd];apply K
    (refine aH ⟨.inr rfl,aG rfl ?_ rfl⟩;simp(disch:=omega) only[kd,Tryz.results38])
   have hD:=sU n f hn1 hn hf h3 false (by simp[h4]);refine⟨5,by simp[h4],?_⟩;refine aI Tryz.func38 rfl (by kernel_rfl) ?_;rw[Tryz.ntmps38];refine aC fun _ K=>?_;simp only[kd,slM,ae];apply K
   refine aF [⟨1,_,_,_,hSq⟩] [] fun _ K=>?_;simp only[kd,slM,aa];apply K
   refine aD (aJ ?_);refine aC fun _ K=>?_;simp(disch:=omega) only[kd,aa];apply K
   refine aN rfl ?_;refine aF [⟨1,_,_,_,hS⟩] [] fun _ K=>?_;simp only[kd,slM,aa];apply K
   refine aN rfl ?_;refine aF [⟨1,_,_,_,hD⟩] [] fun _ K=>?_;simp only[kd,slM,aa];apply K
   refine aS rfl ?_;refine aC fun _ K=>?_;simp only[kd];apply K
   (refine aH ⟨.inr rfl,aG rfl ?_ rfl⟩;simp(disch:=omega) only[kd,Tryz.results38])
  have hS:=mq n f hn hf false (by simp[h3]);refine⟨4,by simp[h3],?_⟩;refine aI Tryz.func38 rfl (by kernel_rfl) ?_;rw[Tryz.ntmps38];refine aC fun _ K=>?_;simp only[kd,slM,ae];apply K
  refine aF [⟨1,_,_,_,hSq⟩] [] fun _ K=>?_;simp only[kd,slM,aa];apply K
  refine aD (aJ ?_);refine aC fun _ K=>?_;simp(disch:=omega) only[kd,aa];apply K
  refine aN rfl ?_;refine aF [⟨1,_,_,_,hS⟩] [] fun _ K=>?_;simp only[kd,slM,aa];apply K
  refine aS rfl ?_;refine aC fun _ K=>?_;simp only[kd];apply K
  (refine aH ⟨.inr rfl,aG rfl ?_ rfl⟩;simp(disch:=omega) only[kd,Tryz.results38])
 rw[Ki f hn1 h1]at hSq;refine⟨3,by simp[h1],?_⟩;refine aI Tryz.func38 rfl (by kernel_rfl) ?_;rw[Tryz.ntmps38];refine aC fun _ K=>?_;simp only[kd,slM,ae];apply K
 refine aF [⟨1,_,_,_,hSq⟩] [] fun _ K=>?_;simp only[kd,slM,aa];apply K
 refine aD (aJ ?_);refine aC fun _ K=>?_;simp(disch:=omega) only[kd,aa,reduceCtorEq];apply K
 refine aS rfl ?_;refine aC fun _ K=>?_;simp only[kd];apply K
 (refine aH ⟨.inr rfl,aG rfl ?_ rfl⟩;simp(disch:=omega) only[kd,Tryz.results38])
abbrev kZ (l:List Int):TV:= .one (.p (.sl (ls fZ l)))
theorem MU (i j:Nat) (f:FF):((List.range j++[i]).map fun r=>(List.range (j+1)).map (f r))=mat (j+1) (j+1) (mm f i j):=by
 rw[mat,List.range_succ,List.map_append,List.map_append]
 congr 1
 ·refine List.map_congr_left fun r hr=>?_
  have:=List.mem_range.1 hr;rw[<- List.range_succ];exact ir (m:=j+1) fun c _=>by unfold mm;rw[if_pos this]
 simp only[List.map_cons,List.map_nil];rw[<- List.range_succ]
 congr 1
 exact ir (m:=j+1) fun c _=>by unfold mm;rw[if_neg (by omega)]
theorem D6 {n i j:Nat} {f:FF} (hi:i<n) (hj:j<n) (hf: ∀i j,i<n->j<n->Sz (f i j) 1024): ∀r c,r<j+1->c<j+1->Sz (mm f i j r c) 1024:=fun r c hr hc=>by
 unfold mm;split
 ·exact hf r c (by omega) (by omega)
 exact hf i c hi (by omega)
theorem Ci {n i j:Nat} {f:FF} (hn:n<=16) (hi:i<n) (hj:j<n) (hf: ∀i j,i<n->j<n->Sz (f i j) 1024):Sz (lam f i j) 67174400:=
 lG (by omega) (D6 hi hj hf)
theorem zL {n k:Nat} {f:FF} (hn:n<=16) (hk:k<=n) (hf: ∀i j,i<n->j<n->Sz (f i j) 1024):Sz (dd f k) 67174400:=by
 unfold dd;split
 ·exact l4 (by omega)
 exact lG (by omega) fun i j hi hj=>hf i j (by omega) (by omega)
theorem sW (n:Nat) (f:FF) (i j:Nat) (hn:n<=16) (hi:i<n) (hj:j<n) (hf: ∀i j,i<n->j<n->Sz (f i j) 1024):
  CallC Tryz.prog 107 [slM (mat n n f),.raw (.int .i64 (i:Int)),.raw (.int .i64 (j:Int))] ⟨[],tZ (lam f i j)⟩:=by
 have c2:=zh n n f (List.range j++[i]) (List.range (j+1)) hn hn (fun x hx=>by
  rcases List.mem_append.1 hx with h|h
  ·have:=List.mem_range.1 h;omega
  have:x=i:=by simpa using h
  omega) (fun x hx=>by have:=List.mem_range.1 hx;omega) (by simp;omega) (by simp;omega)
 rw[MU]at c2;have c3:=f7 (j+1) (mm f i j) (by omega) (by omega) (D6 hi hj hf);refine aI Tryz.func107 rfl (by kernel_rfl) ?_;rw[Tryz.ntmps107];refine aC fun _ K=>?_;simp(disch:=omega) only[kd,slM,aa,ae];apply K
 refine aC fun _ K=>?_;simp only[kd];apply K
 refine aD (aC fun _ K=>?_);simp only[kd];apply K;refine aT (G:=jP j) (fun g=>⟨(slM (mat n n f)::rN i::rN j::jk::jk::jk::.one (.ptr 6 0 0 0)::.one (.sl 18 0 0 g.i)::.one (.sl 22 0 0 g.i)::rN g.i::j16 (j4 (j4 ([])))),Hm [(6,qL),(18,[⟨3,1,lc fN (List.range g.i)⟩]),(22,[⟨3,1,lc fN (List.range g.i)⟩])]⟩) (fun g=>j-g.i) ⟨0,by omega⟩ ?_ ?_
 ·refine(fp (k:=7) (d:=18) 3 1 (by omega) rfl rfl).trans ((fp (k:=8) (d:=22) 3 1 (by omega) rfl rfl).trans (aE ⟨rfl,rfl,rfl,trivial⟩ ?_));simp[wk]
 rintro⟨k,hk⟩;simp only;by_cases hm:k<j
 ·refine aD (aC fun _ K=>?_);simp(disch:=omega) only[kd,aa,slM];apply K;refine aS rfl (aK ?_);refine aD (aJ ?_);refine aC fun _ K=>?_;simp(disch:=omega) only[kd,aa,Nat.reduceMul,ah,ab,List.length_range,mN,af];apply K
  refine aL fun _ K=>?_;simp(disch:=omega) only[kd,aa,Nat.reduceMul,ah,ab,List.length_range,mN,af];apply K
  show bf _ _ _ _;refine aL fun _ K=>?_;simp(disch:=omega) only[kd,aa,aO];apply K
  refine⟨⟨k+1,by omega⟩,by simp only;omega,aE ⟨rfl,?_,?_,trivial⟩ ?_⟩
  ·rw[List.range_succ];rfl
  ·rw[List.range_succ];rfl
  simp[wk]
 have hkj:k=j:=by omega
 subst hkj;refine aD (aC fun _ K=>?_);simp(disch:=omega) only[kd,aa,slM];apply K;refine aN rfl (bE ?_);show bf _ _ _ _;refine wc 9 [⟨9,_,_,_,c2⟩,⟨10,_,_,_,c3⟩] [] (by simp) (by decide) fun _ K=>?_;simp(disch:=omega) only[kd,slM,r9,tZ,aa,Nat.reduceMul,ah,ab,List.length_range,mN,af];apply K
 refine⟨⟨(j4 (jk::jk::.one (.ptr 6 0 0 0)::j16 (slM (mat n n f)::jk::jk::jk::r9 (List.range k++[i])::jk::jk::jk::r9 (List.range (k+1))::jk::jk::[]))),Hm [(6,qL)]⟩,(bC 18 (cY rfl)).trans ((bC 22 (cY rfl)).trans (aE ⟨rfl,trivial⟩ ?_)),by simp[wk],?_⟩
 ·simp[wk,fD,eG,bi,Hm,fE,gT,List.range_succ,List.take_of_length_le]
 intro _ K;simp(disch:=omega) only[kd,slM,r9,tZ,aa,af];apply K;rw[<- lam]
 (refine aH ⟨.inr rfl,aG rfl ?_ rfl⟩;simp(disch:=omega) only[kd,Tryz.results107,aa,tZ])
theorem pQ (n:Nat) (f:FF) (k:Nat) (hn:n<=16) (hk:k<=n):
  CallC Tryz.prog 108 [kZ (yZ n f),.raw (.int .i64 (k:Int))] ⟨[],tZ (dd f k)⟩:=by
 have c1:=fX 1 (by omega) (by omega);by_cases h0:k=0
 ·subst h0;rw[show dd f 0=1 from rfl];refine aI Tryz.func108 rfl (by kernel_rfl) ?_;rw[Tryz.ntmps108];refine aC fun _ K=>?_;simp(disch:=omega) only[kd,kZ,aa,ae];apply K
  refine aD (aC fun _ K=>?_);simp(disch:=omega) only[kd];apply K;refine aS rfl ?_;refine aF [⟨0,_,_,_,c1⟩] [] fun _ K=>?_;simp(disch:=omega) only[kd,tZ,aa];apply K
  (refine aH ⟨.inr rfl,aG rfl ?_ rfl⟩;simp(disch:=omega) only[kd,Tryz.results108,aa,tZ])
 rw[show dd f k=detF k f from if_neg h0];have e1:((k:Int)-1).toNat=k-1:=by omega
 have a1:(yZ n f)[k-1]?=some (detF k f):=by rw[aR _ (by omega),show k-1+1=k by omega]
 refine aI Tryz.func108 rfl (by kernel_rfl) ?_;rw[Tryz.ntmps108];refine aC fun _ K=>?_;simp(disch:=omega) only[kd,kZ,aa,ae];apply K
 refine aD (aC fun _ K=>?_);simp(disch:=omega) only[kd];apply K;refine aN rfl (aK ?_);show bf _ _ _ _;refine aC fun _ K=>?_;simp(disch:=omega) only[kd,aa,aO,e1,a1,fZ];apply K
 (refine aH ⟨.inr rfl,aG rfl ?_ rfl⟩;simp(disch:=omega) only[kd,Tryz.results108,aa,tZ])
theorem Dl (n:Nat) (f:FF) (i j:Nat) (hn:n<=16) (hi:i<n) (hj:j<n) (hf: ∀i j,i<n->j<n->Sz (f i j) 1024):
  CallC Tryz.prog 104 [slM (mat n n f),kZ (yZ n f),.raw (.int .i64 (i:Int)),.raw (.int .i64 (j:Int))] ⟨[],.raw (.bool (decide (2*((lam f i j).natAbs:Int)<=dd f (j+1))))⟩:=by
 have hl:=Ci hn hi hj hf;have hd:=zL (k:=j+1) hn (by omega) hf;have hla:Sz ((lam f i j).natAbs:Int) 67174400:=hl.le (by omega);have hm:Sz (2*((lam f i j).natAbs:Int)) (1+67174400):=Sz.mul (ns (by decide) (by omega)) hla;have c1:=fX 2 (by omega) (by omega);have c2:=sW n f i j hn hi hj hf;have c3:=Dr (lam f i j) (hl.mono (by omega));have c4:=ma 2 ((lam f i j).natAbs:Int) (ns (by decide) (by omega)) (hla.mono (by omega));have c5:=pQ n f (j+1) hn (by omega);rw[show((j+1:Nat):Int)=(j:Int)+1 by omega]at c5;have c6:=sS (2*((lam f i j).natAbs:Int)) (dd f (j+1)) (hm.mono (by omega)) (hd.mono (by omega));have hle:=xR (2*((lam f i j).natAbs:Int)) (dd f (j+1));generalize lam f i j=l at*
 generalize dd f (j+1)=d at*
 refine aI Tryz.func104 rfl (by kernel_rfl) ?_;rw[Tryz.ntmps104];refine aC fun _ K=>?_;simp only[kd,slM,kZ,aa,ae];apply K
 refine aF [⟨0,_,_,_,c1⟩,⟨4,_,_,_,c2⟩,⟨5,_,_,_,c3⟩,⟨6,_,_,_,c4⟩,⟨10,_,_,_,c5⟩,⟨11,_,_,_,c6⟩] [] fun _ K=>?_;simp(disch:=omega) only[kd,tZ,slM,kZ,aa,af,aO,hle];apply K
 (refine aH ⟨.inr rfl,aG rfl ?_ rfl⟩;simp(disch:=omega) only[kd,Tryz.results104])
theorem zg (n:Nat) (f:FF) (i:Nat) (hn:n<=16) (hi:i<n) (h0:0<i) (hf: ∀i j,i<n->j<n->Sz (f i j) 1024):
  CallC Tryz.prog 109 [slM (mat n n f),kZ (yZ n f),.raw (.int .i64 (i:Int))] ⟨[],.raw (.bool (decide (3*(dd f i*dd f i)<=4*(dd f (i-1)*dd f (i+1)+lam f i (i-1)*lam f i (i-1)))))⟩:=by
 have hl:=Ci (j:=i-1) hn hi (by omega) hf;have d0:=zL (k:=i-1) hn (by omega) hf;have d1:=zL (k:=i) hn (by omega) hf;have d2:=zL (k:=i+1) hn (by omega) hf;have c0:=sW n f i (i-1) hn hi (by omega) hf;have c1:=pQ n f (i-1) hn (by omega);have c2:=pQ n f (i+1) hn (by omega);have c3:=pQ n f i hn (by omega);rw[show((i+1:Nat):Int)=(i:Int)+1 by omega]at c2;rw[show((i-1:Nat):Int)=(i:Int)-1 by omega]at c0 c1;have s4:=fX 4 (by omega) (by omega);have s3:=fX 3 (by omega) (by omega);generalize lam f i (i-1)=l at*
 generalize dd f (i-1)=a at*
 generalize dd f (i+1)=b at*
 generalize dd f i=d at*
 have z1:Sz (a*b) 134348800:=(d0.mul d2).mono (by omega);have z2:Sz (l*l) 134348800:=(hl.mul hl).mono (by omega);have z3:Sz (a*b+l*l) 134348801:=z1.add z2;have z4:Sz (4*(a*b+l*l)) 134348802:=(Sz.mul (ns (k:=1) (by decide) (by omega)) z3).mono (by omega);have z5:Sz (d*d) 134348800:=(d1.mul d1).mono (by omega);have z6:Sz (3*(d*d)) 134348802:=(Sz.mul (ns (k:=1) (by decide) (by omega)) z5).mono (by omega);have m1:=ma a b (d0.mono (by omega)) (d2.mono (by omega));have m2:=ma l l (hl.mono (by omega)) (hl.mono (by omega));have m3:=v6 (a*b) (l*l) (z1.mono (by omega)) (z2.mono (by omega));have m4:=ma 4 (a*b+l*l) (ns (by decide) (by omega)) (z3.mono (by omega));have m5:=ma d d (d1.mono (by omega)) (d1.mono (by omega));have m6:=ma 3 (d*d) (ns (by decide) (by omega)) (z5.mono (by omega));have m7:=sS (4*(a*b+l*l)) (3*(d*d)) (z4.mono (by omega)) (z6.mono (by omega));have hge:=Lz (4*(a*b+l*l)) (3*(d*d));refine aI Tryz.func109 rfl (by kernel_rfl) ?_;rw[Tryz.ntmps109];refine aC fun _ K=>?_;simp only[kd,slM,kZ,aa,ae];apply K
 refine aF [⟨4,_,_,_,c0⟩] [] fun _ K=>?_;simp(disch:=omega) only[kd,slM,tZ,aa,aO];apply K
 refine bo aW [⟨0,_,_,_,s4⟩,⟨4,_,_,_,c1⟩,⟨8,_,_,_,c2⟩,⟨9,_,_,_,m1⟩,⟨12,_,_,_,m2⟩,⟨13,_,_,_,m3⟩,⟨14,_,_,_,m4⟩] [] (by kernel_rfl) fun _ K=>?_;simp(disch:=omega) only[kd,tZ,kZ,aa,aO,af,ab];apply K
 refine bo aW [⟨1,_,_,_,s3⟩,⟨4,_,_,_,c3⟩,⟨7,_,_,_,c3⟩,⟨8,_,_,_,m5⟩,⟨9,_,_,_,m6⟩,⟨10,_,_,_,m7⟩] [] (by kernel_rfl) fun _ K=>?_;simp(disch:=omega) only[kd,tZ,kZ,aa,ab,af,hge];apply K
 (refine aH ⟨.inr rfl,aG rfl ?_ rfl⟩;simp(disch:=omega) only[kd,Tryz.results109])
structure RJ (n:Nat) (f:FF) where
 i:Nat
 hi:i<=n
 ok: ∀a,a<i->(∀b,b<a->SizF f a b)/\(0<a->LovF f a)
structure RK (n i:Nat) (f:FF) where
 j:Nat
 hj:j<=i
 ok: ∀b,b<j->SizF f i b
theorem Gj (n:Nat) (f:FF) (hn1:1<=n) (hn:n<=16) (hf: ∀i j,i<n->j<n->Sz (f i j) 1024) (r:Bool) (hr:r=true↔Oe f n):
  CallC Tryz.prog 74 [slM (mat n n f)] ⟨[],.raw (.bool r)⟩:=by
 have hL:=qC n f hn1 hn hf;have hml:=aU n n f;refine aI Tryz.func74 rfl (by kernel_rfl) ?_;rw[Tryz.ntmps74];refine aC fun _ K=>?_;simp only[kd,slM,ae];apply K
 refine aF [⟨1,_,_,_,hL⟩] [] fun _ K=>?_;simp only[kd,slM,Qj,aa];apply K
 refine aD (aC fun _ K=>?_);simp only[kd,aa,hml];apply K;refine aT (G:=RJ n f) (fun g=>⟨(slM (mat n n f)::jk::.raw (.bool false)::kZ (yZ n f)::j4 (j4 (jk::rN n::rN g.i::j16 (j4 (jk::jk::jk::[]))))),Hm []⟩) (fun g=>n-g.i) ⟨0,by omega,fun a ha=>by omega⟩ ?_ ?_
 ·refine aE trivial ?_;simp[wk]
 rintro⟨i,hi,ok⟩;simp only;by_cases hm:i<n
 ·refine aC fun _ K=>?_;simp(disch:=omega) only[kd,slM,kZ];apply K
  refine bu rfl ?_;refine aD (aJ ?_);refine aC fun _ K=>?_;simp only[kd];apply K
  refine aD (aC fun _ K=>?_);simp only[kd];apply K;refine aT (G:=RK n i f) (fun g=>⟨(slM (mat n n f)::jk::.raw (.bool false)::kZ (yZ n f)::jk::rN i::rN g.j::j4 (jk::jk::rN n::rN i::j16 (j4 (jk::jk::jk::[])))),Hm []⟩) (fun g=>i-g.j) ⟨0,by omega,fun a ha=>by omega⟩ ?_ ?_
  ·refine aE trivial ?_;simp[wk]
  rintro⟨j,hj,okj⟩;simp only;by_cases hm2:j<i
  ·have c1:=Dl n f i j hn hm (by omega) hf;by_cases hs:SizF f i j
   ·rw[decide_eq_true (show 2*((lam f i j).natAbs:Int)<=dd f (j+1)from hs)]at c1;refine aD (aC fun _ K=>?_);simp(disch:=omega) only[kd,aa,slM,kZ];apply K;refine aS rfl (aK ?_);refine aD (aJ ?_);refine aF [⟨4,_,_,_,c1⟩] [] fun _ K=>?_;simp only[kd,slM,kZ,aa];apply K
    refine aN rfl (aK ?_);show bf _ _ _ _;refine aL fun _ K=>?_;simp(disch:=omega) only[kd,aa,aO];apply K
    refine⟨⟨j+1,by omega,fun b hb=>?_⟩,by simp only;omega,aE trivial ?_⟩
    ·by_cases e:b=j
     ·subst e;exact hs
     exact okj b (by omega)
    simp[wk]
   have hr0:r=false:=by
    cases r with
    |false=>rfl
    |true=>exact absurd ((hr.1 rfl i hm).1 j hm2) hs
   subst hr0;rw[decide_eq_false (show ¬2*((lam f i j).natAbs:Int)<=dd f (j+1)from hs)]at c1;refine aD (aC fun _ K=>?_);simp(disch:=omega) only[kd,aa,slM,kZ];apply K;refine aS rfl (aK ?_);refine aD (aJ ?_);refine aF [⟨4,_,_,_,c1⟩] [] fun _ K=>?_;simp only[kd,slM,kZ,aa];apply K
   refine aS rfl ?_;refine aC fun _ K=>?_;simp only[kd];apply K
   (refine aH ⟨.inr rfl,aG rfl ?_ rfl⟩;simp(disch:=omega) only[kd,Tryz.results74])
  have hji:j=i:=by omega
  subst hji;refine aD (aC fun _ K=>?_);simp(disch:=omega) only[kd,aa,slM,kZ];apply K;refine aN rfl (bE ?_);show bf _ _ _ _;by_cases h0:0<j
  ·have c1:=zg n f j hn hm h0 hf;by_cases hs:LovF f j
   ·rw[decide_eq_true (show 3*(dd f j*dd f j)<=4*(dd f (j-1)*dd f (j+1)+lam f j (j-1)*lam f j (j-1))from hs)]at c1;refine aF [⟨6,_,_,_,c1⟩] [] fun _ K=>?_;simp(disch:=omega) only[kd,slM,kZ,aa];apply K
    refine aN rfl (aK ?_);show bf _ _ _ _;refine aL fun _ K=>?_;simp(disch:=omega) only[kd,aO];apply K
    refine⟨⟨j+1,by omega,fun a ha=>?_⟩,by simp only;omega,aE trivial ?_⟩
    ·by_cases e:a=j
     ·subst e;exact⟨okj,fun _=>hs⟩
     exact ok a (by omega)
    simp[wk]
   have hr0:r=false:=by
    cases r with
    |false=>rfl
    |true=>exact absurd ((hr.1 rfl j hm).2 h0) hs
   subst hr0;rw[decide_eq_false (show ¬3*(dd f j*dd f j)<=4*(dd f (j-1)*dd f (j+1)+lam f j (j-1)*lam f j (j-1))from hs)]at c1;refine aF [⟨6,_,_,_,c1⟩] [] fun _ K=>?_;simp(disch:=omega) only[kd,slM,kZ,aa];apply K
   refine aS rfl ?_;refine aC fun _ K=>?_;simp only[kd];apply K
   (refine aH ⟨.inr rfl,aG rfl ?_ rfl⟩;simp(disch:=omega) only[kd,Tryz.results74])
  have hj0:j=0:=by omega
  subst hj0;refine aC fun _ K=>?_;simp(disch:=omega) only[kd,aa];apply K
  refine aN rfl (aK ?_);show bf _ _ _ _;refine aL fun _ K=>?_;simp(disch:=omega) only[kd,aO];apply K
  refine⟨⟨1,by omega,fun a ha=>?_⟩,by simp only;omega,aE trivial ?_⟩
  ·have:a=0:=by omega
   subst this;exact⟨fun b hb=>by omega,fun h=>by omega⟩
  simp[wk]
 have hr1:r=true:=hr.2 fun a ha=>ok a (by omega)
 subst hr1;refine aC fun _ K=>?_;simp(disch:=omega) only[kd,slM,kZ];apply K
 refine bD rfl ?_;show bf _ _ _ _;refine aC fun _ K=>?_;simp only[kd];apply K
 (refine aH ⟨.inr rfl,aG rfl ?_ rfl⟩;simp(disch:=omega) only[kd,Tryz.results74])
def pr (z:Int):Prop:= -9223372036854775808<=z/\z<=9223372036854775807
theorem pr.sz {z:Int} (h:pr z) {k:Nat} (hk:2<=k):Sz z k:=by
 have:Sz z 2:=by
  unfold Sz;have:=h.1;have:=h.2;rw[show(4294967296:Nat)^2=18446744073709551616 by decide];omega
 exact this.mono hk
def MI (M:List (List Int)):Prop:= ∀r∈M,∀z∈r,pr z
theorem MI.ent {M:List (List Int)} (h:MI M) (i j:Nat):pr (ent M i j):=by
 simp only[Go.Proofs.YtfgeomlagfomgaaGreatDoor.ent,List.getD_eq_getElem?_getD];cases hr:M[i]? with
 |none=>simp[pr]
 |some r=>
  simp only[Option.getD_some];cases hz:r[j]? with
  |none=>simp[pr]
  |some z=>exact h r (au hr) z (au hz)
theorem Pl {n c:Nat} {f:FF} (hn:1<=n):Sq (mat n c f)↔n=c:=by
 unfold Sq;rw[aU];have e: ∀i,i<n->((mat n c f).getD i []).length=c:=fun i hi=>by
  rw[List.getD_eq_getElem?_getD,bs _ _ hi,Option.getD_some,bv]
 exact⟨fun h=>by rw[<- e 0 (by omega),h 0 (by omega)],fun h i hi=>by rw[e i hi,h]⟩
theorem s5 {f g:FF} {n:Nat} (h: ∀i j,i<n->j<n->f i j=g i j) (hf:RedR f n):RedR g n:=by
 obtain⟨h1,h2,h3,h4⟩:=hf;have ed: ∀k,k<=n->dk g k=dk f k:=fun k hk=>gR fun i j hi hj=>(h i j (by omega) (by omega)).symm
 have eb: ∀t i,t<n->i<n->bk g t i t=bk f t i t:=fun t i ht hi=>by
  have e1:dk (mm g i t) (t+1)=bk g t i t:=BK (fun r c hr hc=>by unfold mm;rw[if_pos hr]) (fun c hc=>by unfold mm;rw[if_neg (by omega)]);have e2:dk (mm f i t) (t+1)=bk f t i t:=BK (fun r c hr hc=>by unfold mm;rw[if_pos hr]) (fun c hc=>by unfold mm;rw[if_neg (by omega)]);rw[<- e1,<- e2];refine gR fun r c hr hc=>?_
  unfold mm;split
  ·exact(h r c (by omega) (by omega)).symm
  exact(h i c hi (by omega)).symm
 refine⟨fun i hi j hj=>by rw[<- h i j hi hj,<- h j i hj hi];exact h1 i hi j hj,fun k hk=>by rw[ed (k+1) (by omega)];exact h2 k hk,by rw[ed n (by omega)];exact h3,fun t ht=>⟨fun i hi hti=>?_,?_⟩⟩
 ·have:=(h4 t ht).1 i hi hti;rw[ed (t+1) (by omega),eb t i (by omega) hi];exact this
 have:=(h4 t ht).2;unfold K1 at*
 rw[ed (t+1) (by omega),ed t (by omega),ed (t+1+1) (by omega),eb t (t+1) (by omega) (by omega)];exact this
theorem sZ {n c:Nat} {f:FF} (hn1:1<=n):Od (mat n c f)↔n=c/\n<=8/\RedR f n:=by
 unfold Od;rw[aU,Pl hn1];constructor
 ·rintro⟨_,h8,rfl,hr⟩;exact⟨rfl,h8,s5 (fun i j hi hj=>pG f hi hj) hr⟩
 rintro⟨rfl,h8,hr⟩;exact⟨hn1,h8,rfl,s5 (fun i j hi hj=>(pG f hi hj).symm) hr⟩
theorem rB (M:List (List Int)) (hM:MI M):CallC Tryz.prog 34 [slI M] ⟨[],.raw (.bool (bF M))⟩:=by
 have hr:=dN M;generalize bF M=r at*
 by_cases hS:xz M
 ·obtain⟨n,c,f,rfl,hn1,hn,hc1,hc,hf⟩: ∃n c f,M=mat n c f/\1<=n/\n<=16/\1<=c/\c<=16/\ ∀i j:Nat,pr (f i j):=by
   have h0:=gh (M:=M) hS.1;have hh:=hS.2.2 _ (au h0);exact⟨M.length,(M.headD []).length,ent M,sh hS,hS.1,hS.2.1,hh.1,hh.2.1,fun i j=>hM.ent i j⟩
  rw[sZ hn1]at hr;have hF:=oF n c f hn1 hn hc1 hc (fun i j _ _=>hf i j);obtain⟨e,he,hV⟩:=lk n c f hn1 hn hc1 hc (fun i j _ _=>(hf i j).sz (by omega));by_cases h1:e=0
  ·obtain⟨rfl,h8,hs,hp⟩:=he.1 h1;subst h1;have hD:=AW n f hn1 hn (fun i j _ _=>(hf i j).sz (by omega));by_cases h2:detF n f<=10000
   ·rw[decide_eq_true h2]at hD;have hR:=Gj n f hn1 hn (fun i j _ _=>(hf i j).sz (by omega)) r (by
     rw[hr,<- sE hn1];exact⟨fun h=>h.2.2.2.2.2,fun h=>⟨rfl,h8,hs,hp,h2,h⟩⟩)
    refine aI Tryz.func34 rfl (by kernel_rfl) ?_;rw[Tryz.ntmps34];refine aC fun _ K=>?_;simp only[kd,slI,ae];apply K
    refine aF [⟨1,_,_,_,hF⟩] [] fun _ K=>?_;simp only[kd,slI,yY,aa];apply K
    refine aF [⟨3,_,_,_,hV⟩,⟨8,_,_,_,hD⟩,⟨12,_,_,_,hR⟩] [] fun _ K=>?_;simp(disch:=omega) only[kd,slM,aa,af];apply K
    (refine aH ⟨.inr rfl,aG rfl ?_ rfl⟩;simp(disch:=omega) only[kd,Tryz.results34])
   have hr0:r=false:=by
    cases r with
    |false=>rfl
    |true=>exact absurd ((sE hn1).2 (hr.1 rfl).2.2).2.2.1 h2
   subst hr0;rw[decide_eq_false h2]at hD;refine aI Tryz.func34 rfl (by kernel_rfl) ?_;rw[Tryz.ntmps34];refine aC fun _ K=>?_;simp only[kd,slI,ae];apply K
   refine aF [⟨1,_,_,_,hF⟩] [] fun _ K=>?_;simp only[kd,slI,yY,aa];apply K
   refine aF [⟨3,_,_,_,hV⟩,⟨8,_,_,_,hD⟩] [] fun _ K=>?_;simp(disch:=omega) only[kd,slM,aa,af];apply K
   (refine aH ⟨.inr rfl,aG rfl ?_ rfl⟩;simp(disch:=omega) only[kd,Tryz.results34])
  have hr0:r=false:=by
   cases r with
   |false=>rfl
   |true=>
    obtain⟨g1,g2,g3⟩:=hr.1 rfl;subst g1;obtain⟨g4,g5,_⟩:=(sE hn1).2 g3;exact absurd (he.2 ⟨rfl,g2,g4,g5⟩) h1
  subst hr0;refine aI Tryz.func34 rfl (by kernel_rfl) ?_;rw[Tryz.ntmps34];refine aC fun _ K=>?_;simp only[kd,slI,ae];apply K
  refine aF [⟨1,_,_,_,hF⟩] [] fun _ K=>?_;simp only[kd,slI,yY,aa];apply K
  refine aF [⟨3,_,_,_,hV⟩] [] fun _ K=>?_;simp(disch:=omega) only[kd,slM,aa,af];apply K
  (refine aH ⟨.inr rfl,aG rfl ?_ rfl⟩;simp(disch:=omega) only[kd,Tryz.results34])
 have hF:=rA M hS;have hr0:r=false:=by
  cases r with
  |false=>rfl
  |true=>
   obtain⟨g1,g2,g3,_⟩:=hr.1 rfl;refine absurd ⟨g1,by omega,fun x hx=>?_⟩ hS;obtain⟨i,hi⟩:=List.mem_iff_getElem?.1 hx;have hl: ∀(i:Nat) x,M[i]?=some x->x.length=M.length:=fun i x hi=>by
    have:=g3 i (List.getElem?_eq_some_iff.1 hi).1;rwa[List.getD_eq_getElem?_getD,hi]at this
   rw[rOk,hl i x hi,hl 0 _ (gh g1)];omega
 subst hr0;refine aI Tryz.func34 rfl (by kernel_rfl) ?_;rw[Tryz.ntmps34];refine aC fun _ K=>?_;simp only[kd,slI,ae];apply K
 refine aF [⟨1,_,_,_,hF⟩] [] fun _ K=>?_;simp only[kd,slI,Iw,aa];apply K
 refine aC fun _ K=>?_;simp(disch:=omega) only[kd,aa];apply K
 (refine aH ⟨.inr rfl,aG rfl ?_ rfl⟩;simp(disch:=omega) only[kd,Tryz.results34])
abbrev iC (l:List Int):TV:= .one (.p (.sl (ls fI l)))
theorem xG {x y:List Int} {b c:Nat} (hx: ∀i,Sz (x.getD i 0) b) (hy: ∀i,Sz (y.getD i 0) c): ∀l,Sz (fh x y l) (b+c+l)
 |0=>sO _
 |l+1=>by
  show Sz (fh x y l+x.getD l 0*y.getD l 0) _;exact(xG hx hy l).add (((hx l).mul (hy l)).mono (by omega))
theorem ss {x:List Int} {b:Nat} (h: ∀z∈x,Sz z b) (i:Nat):Sz (x.getD i 0) b:=by
 rw[List.getD_eq_getElem?_getD];cases hx:x[i]? with
 |none=>exact sO _
 |some z=>exact h z (au hx)
theorem PS (x y:List Int) (hx:x.length<=16) (hxy:x.length<=y.length) (sx: ∀z∈x,Sz z 16777216) (sy: ∀z∈y,Sz z 67108864):CallC Tryz.prog 138 [kZ x,kZ y] ⟨[],tZ (fh x y x.length)⟩:=by
 refine aI Tryz.func138 rfl (by kernel_rfl) ?_;rw[Tryz.ntmps138];refine aC fun _ K=>?_;simp(disch:=omega) only[kd,kZ,aa,ae];apply K
 refine aC fun _ K=>?_;simp(disch:=omega) only[kd,aa,ab];apply K
 refine aD (aC fun _ K=>?_);simp only[kd,aa];apply K;refine aT (G:=QP x.length) (fun g=>⟨(kZ x::kZ y::jk::jk::.one (.ptr 4 0 0 0)::.one (.ptr 5 0 0 0)::jk::jk::jk::rN x.length::rN g.i::j4 (j4 (j4 (jk::jk::jk::[])))),Hm [(4,qL),(5,qy (fh x y g.i))]⟩) (fun g=>x.length-g.i) ⟨0,by omega⟩ ?_ ?_
 ·refine(eK 5).trans (aE ⟨rfl,?_,trivial⟩ ?_)
  ·show _=qy 0;simp[zH,bi,zO,yV,y9,qy,yX,ci,ls]
  simp[wk]
 rintro⟨i,hi⟩;simp only;have hs:=xG (ss sx) (ss sy) i;by_cases hm:i<x.length
 ·obtain⟨a,ha⟩:=getElem?_of_lt hm;obtain⟨b,hb⟩:=getElem?_of_lt (l:=y) (k:=i) (by omega);have za:=sx a (au ha);have zb:=sy b (au hb);have c1:=ma a b (za.mono (by omega)) (zb.mono (by omega));have c2:=v6 (fh x y i) (a*b) (hs.mono (by omega)) ((za.mul zb).mono (by omega));have e1:fh x y i+a*b=fh x y (i+1):=by
   show _=fh x y i+x.getD i 0*y.getD i 0;rw[List.getD_eq_getElem?_getD,List.getD_eq_getElem?_getD,ha,hb];rfl
  rw[e1]at c2;refine aC fun _ K=>?_;simp(disch:=omega) only[kd,kZ];apply K
  refine bu rfl ?_;refine aD (aJ ?_);refine aC fun _ K=>?_;simp only[kd];apply K
  refine d8 aW [⟨9,_,_,_,c1⟩,⟨10,_,_,_,c2⟩] [] (by kernel_rfl) fun _ K=>?_;simp(disch:=omega) only[kd,tZ,aa,ab,ha,fZ,hb,af];apply K
  show bf _ _ _ _;refine aL fun _ K=>?_;simp(disch:=omega) only[kd,aO];apply K
  refine⟨⟨i+1,by omega⟩,by simp only;omega,aE ⟨rfl,rfl,trivial⟩ ?_⟩;simp[wk]
 have hin:i=x.length:=by omega
 subst hin;refine aC fun _ K=>?_;simp(disch:=omega) only[kd,kZ];apply K
 refine bD rfl ?_;show bf _ _ _ _;refine aC fun _ K=>?_;simp(disch:=omega) only[kd,ab,aa];apply K
 (refine aH ⟨.inr rfl,aG rfl ?_ rfl⟩;simp(disch:=omega) only[kd,Tryz.results138,ab,aa,tZ])
abbrev QW (n c:Nat) (f:FF) (y:List Int):List Int:=bz n fun i=>fh (bz c (f i)) y c
abbrev GE (v:Int) (b:Bool):TV:= .tup [(false,[.p (.raw (.int .i64 v))]),(false,[.p (.raw (.bool b))])]
def PN (z:Int):TV:=if -4611686018427387904<=z/\z<=4611686018427387904 then GE z true else GE 0 false
def FE (M:List (List Int)) (x y:List Int):TV:=if kC M x=true/\FitB M.length y=true then PN (fh x (dJ M y) x.length)else GE 0 false
theorem BA {n:Nat} {f:FF} {y:List Int} (hr:bF (mat n n f)=true) (hy:GT y=true):dJ (mat n n f) y=QW n n f y:=by
 have hs:=eW hr;have h8:=hs.2.1;rw[aU]at h8;apply List.ext_getElem?;intro i;rw[dJ,ax];by_cases hi:i<n
 ·rw[bs _ _ hi,aR _ hi];simp only[Option.map_some,bv];exact congrArg some (oL (hs.row_bd (bs _ _ hi)) (fun i z hz=>lg hy hz) n h8).1
 rw[aq (by rw[aU];omega),aq (by rw[bv];omega)];rfl
theorem ud (M:List (List Int)) (x y:List Int): ∃v b,FE M x y=GE v b/\iZ M x y= .tuple #[.int .i64 v,.bool b]:=by
 unfold FE iZ;split
 ·unfold PN tI;split
  ·exact⟨_,_,rfl,rfl⟩
  exact⟨_,_,rfl,rfl⟩
 exact⟨_,_,rfl,rfl⟩
end Go.Proofs.YtfgeomlagfomgaaGreatDoor
