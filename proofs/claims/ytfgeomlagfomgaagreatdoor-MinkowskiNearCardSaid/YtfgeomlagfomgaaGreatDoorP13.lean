/-
  Part 14 of a proof (walks and plain facts).
-/
import Derived.Test.YtfgeomlagfomgaaGreatDoorP12
set_option linter.all false
set_option maxRecDepth 100000
set_option maxHeartbeats 64000000
open Nat renaming reduceAdd → aa
open Nat renaming reduceEqDiff → ab
open List renaming replicate → ae
open Nat renaming reduceBEq → af
open Nat renaming reduceLeDiff → ah
open List renaming getElem?_eq_none → aq
open List renaming mem_of_getElem? → au
open List renaming getElem?_map → ay
namespace Go.Proofs.YtfgeomlagfomgaaGreatDoor
open Go.RowKit
theorem kP {P:Program} {c z:Code} {Q:Exit->AS->Prop} {s S:AS} (h1:bo P c (lY (fun s'=>ca s' S) Q) s) (h2:bo P z Q S):bo P c (lY (bo P z Q) Q) s:=h1.mono fun e s' h=>by
 cases e with
 |normal=>exact bo.weak h h2
 |_=>exact h
theorem Sz.mul {a b:Int} {k l:Nat} (ha:Sz a k) (hb:Sz b l):Sz (a*b) (k+l):=by
 unfold Sz at*;rw[Int.natAbs_mul,Nat.pow_add];exact Nat.mul_lt_mul'' ha hb
theorem Sz.sub {a b:Int} {k:Nat} (ha:Sz a k) (hb:Sz b k):Sz (a-b) (k+1):=by
 unfold Sz at*
 have:=Int.natAbs_sub_le a b;rw[Nat.pow_succ];generalize 4294967296^k=p at*
 omega
theorem Sz.add {a b:Int} {k:Nat} (ha:Sz a k) (hb:Sz b k):Sz (a+b) (k+1):=by
 unfold Sz at*
 have:=Int.natAbs_add_le a b;rw[Nat.pow_succ];generalize 4294967296^k=p at*
 omega
theorem Sz.ediv {a:Int} {k:Nat} (ha:Sz a k) (b:Int):Sz (a/b) k:=ha.le (Int.natAbs_ediv_le_natAbs a b)
theorem IP {f:FF} {n k:Nat}: ∀m p,n-p=m->piv f n k p<n->p<=piv f n k p/\f (piv f n k p) k≠0
 |0,p,hm,h=>by rw[rX (by omega)]at h;omega
 |m+1,p,hm,h=>by
  by_cases h0:f p k=0
  ·rw[xN (by omega) h0]at h⊢;have:=IP m (p+1) (by omega) h;exact⟨by omega,this.2⟩
  rw[xM (by omega) h0]at h⊢;exact⟨by omega,h0⟩
theorem BZ {f:FF} {n k:Nat}: ∀m p,n-p=m->piv f n k p<=n
 |0,p,hm=>by rw[rX (by omega)];omega
 |m+1,p,hm=>by
  by_cases h0:f p k=0
  ·rw[xN (by omega) h0];exact BZ m (p+1) (by omega)
  rw[xM (by omega) h0];omega
def fw (k:Nat) (last:Int) (g:FF) (i j:Nat):Nat->Nat->Int:=fun a b=>if k<a/\k<b/\(a<i\/(a=i/\b<j))then(g k k*g a b-g a k*g k b)/last else g a b
theorem Lw {k i j:Nat} (last:Int) (g:FF) (hi:k<i) (hj:k<j) (a b:Nat):upd (fw k last g i j) i j ((g k k*g i j-g i k*g k j)/last) a b=fw k last g i (j+1) a b:=by
 unfold upd fw;by_cases h1:a=i
 ·subst h1;by_cases h2:b=j
  ·subst h2;simp[hi,hj]
  have:b<j+1↔b<j:=by omega
  simp[h2,this]
 simp[h1]
theorem Og {k n:Nat} (last:Int) (g:FF) (i a b:Nat) (hb:b<n):fw k last g i n a b=fw k last g (i+1) (k+1) a b:=by
 unfold fw;have:(k<a/\k<b/\(a<i\/a=i/\b<n))↔(k<a/\k<b/\(a<i+1\/a=i+1/\b<k+1)):=by omega
 simp only[this]
theorem Lx (k:Nat) (last:Int) (g:FF):fw k last g (k+1) (k+1)=g:=by
 funext a b;unfold fw;rw[if_neg (by omega)]
theorem Of {k n:Nat} (last:Int) (g:FF) (a b:Nat) (ha:a<n):fw k last g n (k+1) a b=M9 k last g a b:=by
 unfold fw M9;have:(k<a/\k<b/\(a<n\/a=n/\b<k+1))↔(k<a/\k<b):=by omega
 simp only[this]
theorem pq {k i j a b:Nat} (last:Int) (g:FF) (h: ¬(k<a/\k<b/\(a<i\/(a=i/\b<j)))):fw k last g i j a b=g a b:=by
 unfold fw;rw[if_neg h]
theorem DJ {d n p k:Nat} (g:FF) (hp:p<n) (hk:k<n) (hne:k≠p) (r:Nat):(iy d n n (swp p k g))[r]?=
  (((⟨84,1,((gh d (ae n n)).set p [.sl d (k+1) 0 n]).set k [.sl d (p+1) 0 n]⟩::(mat n n g).map mL:List OObj))[sw (p+1) (k+1) r]?).map (uV d (p+1) (k+1)):=by
 cases r with
 |zero=>
  rw[show sw (p+1) (k+1) 0=0 by simp[sw]];simp only[List.getElem?_cons_zero,Option.map_some,uV]
  congr 2
  apply List.ext_getElem?;intro i;rw[ay,List.getElem?_set,List.getElem?_set,List.length_set,cf,List.length_replicate];by_cases hi:i<n
  ·rw[bK d n hi];by_cases h1:k=i
   ·subst h1;simp[hi,jw,nZ,sw]
   by_cases h2:p=i
   ·subst h2;simp[h1,hi,jw,nZ,sw]
   have h1': ¬i=k:=fun e=>h1 e.symm
   have h2': ¬i=p:=fun e=>h2 e.symm
   simp[h1,h2,h1',h2',jw,nZ,sw]
  have h1: ¬k=i:=by omega
  have h2: ¬p=i:=by omega
  rw[if_neg h1,if_neg h2,aq (by rw[cf,List.length_replicate];omega)];rfl
 |succ r=>
  have hsw:sw (p+1) (k+1) (r+1)=sw p k r+1:=by
   unfold sw;by_cases h1:r=p
   ·simp[h1]
   by_cases h2:r=k
   ·simp[h1,h2,hne]
   simp[h1,h2]
  have hO: ∀l:List Int,uV d (p+1) (k+1) (mL l)=mL l:=fun l=>by
   simp only[uV,mL,lc,List.map_map]
   congr 1
  rw[hsw,List.getElem?_cons_succ,List.getElem?_cons_succ,ay,ay];by_cases hr:r<n
  ·have hs:sw p k r<n:=by unfold sw;split<;>(try split)<;>omega
   rw[bv _ _ hr,bv _ _ hs];simp only[Option.map_some,hO]
   congr 3
   unfold swp sw;by_cases h1:r=p
   ·simp[h1]
   by_cases h2:r=k
   ·simp[h1,h2,hne]
   simp[h1,h2]
  have hs: ¬sw p k r<n:=by unfold sw;rw[if_neg (by omega),if_neg (by omega)];exact hr
  rw[aq (by rw[bf];omega),aq (by rw[bf];omega)];rfl
structure QF (n:Nat) (f:FF) where
 k:Nat
 g:Nat->Nat->Int
 last:Int
 neg:Bool
 b:Nat
 hk:k<=n
 hv:detG n k g last neg=detF n f
 hl:last≠0
 hb:b+1<=1025*2^k
 sg: ∀i j,i<n->j<n->Sz (g i j) b
 sl:Sz last b
structure QM (n k:Nat) (g:FF) where
 p:Nat
 hkp:k<=p
 hp:p<=n
 hv:piv g n k p=piv g n k k
structure Qv (n k:Nat) where
 i:Nat
 hk:k+1<=i
 hi:i<=n
abbrev vJ (v:Int):List OObj:=yi (decide (v<0)) (aP v.natAbs)
theorem xY:sg 0=0:=rfl
theorem Jt {z:Int} (h:z≠0):sg z≠0:=by unfold sg;split<;>simp[h]
theorem kv {k:Nat} (h:k<=16):2^k<=65536:=Nat.pow_le_pow_right (n:=2) (by omega) h
theorem ig (n:Nat) (f:FF) (hn1:1<=n) (hn:n<=16) (hf: ∀i j,i<n->j<n->Sz (f i j) 1024):
  CallC Tryz.prog 22 [slM (mat n n f)] ⟨[],tZ (detF n f)⟩:=by
 have hC:=Gj n n f (by omega) hn1 (by omega) (fun i j hi hj=>(hf i j hi hj).mono (by omega));have hS:=fW 1 (by omega) (by omega);refine aI Tryz.func22 rfl (by kernel_rfl) ?_;rw[Tryz.ntmps22];refine aD fun _ K=>?_;simp(disch:=omega) only[kd,slM,ae,aa];apply K
 refine aG [⟨1,_,_,_,hC⟩] [] fun _ K=>?_;simp only[kd,slM,aa,ab];apply K
 refine aD fun _ K=>?_;simp only[kd,aa];apply K
 refine aG [⟨0,_,_,_,hS⟩] [] fun _ K=>?_;simp(disch:=omega) only[kd,tZ,aa,ab];apply K
 refine aF (aD fun _ K=>?_);simp only[kd];apply K;refine aX (G:=QF n f) (fun g=>⟨(jk::jk::.one (.ptr 2 0 0 0)::.one (.sl 12 0 0 n)::rN n::.one (.ptr 5 0 0 0)::.raw (.bool g.neg)::rN g.k::j16 (j16 (j16 (j16 (j16 (j16 (j16 (j4 (jk::[]))))))))),Hm [(2,xf),(5,vJ g.last),(12,iy 12 n n g.g)]⟩) (fun g=>n-g.k) ⟨0,f,1,false,1024,by omega,rfl,by omega,by omega,hf,oQ (by omega)⟩ ?_ ?_
 ·refine aE ⟨rfl,rfl,?_,trivial⟩ ?_
  ·exact fP 0 12 n n f
  simp[wk]
 rintro⟨k,g,last,neg,b,hk,hv,hl,hb,sgz,slz⟩;simp only;by_cases hm:k<n
 ·have h2k:=kv (k:=k) (by omega);have hbb:b<=67174400:=by omega
  have hvk:detG n k g last neg=if piv g n k k=n then 0 else detG n (k+1) (M9 k last (O3 n k g)) (O3 n k g k k) (neg !=decide (k<piv g n k k)):=by rw[detG,if_pos hm]
  refine aF (aD fun _ K=>?_);simp(disch:=omega) only[kd,aa];apply K;refine aU rfl (aM ?_);refine aF (aK ?_);refine aD fun _ K=>?_;simp only[kd];apply K
  refine aF (kP (S:=⟨(jk::jk::.one (.ptr 2 0 0 0)::.one (.sl 12 0 0 n)::rN n::.one (.ptr 5 0 0 0)::.raw (.bool neg)::rN k::.raw (.int .i64 ((piv g n k k:Nat):Int))::j16 (j16 (j16 (j16 (j16 (j16 (j16 (j4 ([]))))))))),Hm [(2,xf),(5,vJ last),(12,iy 12 n n g)]⟩) ?_ ?_)
  ·refine aX (G:=QM n k g) (fun q=>⟨(jk::jk::.one (.ptr 2 0 0 0)::.one (.sl 12 0 0 n)::rN n::.one (.ptr 5 0 0 0)::.raw (.bool neg)::rN k::rN q.p::j16 (j16 (j16 (j16 (j16 (j16 (j16 (j4 ([]))))))))),Hm [(2,xf),(5,vJ last),(12,iy 12 n n g)]⟩) (fun q=>n-q.p) ⟨k,by omega,by omega,rfl⟩ ?_ ?_
   ·refine aE ⟨rfl,rfl,rfl,trivial⟩ ?_;simp[wk]
   rintro⟨p,hkp,hp,hpv⟩;simp only;by_cases hpn:p<n
   ·have g1:=bK (n:=n) (i:=p) 12 n hpn;have g2:=fQ n g hpn;have g3:=aT (g p) hm;have hSg:=mO (g p k) ((sgz p k hpn hm).mono (by omega));by_cases h0:g p k=0
    ·rw[h0]at hSg g3;refine aF (aG [⟨11,_,_,_,hSg⟩] [] fun _ K=>?_);simp(disch:=omega) only[kd,tZ,xY,aa,ab,g1,g2,fZ,g3];apply K;refine aU rfl (aM ?_);refine aK ?_;refine aL fun _ K=>?_;simp(disch:=omega) only[kd,aa,aO];apply K
     refine⟨⟨p+1,by omega,by omega,?_⟩,by simp only;omega,aE ⟨rfl,rfl,rfl,trivial⟩ ?_⟩
     ·rw[<- hpv,xN hpn h0]
     simp[wk]
    have hs0:=Jt h0;refine aF (aG [⟨11,_,_,_,hSg⟩] [] fun _ K=>?_);simp(disch:=omega) only[kd,tZ,aa,ab,g1,g2,fZ,g3];apply K;refine aQ rfl (bN ?_);show ca _ _;have hpe:piv g n k k=p:=by rw[<- hpv,xM hpn h0]
    refine aE ⟨rfl,rfl,rfl,trivial⟩ ?_;simp[wk,hpe]
   have hpe:piv g n k k=p:=by rw[<- hpv,rX hpn];omega
   refine aF (aD fun _ K=>?_);simp(disch:=omega) only[kd,aa];apply K;refine aQ rfl (bN ?_);show ca _ _;refine aE ⟨rfl,rfl,rfl,trivial⟩ ?_;simp[wk,hpe]
  have hpl:=BZ (f:=g) (n:=n) (k:=k) (n-k) k rfl;have hpn':=IP (f:=g) (n:=n) (k:=k) (n-k) k rfl;generalize hpp:piv g n k k=p at*
  by_cases hpn:p=n
  ·rw[if_pos hpn]at hvk;refine aF (aD fun _ K=>?_);simp(disch:=omega) only[kd,aa];apply K;refine aU rfl ?_;refine aD fun _ K=>?_;simp(disch:=omega) only[kd,ab,aa];apply K
   refine bo.weak (gy 2) ?_;refine aH ⟨.inr rfl,aJ rfl ?_ rfl⟩;rw[<- hv,hvk];simp(disch:=omega) only[kd,Tryz.results22,zH,ab,zO,AH,CI,aa,tZ];simp[cy,ls]
  rw[if_neg hpn]at hvk;obtain⟨hkp,hpk0⟩:=hpn' (by omega);refine aF (aD fun _ K=>?_);simp(disch:=omega) only[kd,aa];apply K;refine aQ rfl (aM ?_);show bo _ _ _ _;refine aF (aD fun _ K=>?_);simp only[kd,aa];apply K;refine kP (S:=⟨(jk::jk::.one (.ptr 2 0 0 0)::.one (.sl 12 0 0 n)::rN n::.one (.ptr 5 0 0 0)::.raw (.bool (neg !=decide (k<p)))::rN k::j16 (j16 (j16 (j16 (j16 (j16 (j16 (j4 (jk::[]))))))))),Hm [(2,xf),(5,vJ last),(12,iy 12 n n (swp p k g))]⟩) ?_ ?_
  ·by_cases hlt:k<p
   ·have g1:=bK (n:=n) (i:=p) 12 n (by omega);have g2:=bK (n:=n) (i:=k) 12 n (by omega);refine bQ rfl (fun _=>?_) (fun h=>by simp at h<;>omega);have g4:((gh 12 (ae n n)).set p [.sl 12 (k+1) 0 n])[k]?=some [.sl 12 (k+1) 0 n]:=by
     rw[List.getElem?_set_ne (by omega),g2]
    refine cx be (by kernel_rfl) fun _ K=>?_;simp(disch:=omega) only[kd,aa,ab,g2,g1,g4,ah,reduceCtorEq];apply K
    refine aL fun _ K=>?_;simp only[kd,aa];apply K
    refine(oW 12 (p+1) (k+1) (iy 12 n n (swp p k g)) (DJ g (by omega) hm (by omega))).trans (aE ⟨rfl,rfl,rfl,trivial⟩ ?_);simp[wk,Ct,jw,nZ,sw,hlt]
   have hpk:p=k:=by omega
   subst hpk;refine bQ rfl (fun h=>by simp at h<;>omega) (fun _=>aM ?_);show ca _ _;rw[Ap];refine aE ⟨rfl,rfl,rfl,trivial⟩ ?_;simp[wk]
  rw[O3,hpp]at hvk;have hkk:swp p k g k k≠0:=by
   unfold swp;by_cases h:k=p
   ·subst h;rw[if_pos rfl];exact hpk0
   rw[if_neg h,if_pos rfl];exact hpk0
  have hsz: ∀i j,i<n->j<n->Sz (swp p k g i j) b:=fun i j hi hj=>by
   unfold swp;split
   ·exact sgz k j hm hj
   split
   ·exact sgz p j (by omega) hj
   exact sgz i j hi hj
  generalize swp p k g=g' at*
  generalize(neg !=decide (k<p))=neg' at*
  refine aF (aD fun _ K=>?_);simp(disch:=omega) only[kd,aa,aO];apply K;refine aX (G:=Qv n k) (fun q=>⟨(jk::jk::.one (.ptr 2 0 0 0)::.one (.sl 12 0 0 n)::rN n::.one (.ptr 5 0 0 0)::.raw (.bool neg')::rN k::jk::rN q.i::j16 (j16 (j16 (j16 (j16 (j16 (j16 (jk::jk::jk::[])))))))),Hm [(2,xf),(5,vJ last),(12,iy 12 n n (fw k last g' q.i (k+1)))]⟩) (fun q=>n-q.i) ⟨k+1,by omega,by omega⟩ ?_ ?_
  ·rw[Lx];refine aE ⟨rfl,rfl,rfl,trivial⟩ ?_;simp[wk]
  rintro⟨i,hki,hin⟩;simp only;by_cases hi:i<n
  ·refine aF (aD fun _ K=>?_);simp(disch:=omega) only[kd,aa];apply K;refine aU rfl (aM ?_);refine aF (aK ?_);refine aD fun _ K=>?_;simp(disch:=omega) only[kd,aa,aO];apply K
   refine aX (G:=Qv n k) (fun q=>⟨(jk::jk::.one (.ptr 2 0 0 0)::.one (.sl 12 0 0 n)::rN n::.one (.ptr 5 0 0 0)::.raw (.bool neg')::rN k::jk::rN i::rN q.i::j16 (j16 (j16 (j16 (j16 (j16 (j16 (jk::jk::[])))))))),Hm [(2,xf),(5,vJ last),(12,iy 12 n n (fw k last g' i q.i))]⟩) (fun q=>n-q.i) ⟨k+1,by omega,by omega⟩ ?_ ?_
   ·refine aE ⟨rfl,rfl,rfl,trivial⟩ ?_;simp[wk]
   rintro⟨j,hkj,hjn⟩;simp only;by_cases hj:j<n
   ·have a1:=bK (n:=n) (i:=i) 12 n hi;have a2:=bK (n:=n) (i:=k) 12 n hm;have a3:=fQ n (fw k last g' i j) hi;have a4:=fQ n (fw k last g' i j) hm;have a5:(bA n (fw k last g' i j k))[k]?=some (g' k k):=by rw[aT _ hm,pq _ _ (by omega)]
    have a6:(bA n (fw k last g' i j i))[j]?=some (g' i j):=by rw[aT _ hj,pq _ _ (by omega)]
    have a7:(bA n (fw k last g' i j i))[k]?=some (g' i k):=by rw[aT _ hm,pq _ _ (by omega)]
    have a8:(bA n (fw k last g' i j k))[j]?=some (g' k j):=by rw[aT _ hj,pq _ _ (by omega)]
    have z1:=hsz k k hm hm;have z2:=hsz i j hi hj;have z3:=hsz i k hi hm;have z4:=hsz k j hm hj;have c1:=lU (g' k k) (g' i j) (z1.mono (by omega)) (z2.mono (by omega));have c2:=lU (g' i k) (g' k j) (z3.mono (by omega)) (z4.mono (by omega));have c3:=MY (g' k k*g' i j) (g' i k*g' k j) ((z1.mul z2).mono (by omega)) ((z3.mul z4).mono (by omega));have c4:=CN (g' k k*g' i j-g' i k*g' k j) last hl (((z1.mul z2).sub (z3.mul z4)).mono (by omega)) (slz.mono (by omega));refine aF (aD fun _ K=>?_);simp(disch:=omega) only[kd,aa];apply K;refine aU rfl (aM ?_);refine aF (aK ?_);refine dW be [⟨19,_,_,_,c1⟩,⟨34,_,_,_,c2⟩,⟨35,_,_,_,c3⟩,⟨37,_,_,_,c4⟩] [] (by kernel_rfl) fun _ K=>?_;simp(disch:=omega) only[kd,tZ,aa,ab,a1,a2,a4,fZ,a5,a3,a6,a7,a8,af,lD];apply K
    show bo _ _ _ _;refine aL fun _ K=>?_;simp(disch:=omega) only[kd,aa,aO];apply K
    refine⟨⟨j+1,by omega,by omega⟩,by simp only;omega,aE ⟨rfl,rfl,?_,trivial⟩ ?_⟩
    ·show _::_=_::_;rw[da fun a b _ _=>Lw last g' hki hkj a b]
    simp[wk]
   have hjn':j=n:=by omega
   subst hjn';refine aF (aD fun _ K=>?_);simp(disch:=omega) only[kd,aa];apply K;refine aQ rfl (bN ?_);show bo _ _ _ _;refine aL fun _ K=>?_;simp(disch:=omega) only[kd,aa,aO];apply K
   refine⟨⟨i+1,by omega,by omega⟩,by simp only;omega,aE ⟨rfl,rfl,?_,trivial⟩ ?_⟩
   ·show _::_=_::_;rw[da fun a b _ hb=>Og last g' i a b hb]
   simp[wk]
  have hin':i=n:=by omega
  subst hin';have a2:=bK (n:=i) (i:=k) 12 i hm;have a4:=fQ i (fw k last g' i (k+1)) hm;have a5:(bA i (fw k last g' i (k+1) k))[k]?=some (g' k k):=by rw[aT _ hm,pq _ _ (by omega)]
  refine aF (aD fun _ K=>?_);simp(disch:=omega) only[kd,aa];apply K;refine aQ rfl (bN ?_);show bo _ _ _ _;refine aL fun _ K=>?_;simp(disch:=omega) only[kd,aa,ab,a2,a4,fZ,a5];apply K
  show bo _ _ _ _;refine aL fun _ K=>?_;simp(disch:=omega) only[kd,aa,aO];apply K
  refine⟨⟨k+1,M9 k last g',g' k k,neg',2*b+1,by omega,by rw[<- hvk,hv],hkk,by rw[Nat.pow_succ];omega,fun x y hx hy=>?_,(hsz k k hm hm).mono (by omega)⟩,by simp only;omega,aE ⟨rfl,rfl,?_,trivial⟩ ?_⟩
  ·unfold M9;split
   ·exact((((hsz k k hm hm).mul (hsz x y hx hy)).sub ((hsz x k hx hm).mul (hsz k y hm hy))).ediv last).mono (by omega)
   exact(hsz x y hx hy).mono (by omega)
  ·show _::_=_::_;rw[da fun a b ha _=>Of last g' a b ha]
  simp[wk]
 have hkn:k=n:=by omega
 subst hkn;rw[detG,if_neg hm]at hv;have h2k:=kv (k:=k) hn;have hN:=Is last (slz.mono (by omega));refine aF (aD fun _ K=>?_);simp(disch:=omega) only[kd,aa];apply K;refine aQ rfl (bN ?_);show bo _ _ _ _;refine aF (aD fun _ K=>?_);simp only[kd];apply K;cases neg with
 |true=>
  rw[if_pos rfl]at hv;refine aU rfl ?_;refine aG [⟨1,_,_,_,hN⟩] [] fun _ K=>?_;simp(disch:=omega) only[kd,tZ,aa,ab];apply K
  rw[<- hv]
  (refine aH ⟨.inr rfl,aJ rfl ?_ rfl⟩;simp(disch:=omega) only[kd,Tryz.results22,ab,aa,tZ])
 |false=>
  rw[if_neg (by simp)]at hv;refine aQ rfl (aM ?_);show bo _ _ _ _;refine aD fun _ K=>?_;simp(disch:=omega) only[kd,ab,aa];apply K
  rw[<- hv]
  (refine aH ⟨.inr rfl,aJ rfl ?_ rfl⟩;simp(disch:=omega) only[kd,Tryz.results22,ab,aa,tZ])
theorem mT {z:Int} {k:Nat} (h:z.natAbs<4294967296) (hk:1<=k):Sz z k:=by
 have:Sz z 1:=by unfold Sz;simpa using h
 exact this.mono hk
theorem ya (k:Nat):Sz 0 k:=by unfold Sz;exact Nat.pow_pos (by omega)
theorem OP {n p k b:Nat} {g:FF} (hp:p<n) (hk:k<n) (h: ∀i j,i<n->j<n->Sz (g i j) b): ∀i j,i<n->j<n->Sz (swp p k g i j) b:=fun i j hi hj=>by
 unfold swp;split
 ·exact h k j hk hj
 split
 ·exact h p j hp hj
 exact h i j hi hj
theorem Oi {n k b:Nat} {g:FF} (last:Int) (hk:k<n) (h: ∀i j,i<n->j<n->Sz (g i j) b): ∀i j,i<n->j<n->Sz (M9 k last g i j) (2*b+1):=fun x y hx hy=>by
 unfold M9;split
 ·exact((((h k k hk hk).mul (h x y hx hy)).sub ((h x k hx hk).mul (h k y hk hy))).ediv last).mono (by omega)
 exact(h x y hx hy).mono (by omega)
theorem Dc {n:Nat} (hn:n<=16): ∀m k g last neg b,n-k=m->k<=n->(∀i j,i<n->j<n->Sz (g i j) b)->Sz last b->b+1<=1025*2^k->Sz (detG n k g last neg) 67174400
 |0,k,g,last,neg,b,hm,hk,hg,hl,hb=>by
  have h2k:=kv (k:=k) (by omega);rw[detG,if_neg (by omega)];split
  ·exact hl.neg.mono (by omega)
  exact hl.mono (by omega)
 |m+1,k,g,last,neg,b,hm,hk,hg,hl,hb=>by
  rw[detG,if_pos (by omega)];split
  ·exact ya _
  rename_i hp;have hpl:=BZ (f:=g) (n:=n) (k:=k) (n-k) k rfl;have hs:=OP (p:=piv g n k k) (k:=k) (by omega) (by omega) hg;exact Dc hn m (k+1) _ _ _ (2*b+1) (by omega) (by omega) (Oi last (by omega) hs) ((hs k k (by omega) (by omega)).mono (by omega)) (by rw[Nat.pow_succ];omega)
theorem pb {n:Nat} {f:FF} (hn:n<=16) (hf: ∀i j,i<n->j<n->Sz (f i j) 1024):Sz (detF n f) 67174400:=
 Dc hn n 0 f 1 false 1024 rfl (by omega) hf (oQ (by omega)) (by omega)
theorem jq {n c:Nat} (f:FF) (h:1<=n):((mat n c f).headD []).length=c:=by
 have:=ir (M:=mat n c f) (by rw[bf];omega);rw[bv _ _ (by omega)]at this;injection this with this
 rw[<- this,bs]
theorem pi {n c:Nat} (f:FF) (hn1:1<=n) (hn:n<=16) (hc1:1<=c) (hc:c<=16):AC (mat n c f):=by
 refine⟨by rw[bf];omega,by rw[bf];omega,fun r hr=>?_⟩;obtain⟨i,hi⟩:=List.mem_iff_getElem?.1 hr;have hin:i<n:=by
  have:=(List.getElem?_eq_some_iff.1 hi).1;rwa[bf]at this
 rw[bv _ _ hin]at hi;injection hi with hi
 rw[<- hi,rOk,bs,jq f hn1];omega
theorem CO {M:List (List Int)} (h:AC M):M=mat M.length (M.headD []).length (ent M):=rT fun r hr=>(h.2.2 r hr).2.2
theorem D1 {n:Nat} (f:FF) (hn1:1<=n) (hn:n<=16):Nh (mat n n f)= .tup [(false,[.p (.raw (.int .i64 (n:Int)))]),(false,[.p (.raw (.bool true))])]:=by
 have h:PO (mat n n f):=⟨pi f hn1 hn hn1 hn,by rw[bf,jq f hn1]⟩;unfold Nh;rw[if_pos h,bf]
theorem OE {n c:Nat} (f:FF) (hn1:1<=n) (h:n≠c):Nh (mat n c f)= .tup [(false,[.p (.raw (.int .i64 0))]),(false,[.p (.raw (.bool false))])]:=by
 unfold Nh;rw[if_neg];intro hs;have:=hs.2;rw[bf,jq f hn1]at this;exact h this
abbrev yj (n:Nat) (f:FF):List Int:=bA n fun k=>detF (k+1) f
def Pv (n:Nat) (f:FF):TV:= .tup [(false,[.p (.sl (ls fZ (yj n f)))]),(false,[.p (.raw (.bool true))])]
theorem Jj (k:Nat) (f:FF):((List.range (k+1)).map fun i=>(List.range (k+1)).map (f i))=mat (k+1) (k+1) f:=rfl
theorem qb (n:Nat) (f:FF) (hn1:1<=n) (hn:n<=16) (hf: ∀i j,i<n->j<n->Sz (f i j) 1024):CallC Tryz.prog 103 [slM (mat n n f)] ⟨[],Pv n f⟩:=by
 have hSq:=yx (mat n n f);rw[D1 f hn1 hn]at hSq;refine aI Tryz.func103 rfl (by kernel_rfl) ?_;rw[Tryz.ntmps103];refine aD fun _ K=>?_;simp only[kd,slM,ae];apply K
 refine aG [⟨1,_,_,_,hSq⟩] [] fun _ K=>?_;simp only[kd,slM,aa];apply K
 refine aF (aD fun _ K=>?_);simp only[kd];apply K;refine aQ rfl (aM ?_);show bo _ _ _ _;refine aD fun _ K=>?_;simp only[kd];apply K
 refine aF (aD fun _ K=>?_);simp only[kd];apply K;refine aX (G:=jA n) (fun g=>⟨(slM (mat n n f)::jk::.raw (.slice none 0 0)::.raw (.bool false)::rN n::jk::.one (.sl 31 0 0 g.i)::rN g.i::j16 (j4 (j4 (jk::[])))),Hm [(31,[⟨42,2,lc fZ (yj g.i f)⟩])]⟩) (fun g=>n-g.i) ⟨0,by omega⟩ ?_ ?_
 ·refine(ef (k:=6) (d:=31) 42 2 (by omega) rfl rfl).trans (aE ⟨rfl,trivial⟩ ?_);simp[wk]
 rintro⟨k,hk⟩;simp only;by_cases hm:k<n
 ·have c1:=K9 k k (by omega) (by omega);rw[<- List.range_succ]at c1;have c2:=yv n n f (List.range (k+1)) (List.range (k+1)) hn hn (fun x hx=>by have:=List.mem_range.1 hx;omega) (fun x hx=>by have:=List.mem_range.1 hx;omega) (by simp;omega) (by simp;omega);rw[Jj]at c2;have c3:=ig (k+1) f (by omega) (by omega) (fun i j hi hj=>hf i j (by omega) (by omega));have e1:lc fZ (yj k f)++[[.p (.raw (.bool (decide (detF (k+1) f<0)))),.p (.sl (ls fU (aP (detF (k+1) f).natAbs)))]]=lc fZ (yj (k+1) f):=by
   rw[tD,yj,yj,nP k]
  refine aF (aD fun _ K=>?_);simp(disch:=omega) only[kd,aa,slM];apply K;refine aU rfl (aM ?_);refine aF (aK ?_);refine j8 [⟨4,_,_,_,c1⟩,⟨7,_,_,_,c1⟩,⟨8,_,_,_,c2⟩,⟨9,_,_,_,c3⟩] [] fun _ K=>?_;simp(disch:=omega) only[kd,rH,slM,tZ,aa,af,Nat.reduceMul,ah,bs,e1];apply K
  show bo _ _ _ _;refine aL fun _ K=>?_;simp(disch:=omega) only[kd,aa,aO];apply K
  refine⟨⟨k+1,by omega⟩,by simp only;omega,aE ⟨rfl,trivial⟩ ?_⟩;simp[wk]
 have hkn:k=n:=by omega
 subst hkn;refine aF (aD fun _ K=>?_);simp(disch:=omega) only[kd,aa,slM];apply K;refine aQ rfl (bN ?_);show bo _ _ _ _;refine aD fun _ K=>?_;simp only[kd,aa];apply K
 refine aH ⟨.inr rfl,iM 31 (cw rfl) ?_ rfl⟩;have eT:List.take k (yj k f)=yj k f:=List.take_of_length_le (by rw[bs];omega);simp(disch:=omega) only[kd,Tryz.results103,eT,Pv]
structure Qx (n:Nat) (f:FF) where
 i:Nat
 hi:i<=n
 ok: ∀a,a<i-> ∀b,b<a->f a b=f b a
structure Qy (n i:Nat) (f:FF) where
 j:Nat
 hj:j<=i
 ok: ∀b,b<j->f i b=f b i
theorem vL (a:Int):pa a a=0:=by simp[pa]
theorem yR {a b:Int} (h:a≠b):pa a b≠0:=by unfold pa;split<;>(try split)<;>omega
theorem l9 (n:Nat) (f:FF) (hn:n<=16) (hf: ∀i j,i<n->j<n->Sz (f i j) 1024) (r:Bool) (hr:r=true↔SymF f n):CallC Tryz.prog 79 [slM (mat n n f)] ⟨[],.raw (.bool r)⟩:=by
 have hml:=bf n n f;refine aI Tryz.func79 rfl (by kernel_rfl) ?_;rw[Tryz.ntmps79];refine aD fun _ K=>?_;simp only[kd,slM,ae];apply K
 refine aF (aD fun _ K=>?_);simp only[kd,aa,hml];apply K;refine aX (G:=Qx n f) (fun g=>⟨(slM (mat n n f)::jk::.raw (.bool false)::jk::jk::jk::rN n::rN g.i::j16 (j4 (j4 ([])))),Hm []⟩) (fun g=>n-g.i) ⟨0,by omega,fun a ha=>by omega⟩ ?_ ?_
 ·refine aE trivial ?_;simp[wk]
 rintro⟨i,hi,ok⟩;simp only;by_cases hm:i<n
 ·refine aD fun _ K=>?_;simp(disch:=omega) only[kd,slM];apply K
  refine bx rfl ?_;refine aF (aK ?_);refine aD fun _ K=>?_;simp only[kd];apply K
  refine aD fun _ K=>?_;simp only[kd];apply K
  refine aX (G:=Qy n i f) (fun g=>⟨(slM (mat n n f)::jk::.raw (.bool false)::rN i::rN g.j::jk::rN n::rN i::j16 (j4 (j4 ([])))),Hm []⟩) (fun g=>i-g.j) ⟨0,by omega,fun a ha=>by omega⟩ ?_ ?_
  ·refine aE trivial ?_;simp[wk]
  rintro⟨j,hj,okj⟩;simp only;by_cases hm2:j<i
  ·have a1:=bv n f hm;have a2:=bv n f (show j<n by omega);have a3:=aT (f i) (show j<n by omega);have a4:=aT (f j) hm;have c1:=ym (f i j) (f j i) ((hf i j hm (by omega)).mono (by omega)) ((hf j i (by omega) hm).mono (by omega));by_cases he:f i j=f j i
   ·rw[he,vL]at c1;rw[he]at a3;refine aF (aD fun _ K=>?_);simp(disch:=omega) only[kd,aa,slM];apply K;refine aU rfl (aM ?_);refine aF (aK ?_);refine bu be [⟨14,_,_,_,c1⟩] [] (by kernel_rfl) fun _ K=>?_;simp(disch:=omega) only[kd,tZ,aa,a1,fR,a3,fZ,a2,a4];apply K
    refine aQ rfl (aM ?_);show bo _ _ _ _;refine aL fun _ K=>?_;simp(disch:=omega) only[kd,aa,aO];apply K
    refine⟨⟨j+1,by omega,fun b hb=>?_⟩,by simp only;omega,aE trivial ?_⟩
    ·by_cases e:b=j
     ·subst e;exact he
     exact okj b (by omega)
    simp[wk]
   have hr0:r=false:=by
    cases r with
    |false=>rfl
    |true=>exact absurd (hr.1 rfl i hm j (by omega)) he
   subst hr0;have hne:=yR he;refine aF (aD fun _ K=>?_);simp(disch:=omega) only[kd,aa,slM];apply K;refine aU rfl (aM ?_);refine aF (aK ?_);refine bu be [⟨14,_,_,_,c1⟩] [] (by kernel_rfl) fun _ K=>?_;simp(disch:=omega) only[kd,tZ,aa,a1,fR,a3,fZ,a2,a4];apply K
   refine aU rfl ?_;refine aD fun _ K=>?_;simp only[kd];apply K
   (refine aH ⟨.inr rfl,aJ rfl ?_ rfl⟩;simp(disch:=omega) only[kd,Tryz.results79])
  refine aF (aD fun _ K=>?_);simp(disch:=omega) only[kd,aa,slM];apply K;refine aQ rfl (bN ?_);show bo _ _ _ _;refine aL fun _ K=>?_;simp(disch:=omega) only[kd,aO];apply K
  refine⟨⟨i+1,by omega,fun a ha b hb=>?_⟩,by simp only;omega,aE trivial ?_⟩
  ·by_cases e:a=i
   ·subst e;exact okj b (by omega)
   exact ok a (by omega) b hb
  simp[wk]
 have hr1:r=true:=hr.2 fun a ha b hb=>by
  rcases Nat.lt_trichotomy a b with h|h|h
  ·exact(ok b (by omega) a h).symm
  ·rw[h]
  exact ok a (by omega) b h
 subst hr1;refine aD fun _ K=>?_;simp(disch:=omega) only[kd,slM];apply K
 refine bG rfl ?_;show bo _ _ _ _;refine aD fun _ K=>?_;simp only[kd];apply K
 (refine aH ⟨.inr rfl,aJ rfl ?_ rfl⟩;simp(disch:=omega) only[kd,Tryz.results79])
structure QG (n:Nat) (f:FF) where
 i:Nat
 hi:i<=n
 ok: ∀a,a<i->0<detF (a+1) f
theorem Cl {z:Int} (h:0<z):sg z=1:=by unfold sg;rw[if_neg (by omega),if_neg (by omega)]
theorem DX {z:Int} (h: ¬0<z):sg z<=0:=by unfold sg;split<;>(try split)<;>omega
theorem si (n:Nat) (f:FF) (hn1:1<=n) (hn:n<=16) (hf: ∀i j,i<n->j<n->Sz (f i j) 1024) (hs:SymF f n) (r:Bool) (hr:r=true↔wT f n):CallC Tryz.prog 80 [slM (mat n n f)] ⟨[],.raw (.bool r)⟩:=by
 have hL:=qb n f hn1 hn hf;have hS:=l9 n f hn hf true (by simp[hs]);refine aI Tryz.func80 rfl (by kernel_rfl) ?_;rw[Tryz.ntmps80];refine aD fun _ K=>?_;simp only[kd,slM,ae];apply K
 refine aG [⟨1,_,_,_,hL⟩] [] fun _ K=>?_;simp only[kd,slM,Pv,aa];apply K
 refine aF (aG [⟨4,_,_,_,hS⟩] [] fun _ K=>?_);simp(disch:=omega) only[kd,slM,aa];apply K;refine aQ rfl (aM ?_);show bo _ _ _ _;refine aF (aD fun _ K=>?_);simp only[kd,aa,bs];apply K;refine aX (G:=QG n f) (fun g=>⟨(jk::jk::.raw (.bool false)::j16 (.one (.p (.sl (ls fZ (yj n f))))::rN n::rN g.i::j4 (jk::jk::jk::[]))),Hm []⟩) (fun g=>n-g.i) ⟨0,by omega,fun a ha=>by omega⟩ ?_ ?_
 ·refine aE trivial ?_;simp[wk]
 rintro⟨i,hi,ok⟩;simp only;by_cases hm:i<n
 ·have a1:(yj n f)[i]?=some (detF (i+1) f):=aT _ hm;have hz:=pb (n:=i+1) (f:=f) (by omega) (fun a b ha hb=>hf a b (by omega) (by omega));have c1:=mO (detF (i+1) f) (hz.mono (by omega));refine aD fun _ K=>?_;simp(disch:=omega) only[kd];apply K
  refine bx rfl ?_;refine aF (aK ?_);refine aD fun _ K=>?_;simp(disch:=omega) only[kd,aa,a1,fZ];apply K
  by_cases hp:0<detF (i+1) f
  ·rw[Cl hp]at c1;refine aG [⟨1,_,_,_,c1⟩] [] fun _ K=>?_;simp(disch:=omega) only[kd,tZ,aa,Int.reduceLE];apply K
   refine aQ rfl (aM ?_);show bo _ _ _ _;refine aL fun _ K=>?_;simp(disch:=omega) only[kd,aO];apply K
   refine⟨⟨i+1,by omega,fun a ha=>?_⟩,by simp only;omega,aE trivial ?_⟩
   ·by_cases e:a=i
    ·subst e;exact hp
    exact ok a (by omega)
   simp[wk]
  have hr0:r=false:=by
   cases r with
   |false=>rfl
   |true=>exact absurd (hr.1 rfl i hm) hp
  subst hr0;have hle:=DX hp;refine aG [⟨1,_,_,_,c1⟩] [] fun _ K=>?_;simp(disch:=omega) only[kd,tZ,aa];apply K
  refine aU rfl ?_;refine aD fun _ K=>?_;simp only[kd];apply K
  (refine aH ⟨.inr rfl,aJ rfl ?_ rfl⟩;simp(disch:=omega) only[kd,Tryz.results80])
 have hr1:r=true:=hr.2 fun a ha=>ok a (by omega)
 subst hr1;refine aD fun _ K=>?_;simp(disch:=omega) only[kd];apply K
 refine bG rfl ?_;show bo _ _ _ _;refine aD fun _ K=>?_;simp only[kd];apply K
 (refine aH ⟨.inr rfl,aJ rfl ?_ rfl⟩;simp(disch:=omega) only[kd,Tryz.results80])
theorem xj (a b:Int):decide (pa a b<=0)=decide (a<=b):=by
 unfold pa;split
 ·simp;omega
 split
 ·simp;omega
 simp;omega
theorem KP (a b:Int):decide (0<=pa a b)=decide (b<=a):=by
 unfold pa;split
 ·simp;omega
 split
 ·simp;omega
 simp;omega
theorem Ak (n:Nat) (f:FF) (hn1:1<=n) (hn:n<=16) (hf: ∀i j,i<n->j<n->Sz (f i j) 1024):CallC Tryz.prog 62 [slM (mat n n f)] ⟨[],.raw (.bool (decide (detF n f<=10000)))⟩:=by
 have hD:=ig n f hn1 hn hf;have hS:=fW 10000 (by omega) (by omega);have hC:=ym (detF n f) 10000 ((pb hn hf).mono (by omega)) (mT (by decide) (by omega));have hle:=xj (detF n f) 10000;refine aI Tryz.func62 rfl (by kernel_rfl) ?_;rw[Tryz.ntmps62];refine aD fun _ K=>?_;simp only[kd,slM,ae];apply K
 refine aG [⟨1,_,_,_,hD⟩,⟨2,_,_,_,hS⟩,⟨3,_,_,_,hC⟩] [] fun _ K=>?_;simp(disch:=omega) only[kd,slM,tZ,aa,af,hle];apply K
 (refine aH ⟨.inr rfl,aJ rfl ?_ rfl⟩;simp(disch:=omega) only[kd,Tryz.results62])
theorem kO (n c:Nat) (f:FF) (hn1:1<=n) (hn:n<=16) (hc1:1<=c) (hc:c<=16) (hf: ∀i j,i<n->j<c->Sz (f i j) 1024):
  ∃e:Int,(e=0↔(n=c/\n<=8/\SymF f n/\wT f n))/\CallC Tryz.prog 38 [slM (mat n c f)] ⟨[],.raw (.int .i64 e)⟩:=by
 have hSq:=yx (mat n c f);by_cases h1:n=c
 ·subst h1;rw[D1 f hn1 hn]at hSq;by_cases h2:8<n
  ·refine⟨3,by omega,?_⟩;refine aI Tryz.func38 rfl (by kernel_rfl) ?_;rw[Tryz.ntmps38];refine aD fun _ K=>?_;simp only[kd,slM,ae];apply K
   refine aG [⟨1,_,_,_,hSq⟩] [] fun _ K=>?_;simp only[kd,slM,aa];apply K
   refine aF (aK ?_);refine aD fun _ K=>?_;simp(disch:=omega) only[kd,aa];apply K
   refine aU rfl ?_;refine aD fun _ K=>?_;simp only[kd];apply K
   (refine aH ⟨.inr rfl,aJ rfl ?_ rfl⟩;simp(disch:=omega) only[kd,Tryz.results38])
  by_cases h3:SymF f n
  ·have hS:=l9 n f hn hf true (by simp[h3]);by_cases h4:wT f n
   ·have hD:=si n f hn1 hn hf h3 true (by simp[h4]);refine⟨0,by simp[h3,h4];omega,?_⟩;refine aI Tryz.func38 rfl (by kernel_rfl) ?_;rw[Tryz.ntmps38];refine aD fun _ K=>?_;simp only[kd,slM,ae];apply K
    refine aG [⟨1,_,_,_,hSq⟩] [] fun _ K=>?_;simp only[kd,slM,aa];apply K
    refine aF (aK ?_);refine aD fun _ K=>?_;simp(disch:=omega) only[kd,aa];apply K
    refine aQ rfl ?_;refine aG [⟨1,_,_,_,hS⟩] [] fun _ K=>?_;simp only[kd,slM,aa];apply K
    refine aQ rfl ?_;refine aG [⟨1,_,_,_,hD⟩] [] fun _ K=>?_;simp only[kd,slM,aa];apply K
    refine aQ rfl (aM ?_);show bo _ _ _ _;refine aD fun _ K=>?_;simp only[kd];apply K
    (refine aH ⟨.inr rfl,aJ rfl ?_ rfl⟩;simp(disch:=omega) only[kd,Tryz.results38])
   have hD:=si n f hn1 hn hf h3 false (by simp[h4]);refine⟨5,by simp[h4],?_⟩;refine aI Tryz.func38 rfl (by kernel_rfl) ?_;rw[Tryz.ntmps38];refine aD fun _ K=>?_;simp only[kd,slM,ae];apply K
   refine aG [⟨1,_,_,_,hSq⟩] [] fun _ K=>?_;simp only[kd,slM,aa];apply K
   refine aF (aK ?_);refine aD fun _ K=>?_;simp(disch:=omega) only[kd,aa];apply K
   refine aQ rfl ?_;refine aG [⟨1,_,_,_,hS⟩] [] fun _ K=>?_;simp only[kd,slM,aa];apply K
   refine aQ rfl ?_;refine aG [⟨1,_,_,_,hD⟩] [] fun _ K=>?_;simp only[kd,slM,aa];apply K
   refine aU rfl ?_;refine aD fun _ K=>?_;simp only[kd];apply K
   (refine aH ⟨.inr rfl,aJ rfl ?_ rfl⟩;simp(disch:=omega) only[kd,Tryz.results38])
  have hS:=l9 n f hn hf false (by simp[h3]);refine⟨4,by simp[h3],?_⟩;refine aI Tryz.func38 rfl (by kernel_rfl) ?_;rw[Tryz.ntmps38];refine aD fun _ K=>?_;simp only[kd,slM,ae];apply K
  refine aG [⟨1,_,_,_,hSq⟩] [] fun _ K=>?_;simp only[kd,slM,aa];apply K
  refine aF (aK ?_);refine aD fun _ K=>?_;simp(disch:=omega) only[kd,aa];apply K
  refine aQ rfl ?_;refine aG [⟨1,_,_,_,hS⟩] [] fun _ K=>?_;simp only[kd,slM,aa];apply K
  refine aU rfl ?_;refine aD fun _ K=>?_;simp only[kd];apply K
  (refine aH ⟨.inr rfl,aJ rfl ?_ rfl⟩;simp(disch:=omega) only[kd,Tryz.results38])
 rw[OE f hn1 h1]at hSq;refine⟨3,by simp[h1],?_⟩;refine aI Tryz.func38 rfl (by kernel_rfl) ?_;rw[Tryz.ntmps38];refine aD fun _ K=>?_;simp only[kd,slM,ae];apply K
 refine aG [⟨1,_,_,_,hSq⟩] [] fun _ K=>?_;simp only[kd,slM,aa];apply K
 refine aF (aK ?_);refine aD fun _ K=>?_;simp(disch:=omega) only[kd,aa,reduceCtorEq];apply K
 refine aU rfl ?_;refine aD fun _ K=>?_;simp only[kd];apply K
 (refine aH ⟨.inr rfl,aJ rfl ?_ rfl⟩;simp(disch:=omega) only[kd,Tryz.results38])
abbrev kC (l:List Int):TV:= .one (.p (.sl (ls fZ l)))
theorem Me (i j:Nat) (f:FF):((List.range j++[i]).map fun r=>(List.range (j+1)).map (f r))=mat (j+1) (j+1) (l7 f i j):=by
 rw[mat,List.range_succ,List.map_append,List.map_append]
 congr 1
 ·refine List.map_congr_left fun r hr=>?_
  have:=List.mem_range.1 hr;rw[<- List.range_succ];exact eK (m:=j+1) fun c _=>by unfold l7;rw[if_pos this]
 simp only[List.map_cons,List.map_nil];rw[<- List.range_succ]
 congr 1
 exact eK (m:=j+1) fun c _=>by unfold l7;rw[if_neg (by omega)]
theorem Dx {n i j:Nat} {f:FF} (hi:i<n) (hj:j<n) (hf: ∀i j,i<n->j<n->Sz (f i j) 1024): ∀r c,r<j+1->c<j+1->Sz (l7 f i j r c) 1024:=fun r c hr hc=>by
 unfold l7;split
 ·exact hf r c (by omega) (by omega)
 exact hf i c hi (by omega)
theorem BD {n i j:Nat} {f:FF} (hn:n<=16) (hi:i<n) (hj:j<n) (hf: ∀i j,i<n->j<n->Sz (f i j) 1024):Sz (lam f i j) 67174400:=
 pb (by omega) (Dx hi hj hf)
theorem yU {n k:Nat} {f:FF} (hn:n<=16) (hk:k<=n) (hf: ∀i j,i<n->j<n->Sz (f i j) 1024):Sz (dd f k) 67174400:=by
 unfold dd;split
 ·exact oQ (by omega)
 exact pb (by omega) fun i j hi hj=>hf i j (by omega) (by omega)
theorem sn (n:Nat) (f:FF) (i j:Nat) (hn:n<=16) (hi:i<n) (hj:j<n) (hf: ∀i j,i<n->j<n->Sz (f i j) 1024):
  CallC Tryz.prog 107 [slM (mat n n f),.raw (.int .i64 (i:Int)),.raw (.int .i64 (j:Int))] ⟨[],tZ (lam f i j)⟩:=by
 have c2:=yv n n f (List.range j++[i]) (List.range (j+1)) hn hn (fun x hx=>by
  rcases List.mem_append.1 hx with h|h
  ·have:=List.mem_range.1 h;omega
  have:x=i:=by simpa using h
  omega) (fun x hx=>by have:=List.mem_range.1 hx;omega) (by simp;omega) (by simp;omega)
 rw[Me]at c2;have c3:=ig (j+1) (l7 f i j) (by omega) (by omega) (Dx hi hj hf);refine aI Tryz.func107 rfl (by kernel_rfl) ?_;rw[Tryz.ntmps107];refine aD fun _ K=>?_;simp(disch:=omega) only[kd,slM,aa,ae];apply K
 refine aD fun _ K=>?_;simp only[kd];apply K
 refine aF (aD fun _ K=>?_);simp only[kd];apply K;refine aX (G:=jA j) (fun g=>⟨(slM (mat n n f)::rN i::rN j::jk::jk::jk::.one (.ptr 6 0 0 0)::.one (.sl 18 0 0 g.i)::.one (.sl 22 0 0 g.i)::rN g.i::j16 (j4 (j4 ([])))),Hm [(6,xf),(18,[⟨3,1,lc fN (List.range g.i)⟩]),(22,[⟨3,1,lc fN (List.range g.i)⟩])]⟩) (fun g=>j-g.i) ⟨0,by omega⟩ ?_ ?_
 ·refine(ef (k:=7) (d:=18) 3 1 (by omega) rfl rfl).trans ((ef (k:=8) (d:=22) 3 1 (by omega) rfl rfl).trans (aE ⟨rfl,rfl,rfl,trivial⟩ ?_));simp[wk]
 rintro⟨k,hk⟩;simp only;by_cases hm:k<j
 ·refine aF (aD fun _ K=>?_);simp(disch:=omega) only[kd,aa,slM];apply K;refine aU rfl (aM ?_);refine aF (aK ?_);refine aD fun _ K=>?_;simp(disch:=omega) only[kd,aa,Nat.reduceMul,ah,ab,List.length_range,mv,af];apply K
  refine aL fun _ K=>?_;simp(disch:=omega) only[kd,aa,Nat.reduceMul,ah,ab,List.length_range,mv,af];apply K
  show bo _ _ _ _;refine aL fun _ K=>?_;simp(disch:=omega) only[kd,aa,aO];apply K
  refine⟨⟨k+1,by omega⟩,by simp only;omega,aE ⟨rfl,?_,?_,trivial⟩ ?_⟩
  ·rw[List.range_succ];rfl
  ·rw[List.range_succ];rfl
  simp[wk]
 have hkj:k=j:=by omega
 subst hkj;refine aF (aD fun _ K=>?_);simp(disch:=omega) only[kd,aa,slM];apply K;refine aQ rfl (bN ?_);show bo _ _ _ _;refine vt 9 [⟨9,_,_,_,c2⟩,⟨10,_,_,_,c3⟩] [] (by simp) (by decide) fun _ K=>?_;simp(disch:=omega) only[kd,slM,rH,tZ,aa,Nat.reduceMul,ah,ab,List.length_range,mv,af];apply K
 refine⟨⟨(j4 (jk::jk::.one (.ptr 6 0 0 0)::j16 (slM (mat n n f)::jk::jk::jk::rH (List.range k++[i])::jk::jk::jk::rH (List.range (k+1))::jk::jk::[]))),Hm [(6,xf)]⟩,(bH 18 (cw rfl)).trans ((bH 22 (cw rfl)).trans (aE ⟨rfl,trivial⟩ ?_)),by simp[wk],?_⟩
 ·simp[wk,gC,fb,bj,Hm,fO,gE,List.range_succ,List.take_of_length_le]
 intro _ K;simp(disch:=omega) only[kd,slM,rH,tZ,aa,af];apply K;rw[<- lam]
 (refine aH ⟨.inr rfl,aJ rfl ?_ rfl⟩;simp(disch:=omega) only[kd,Tryz.results107,aa,tZ])
theorem pk (n:Nat) (f:FF) (k:Nat) (hn:n<=16) (hk:k<=n):
  CallC Tryz.prog 108 [kC (yj n f),.raw (.int .i64 (k:Int))] ⟨[],tZ (dd f k)⟩:=by
 have c1:=fW 1 (by omega) (by omega);by_cases h0:k=0
 ·subst h0;rw[show dd f 0=1 from rfl];refine aI Tryz.func108 rfl (by kernel_rfl) ?_;rw[Tryz.ntmps108];refine aD fun _ K=>?_;simp(disch:=omega) only[kd,kC,aa,ae];apply K
  refine aF (aD fun _ K=>?_);simp(disch:=omega) only[kd];apply K;refine aU rfl ?_;refine aG [⟨0,_,_,_,c1⟩] [] fun _ K=>?_;simp(disch:=omega) only[kd,tZ,aa];apply K
  (refine aH ⟨.inr rfl,aJ rfl ?_ rfl⟩;simp(disch:=omega) only[kd,Tryz.results108,aa,tZ])
 rw[show dd f k=detF k f from if_neg h0];have e1:((k:Int)-1).toNat=k-1:=by omega
 have a1:(yj n f)[k-1]?=some (detF k f):=by rw[aT _ (by omega),show k-1+1=k by omega]
 refine aI Tryz.func108 rfl (by kernel_rfl) ?_;rw[Tryz.ntmps108];refine aD fun _ K=>?_;simp(disch:=omega) only[kd,kC,aa,ae];apply K
 refine aF (aD fun _ K=>?_);simp(disch:=omega) only[kd];apply K;refine aQ rfl (aM ?_);show bo _ _ _ _;refine aD fun _ K=>?_;simp(disch:=omega) only[kd,aa,aO,e1,a1,fZ];apply K
 (refine aH ⟨.inr rfl,aJ rfl ?_ rfl⟩;simp(disch:=omega) only[kd,Tryz.results108,aa,tZ])
theorem CQ (n:Nat) (f:FF) (i j:Nat) (hn:n<=16) (hi:i<n) (hj:j<n) (hf: ∀i j,i<n->j<n->Sz (f i j) 1024):
  CallC Tryz.prog 104 [slM (mat n n f),kC (yj n f),.raw (.int .i64 (i:Int)),.raw (.int .i64 (j:Int))] ⟨[],.raw (.bool (decide (2*((lam f i j).natAbs:Int)<=dd f (j+1))))⟩:=by
 have hl:=BD hn hi hj hf;have hd:=yU (k:=j+1) hn (by omega) hf;have hla:Sz ((lam f i j).natAbs:Int) 67174400:=hl.le (by omega);have hm:Sz (2*((lam f i j).natAbs:Int)) (1+67174400):=Sz.mul (mT (by decide) (by omega)) hla;have c1:=fW 2 (by omega) (by omega);have c2:=sn n f i j hn hi hj hf;have c3:=GF (lam f i j) (hl.mono (by omega));have c4:=lU 2 ((lam f i j).natAbs:Int) (mT (by decide) (by omega)) (hla.mono (by omega));have c5:=pk n f (j+1) hn (by omega);rw[show((j+1:Nat):Int)=(j:Int)+1 by omega]at c5;have c6:=ym (2*((lam f i j).natAbs:Int)) (dd f (j+1)) (hm.mono (by omega)) (hd.mono (by omega));have hle:=xj (2*((lam f i j).natAbs:Int)) (dd f (j+1));generalize lam f i j=l at*
 generalize dd f (j+1)=d at*
 refine aI Tryz.func104 rfl (by kernel_rfl) ?_;rw[Tryz.ntmps104];refine aD fun _ K=>?_;simp only[kd,slM,kC,aa,ae];apply K
 refine aG [⟨0,_,_,_,c1⟩,⟨4,_,_,_,c2⟩,⟨5,_,_,_,c3⟩,⟨6,_,_,_,c4⟩,⟨10,_,_,_,c5⟩,⟨11,_,_,_,c6⟩] [] fun _ K=>?_;simp(disch:=omega) only[kd,tZ,slM,kC,aa,af,aO,hle];apply K
 (refine aH ⟨.inr rfl,aJ rfl ?_ rfl⟩;simp(disch:=omega) only[kd,Tryz.results104])
theorem yu (n:Nat) (f:FF) (i:Nat) (hn:n<=16) (hi:i<n) (h0:0<i) (hf: ∀i j,i<n->j<n->Sz (f i j) 1024):
  CallC Tryz.prog 109 [slM (mat n n f),kC (yj n f),.raw (.int .i64 (i:Int))] ⟨[],.raw (.bool (decide (3*(dd f i*dd f i)<=4*(dd f (i-1)*dd f (i+1)+lam f i (i-1)*lam f i (i-1)))))⟩:=by
 have hl:=BD (j:=i-1) hn hi (by omega) hf;have d0:=yU (k:=i-1) hn (by omega) hf;have d1:=yU (k:=i) hn (by omega) hf;have d2:=yU (k:=i+1) hn (by omega) hf;have c0:=sn n f i (i-1) hn hi (by omega) hf;have c1:=pk n f (i-1) hn (by omega);have c2:=pk n f (i+1) hn (by omega);have c3:=pk n f i hn (by omega);rw[show((i+1:Nat):Int)=(i:Int)+1 by omega]at c2;rw[show((i-1:Nat):Int)=(i:Int)-1 by omega]at c0 c1;have s4:=fW 4 (by omega) (by omega);have s3:=fW 3 (by omega) (by omega);generalize lam f i (i-1)=l at*
 generalize dd f (i-1)=a at*
 generalize dd f (i+1)=b at*
 generalize dd f i=d at*
 have z1:Sz (a*b) 134348800:=(d0.mul d2).mono (by omega);have z2:Sz (l*l) 134348800:=(hl.mul hl).mono (by omega);have z3:Sz (a*b+l*l) 134348801:=z1.add z2;have z4:Sz (4*(a*b+l*l)) 134348802:=(Sz.mul (mT (k:=1) (by decide) (by omega)) z3).mono (by omega);have z5:Sz (d*d) 134348800:=(d1.mul d1).mono (by omega);have z6:Sz (3*(d*d)) 134348802:=(Sz.mul (mT (k:=1) (by decide) (by omega)) z5).mono (by omega);have m1:=lU a b (d0.mono (by omega)) (d2.mono (by omega));have m2:=lU l l (hl.mono (by omega)) (hl.mono (by omega));have m3:=vn (a*b) (l*l) (z1.mono (by omega)) (z2.mono (by omega));have m4:=lU 4 (a*b+l*l) (mT (by decide) (by omega)) (z3.mono (by omega));have m5:=lU d d (d1.mono (by omega)) (d1.mono (by omega));have m6:=lU 3 (d*d) (mT (by decide) (by omega)) (z5.mono (by omega));have m7:=ym (4*(a*b+l*l)) (3*(d*d)) (z4.mono (by omega)) (z6.mono (by omega));have hge:=KP (4*(a*b+l*l)) (3*(d*d));refine aI Tryz.func109 rfl (by kernel_rfl) ?_;rw[Tryz.ntmps109];refine aD fun _ K=>?_;simp only[kd,slM,kC,aa,ae];apply K
 refine aG [⟨4,_,_,_,c0⟩] [] fun _ K=>?_;simp(disch:=omega) only[kd,slM,tZ,aa,aO];apply K
 refine bu be [⟨0,_,_,_,s4⟩,⟨4,_,_,_,c1⟩,⟨8,_,_,_,c2⟩,⟨9,_,_,_,m1⟩,⟨12,_,_,_,m2⟩,⟨13,_,_,_,m3⟩,⟨14,_,_,_,m4⟩] [] (by kernel_rfl) fun _ K=>?_;simp(disch:=omega) only[kd,tZ,kC,aa,aO,af,ab];apply K
 refine bu be [⟨1,_,_,_,s3⟩,⟨4,_,_,_,c3⟩,⟨7,_,_,_,c3⟩,⟨8,_,_,_,m5⟩,⟨9,_,_,_,m6⟩,⟨10,_,_,_,m7⟩] [] (by kernel_rfl) fun _ K=>?_;simp(disch:=omega) only[kd,tZ,kC,aa,ab,af,hge];apply K
 (refine aH ⟨.inr rfl,aJ rfl ?_ rfl⟩;simp(disch:=omega) only[kd,Tryz.results109])
structure QN (n:Nat) (f:FF) where
 i:Nat
 hi:i<=n
 ok: ∀a,a<i->(∀b,b<a->SizF f a b)/\(0<a->LovF f a)
structure QO (n i:Nat) (f:FF) where
 j:Nat
 hj:j<=i
 ok: ∀b,b<j->SizF f i b
theorem FG (n:Nat) (f:FF) (hn1:1<=n) (hn:n<=16) (hf: ∀i j,i<n->j<n->Sz (f i j) 1024) (r:Bool) (hr:r=true↔NB f n):
  CallC Tryz.prog 74 [slM (mat n n f)] ⟨[],.raw (.bool r)⟩:=by
 have hL:=qb n f hn1 hn hf;have hml:=bf n n f;refine aI Tryz.func74 rfl (by kernel_rfl) ?_;rw[Tryz.ntmps74];refine aD fun _ K=>?_;simp only[kd,slM,ae];apply K
 refine aG [⟨1,_,_,_,hL⟩] [] fun _ K=>?_;simp only[kd,slM,Pv,aa];apply K
 refine aF (aD fun _ K=>?_);simp only[kd,aa,hml];apply K;refine aX (G:=QN n f) (fun g=>⟨(slM (mat n n f)::jk::.raw (.bool false)::kC (yj n f)::j4 (j4 (jk::rN n::rN g.i::j16 (j4 (jk::jk::jk::[]))))),Hm []⟩) (fun g=>n-g.i) ⟨0,by omega,fun a ha=>by omega⟩ ?_ ?_
 ·refine aE trivial ?_;simp[wk]
 rintro⟨i,hi,ok⟩;simp only;by_cases hm:i<n
 ·refine aD fun _ K=>?_;simp(disch:=omega) only[kd,slM,kC];apply K
  refine bx rfl ?_;refine aF (aK ?_);refine aD fun _ K=>?_;simp only[kd];apply K
  refine aF (aD fun _ K=>?_);simp only[kd];apply K;refine aX (G:=QO n i f) (fun g=>⟨(slM (mat n n f)::jk::.raw (.bool false)::kC (yj n f)::jk::rN i::rN g.j::j4 (jk::jk::rN n::rN i::j16 (j4 (jk::jk::jk::[])))),Hm []⟩) (fun g=>i-g.j) ⟨0,by omega,fun a ha=>by omega⟩ ?_ ?_
  ·refine aE trivial ?_;simp[wk]
  rintro⟨j,hj,okj⟩;simp only;by_cases hm2:j<i
  ·have c1:=CQ n f i j hn hm (by omega) hf;by_cases hs:SizF f i j
   ·rw[decide_eq_true (show 2*((lam f i j).natAbs:Int)<=dd f (j+1)from hs)]at c1;refine aF (aD fun _ K=>?_);simp(disch:=omega) only[kd,aa,slM,kC];apply K;refine aU rfl (aM ?_);refine aF (aK ?_);refine aG [⟨4,_,_,_,c1⟩] [] fun _ K=>?_;simp only[kd,slM,kC,aa];apply K
    refine aQ rfl (aM ?_);show bo _ _ _ _;refine aL fun _ K=>?_;simp(disch:=omega) only[kd,aa,aO];apply K
    refine⟨⟨j+1,by omega,fun b hb=>?_⟩,by simp only;omega,aE trivial ?_⟩
    ·by_cases e:b=j
     ·subst e;exact hs
     exact okj b (by omega)
    simp[wk]
   have hr0:r=false:=by
    cases r with
    |false=>rfl
    |true=>exact absurd ((hr.1 rfl i hm).1 j hm2) hs
   subst hr0;rw[decide_eq_false (show ¬2*((lam f i j).natAbs:Int)<=dd f (j+1)from hs)]at c1;refine aF (aD fun _ K=>?_);simp(disch:=omega) only[kd,aa,slM,kC];apply K;refine aU rfl (aM ?_);refine aF (aK ?_);refine aG [⟨4,_,_,_,c1⟩] [] fun _ K=>?_;simp only[kd,slM,kC,aa];apply K
   refine aU rfl ?_;refine aD fun _ K=>?_;simp only[kd];apply K
   (refine aH ⟨.inr rfl,aJ rfl ?_ rfl⟩;simp(disch:=omega) only[kd,Tryz.results74])
  have hji:j=i:=by omega
  subst hji;refine aF (aD fun _ K=>?_);simp(disch:=omega) only[kd,aa,slM,kC];apply K;refine aQ rfl (bN ?_);show bo _ _ _ _;by_cases h0:0<j
  ·have c1:=yu n f j hn hm h0 hf;by_cases hs:LovF f j
   ·rw[decide_eq_true (show 3*(dd f j*dd f j)<=4*(dd f (j-1)*dd f (j+1)+lam f j (j-1)*lam f j (j-1))from hs)]at c1;refine aG [⟨6,_,_,_,c1⟩] [] fun _ K=>?_;simp(disch:=omega) only[kd,slM,kC,aa];apply K
    refine aQ rfl (aM ?_);show bo _ _ _ _;refine aL fun _ K=>?_;simp(disch:=omega) only[kd,aO];apply K
    refine⟨⟨j+1,by omega,fun a ha=>?_⟩,by simp only;omega,aE trivial ?_⟩
    ·by_cases e:a=j
     ·subst e;exact⟨okj,fun _=>hs⟩
     exact ok a (by omega)
    simp[wk]
   have hr0:r=false:=by
    cases r with
    |false=>rfl
    |true=>exact absurd ((hr.1 rfl j hm).2 h0) hs
   subst hr0;rw[decide_eq_false (show ¬3*(dd f j*dd f j)<=4*(dd f (j-1)*dd f (j+1)+lam f j (j-1)*lam f j (j-1))from hs)]at c1;refine aG [⟨6,_,_,_,c1⟩] [] fun _ K=>?_;simp(disch:=omega) only[kd,slM,kC,aa];apply K
   refine aU rfl ?_;refine aD fun _ K=>?_;simp only[kd];apply K
   (refine aH ⟨.inr rfl,aJ rfl ?_ rfl⟩;simp(disch:=omega) only[kd,Tryz.results74])
  have hj0:j=0:=by omega
  subst hj0;refine aD fun _ K=>?_;simp(disch:=omega) only[kd,aa];apply K
  refine aQ rfl (aM ?_);show bo _ _ _ _;refine aL fun _ K=>?_;simp(disch:=omega) only[kd,aO];apply K
  refine⟨⟨1,by omega,fun a ha=>?_⟩,by simp only;omega,aE trivial ?_⟩
  ·have:a=0:=by omega
   subst this;exact⟨fun b hb=>by omega,fun h=>by omega⟩
  simp[wk]
 have hr1:r=true:=hr.2 fun a ha=>ok a (by omega)
 subst hr1;refine aD fun _ K=>?_;simp(disch:=omega) only[kd,slM,kC];apply K
 refine bG rfl ?_;show bo _ _ _ _;refine aD fun _ K=>?_;simp only[kd];apply K
 (refine aH ⟨.inr rfl,aJ rfl ?_ rfl⟩;simp(disch:=omega) only[kd,Tryz.results74])
def wR (z:Int):Prop:= -9223372036854775808<=z/\z<=9223372036854775807
theorem wR.sz {z:Int} (h:wR z) {k:Nat} (hk:2<=k):Sz z k:=by
 have:Sz z 2:=by
  unfold Sz;have:=h.1;have:=h.2;rw[show(4294967296:Nat)^2=18446744073709551616 by decide];omega
 exact this.mono hk
def MI (M:List (List Int)):Prop:= ∀r∈M,∀z∈r,wR z
theorem MI.ent {M:List (List Int)} (h:MI M) (i j:Nat):wR (ent M i j):=by
 simp only[Go.Proofs.YtfgeomlagfomgaaGreatDoor.ent,List.getD_eq_getElem?_getD];cases hr:M[i]? with
 |none=>simp[wR]
 |some r=>
  simp only[Option.getD_some];cases hz:r[j]? with
  |none=>simp[wR]
  |some z=>exact h r (au hr) z (au hz)
theorem OF {n c:Nat} {f:FF} (hn:1<=n):Sq (mat n c f)↔n=c:=by
 unfold Sq;rw[bf];have e: ∀i,i<n->((mat n c f).getD i []).length=c:=fun i hi=>by
  rw[List.getD_eq_getElem?_getD,bv _ _ hi,Option.getD_some,bs]
 exact⟨fun h=>by rw[<- e 0 (by omega),h 0 (by omega)],fun h i hi=>by rw[e i hi,h]⟩
theorem sB {f g:FF} {n:Nat} (h: ∀i j,i<n->j<n->f i j=g i j) (hf:RedR f n):RedR g n:=by
 obtain⟨h1,h2,h3,h4⟩:=hf;have ed: ∀k,k<=n->dk g k=dk f k:=fun k hk=>jj fun i j hi hj=>(h i j (by omega) (by omega)).symm
 have eb: ∀t i,t<n->i<n->bk g t i t=bk f t i t:=fun t i ht hi=>by
  have e1:dk (l7 g i t) (t+1)=bk g t i t:=A9 (fun r c hr hc=>by unfold l7;rw[if_pos hr]) (fun c hc=>by unfold l7;rw[if_neg (by omega)]);have e2:dk (l7 f i t) (t+1)=bk f t i t:=A9 (fun r c hr hc=>by unfold l7;rw[if_pos hr]) (fun c hc=>by unfold l7;rw[if_neg (by omega)]);rw[<- e1,<- e2];refine jj fun r c hr hc=>?_
  unfold l7;split
  ·exact(h r c (by omega) (by omega)).symm
  exact(h i c hi (by omega)).symm
 refine⟨fun i hi j hj=>by rw[<- h i j hi hj,<- h j i hj hi];exact h1 i hi j hj,fun k hk=>by rw[ed (k+1) (by omega)];exact h2 k hk,by rw[ed n (by omega)];exact h3,fun t ht=>⟨fun i hi hti=>?_,?_⟩⟩
 ·have:=(h4 t ht).1 i hi hti;rw[ed (t+1) (by omega),eb t i (by omega) hi];exact this
 have:=(h4 t ht).2;unfold Ku at*
 rw[ed (t+1) (by omega),ed t (by omega),ed (t+1+1) (by omega),eb t (t+1) (by omega) (by omega)];exact this
theorem sA {n c:Nat} {f:FF} (hn1:1<=n):NA (mat n c f)↔n=c/\n<=8/\RedR f n:=by
 unfold NA;rw[bf,OF hn1];constructor
 ·rintro⟨_,h8,rfl,hr⟩;exact⟨rfl,h8,sB (fun i j hi hj=>rO f hi hj) hr⟩
 rintro⟨rfl,h8,hr⟩;exact⟨hn1,h8,rfl,sB (fun i j hi hj=>(rO f hi hj).symm) hr⟩
theorem yr (M:List (List Int)) (hM:MI M):CallC Tryz.prog 34 [slI M] ⟨[],.raw (.bool (bW M))⟩:=by
 have hr:=fg M;generalize bW M=r at*
 by_cases hS:AC M
 ·obtain⟨n,c,f,rfl,hn1,hn,hc1,hc,hf⟩: ∃n c f,M=mat n c f/\1<=n/\n<=16/\1<=c/\c<=16/\ ∀i j:Nat,wR (f i j):=by
   have h0:=ir (M:=M) hS.1;have hh:=hS.2.2 _ (au h0);exact⟨M.length,(M.headD []).length,ent M,CO hS,hS.1,hS.2.1,hh.1,hh.2.1,fun i j=>hM.ent i j⟩
  rw[sA hn1]at hr;have hF:=sj n c f hn1 hn hc1 hc (fun i j _ _=>hf i j);obtain⟨e,he,hV⟩:=kO n c f hn1 hn hc1 hc (fun i j _ _=>(hf i j).sz (by omega));by_cases h1:e=0
  ·obtain⟨rfl,h8,hs,hp⟩:=he.1 h1;subst h1;have hD:=Ak n f hn1 hn (fun i j _ _=>(hf i j).sz (by omega));by_cases h2:detF n f<=10000
   ·rw[decide_eq_true h2]at hD;have hR:=FG n f hn1 hn (fun i j _ _=>(hf i j).sz (by omega)) r (by
     rw[hr,<- rY hn1];exact⟨fun h=>h.2.2.2.2.2,fun h=>⟨rfl,h8,hs,hp,h2,h⟩⟩)
    refine aI Tryz.func34 rfl (by kernel_rfl) ?_;rw[Tryz.ntmps34];refine aD fun _ K=>?_;simp only[kd,slI,ae];apply K
    refine aG [⟨1,_,_,_,hF⟩] [] fun _ K=>?_;simp only[kd,slI,K8,aa];apply K
    refine aG [⟨3,_,_,_,hV⟩,⟨8,_,_,_,hD⟩,⟨12,_,_,_,hR⟩] [] fun _ K=>?_;simp(disch:=omega) only[kd,slM,aa,af];apply K
    (refine aH ⟨.inr rfl,aJ rfl ?_ rfl⟩;simp(disch:=omega) only[kd,Tryz.results34])
   have hr0:r=false:=by
    cases r with
    |false=>rfl
    |true=>exact absurd ((rY hn1).2 (hr.1 rfl).2.2).2.2.1 h2
   subst hr0;rw[decide_eq_false h2]at hD;refine aI Tryz.func34 rfl (by kernel_rfl) ?_;rw[Tryz.ntmps34];refine aD fun _ K=>?_;simp only[kd,slI,ae];apply K
   refine aG [⟨1,_,_,_,hF⟩] [] fun _ K=>?_;simp only[kd,slI,K8,aa];apply K
   refine aG [⟨3,_,_,_,hV⟩,⟨8,_,_,_,hD⟩] [] fun _ K=>?_;simp(disch:=omega) only[kd,slM,aa,af];apply K
   (refine aH ⟨.inr rfl,aJ rfl ?_ rfl⟩;simp(disch:=omega) only[kd,Tryz.results34])
  have hr0:r=false:=by
   cases r with
   |false=>rfl
   |true=>
    obtain⟨g1,g2,g3⟩:=hr.1 rfl;subst g1;obtain⟨g4,g5,_⟩:=(rY hn1).2 g3;exact absurd (he.2 ⟨rfl,g2,g4,g5⟩) h1
  subst hr0;refine aI Tryz.func34 rfl (by kernel_rfl) ?_;rw[Tryz.ntmps34];refine aD fun _ K=>?_;simp only[kd,slI,ae];apply K
  refine aG [⟨1,_,_,_,hF⟩] [] fun _ K=>?_;simp only[kd,slI,K8,aa];apply K
  refine aG [⟨3,_,_,_,hV⟩] [] fun _ K=>?_;simp(disch:=omega) only[kd,slM,aa,af];apply K
  (refine aH ⟨.inr rfl,aJ rfl ?_ rfl⟩;simp(disch:=omega) only[kd,Tryz.results34])
 have hF:=yo M hS;have hr0:r=false:=by
  cases r with
  |false=>rfl
  |true=>
   obtain⟨g1,g2,g3,_⟩:=hr.1 rfl;refine absurd ⟨g1,by omega,fun x hx=>?_⟩ hS;obtain⟨i,hi⟩:=List.mem_iff_getElem?.1 hx;have hl: ∀(i:Nat) x,M[i]?=some x->x.length=M.length:=fun i x hi=>by
    have:=g3 i (List.getElem?_eq_some_iff.1 hi).1;rwa[List.getD_eq_getElem?_getD,hi]at this
   rw[rOk,hl i x hi,hl 0 _ (ir g1)];omega
 subst hr0;refine aI Tryz.func34 rfl (by kernel_rfl) ?_;rw[Tryz.ntmps34];refine aD fun _ K=>?_;simp only[kd,slI,ae];apply K
 refine aG [⟨1,_,_,_,hF⟩] [] fun _ K=>?_;simp only[kd,slI,N0,aa];apply K
 refine aD fun _ K=>?_;simp(disch:=omega) only[kd,aa];apply K
 (refine aH ⟨.inr rfl,aJ rfl ?_ rfl⟩;simp(disch:=omega) only[kd,Tryz.results34])
abbrev iP (l:List Int):TV:= .one (.p (.sl (ls fI l)))
theorem w6 {x y:List Int} {b c:Nat} (hx: ∀i,Sz (x.getD i 0) b) (hy: ∀i,Sz (y.getD i 0) c): ∀l,Sz (eA x y l) (b+c+l)
 |0=>ya _
 |l+1=>by
  show Sz (eA x y l+x.getD l 0*y.getD l 0) _;exact(w6 hx hy l).add (((hx l).mul (hy l)).mono (by omega))
theorem rP {x:List Int} {b:Nat} (h: ∀z∈x,Sz z b) (i:Nat):Sz (x.getD i 0) b:=by
 rw[List.getD_eq_getElem?_getD];cases hx:x[i]? with
 |none=>exact ya _
 |some z=>exact h z (au hx)
theorem Pa (x y:List Int) (hx:x.length<=16) (hxy:x.length<=y.length) (sx: ∀z∈x,Sz z 16777216) (sy: ∀z∈y,Sz z 67108864):CallC Tryz.prog 138 [kC x,kC y] ⟨[],tZ (eA x y x.length)⟩:=by
 refine aI Tryz.func138 rfl (by kernel_rfl) ?_;rw[Tryz.ntmps138];refine aD fun _ K=>?_;simp(disch:=omega) only[kd,kC,aa,ae];apply K
 refine aD fun _ K=>?_;simp(disch:=omega) only[kd,aa,ab];apply K
 refine aF (aD fun _ K=>?_);simp only[kd,aa];apply K;refine aX (G:=P9 x.length) (fun g=>⟨(kC x::kC y::jk::jk::.one (.ptr 4 0 0 0)::.one (.ptr 5 0 0 0)::jk::jk::jk::rN x.length::rN g.i::j4 (j4 (j4 (jk::jk::jk::[])))),Hm [(4,xf),(5,vJ (eA x y g.i))]⟩) (fun g=>x.length-g.i) ⟨0,by omega⟩ ?_ ?_
 ·refine(gy 5).trans (aE ⟨rfl,?_,trivial⟩ ?_)
  ·show _=vJ 0;simp[zH,bj,zO,AH,CI,vJ,yi,cy,ls]
  simp[wk]
 rintro⟨i,hi⟩;simp only;have hs:=w6 (rP sx) (rP sy) i;by_cases hm:i<x.length
 ·obtain⟨a,ha⟩:=getElem?_of_lt hm;obtain⟨b,hb⟩:=getElem?_of_lt (l:=y) (k:=i) (by omega);have za:=sx a (au ha);have zb:=sy b (au hb);have c1:=lU a b (za.mono (by omega)) (zb.mono (by omega));have c2:=vn (eA x y i) (a*b) (hs.mono (by omega)) ((za.mul zb).mono (by omega));have e1:eA x y i+a*b=eA x y (i+1):=by
   show _=eA x y i+x.getD i 0*y.getD i 0;rw[List.getD_eq_getElem?_getD,List.getD_eq_getElem?_getD,ha,hb];rfl
  rw[e1]at c2;refine aD fun _ K=>?_;simp(disch:=omega) only[kd,kC];apply K
  refine bx rfl ?_;refine aF (aK ?_);refine aD fun _ K=>?_;simp only[kd];apply K
  refine dW be [⟨9,_,_,_,c1⟩,⟨10,_,_,_,c2⟩] [] (by kernel_rfl) fun _ K=>?_;simp(disch:=omega) only[kd,tZ,aa,ab,ha,fZ,hb,af];apply K
  show bo _ _ _ _;refine aL fun _ K=>?_;simp(disch:=omega) only[kd,aO];apply K
  refine⟨⟨i+1,by omega⟩,by simp only;omega,aE ⟨rfl,rfl,trivial⟩ ?_⟩;simp[wk]
 have hin:i=x.length:=by omega
 subst hin;refine aD fun _ K=>?_;simp(disch:=omega) only[kd,kC];apply K
 refine bG rfl ?_;show bo _ _ _ _;refine aD fun _ K=>?_;simp(disch:=omega) only[kd,ab,aa];apply K
 (refine aH ⟨.inr rfl,aJ rfl ?_ rfl⟩;simp(disch:=omega) only[kd,Tryz.results138,ab,aa,tZ])
abbrev Qh (n c:Nat) (f:FF) (y:List Int):List Int:=bA n fun i=>eA (bA c (f i)) y c
abbrev FV (v:Int) (b:Bool):TV:= .tup [(false,[.p (.raw (.int .i64 v))]),(false,[.p (.raw (.bool b))])]
def O5 (z:Int):TV:=if -4611686018427387904<=z/\z<=4611686018427387904 then FV z true else FV 0 false
def EY (M:List (List Int)) (x y:List Int):TV:=if j6 M x=true/\FitB M.length y=true then O5 (eA x (dw M y) x.length)else FV 0 false
theorem AZ {n:Nat} {f:FF} {y:List Int} (hr:bW (mat n n f)=true) (hy:Ga y=true):dw (mat n n f) y=Qh n n f y:=by
 have hs:=fm hr;have h8:=hs.2.1;rw[bf]at h8;apply List.ext_getElem?;intro i;rw[dw,ay];by_cases hi:i<n
 ·rw[bv _ _ hi,aT _ hi];simp only[Option.map_some,bs];exact congrArg some (oh (hs.row_bd (bv _ _ hi)) (fun i z hz=>kH hy hz) n h8).1
 rw[aq (by rw[bf];omega),aq (by rw[bs];omega)];rfl
theorem tu (M:List (List Int)) (x y:List Int): ∃v b,EY M x y=FV v b/\iJ M x y= .tuple #[.int .i64 v,.bool b]:=by
 unfold EY iJ;split
 ·unfold O5 s8;split
  ·exact⟨_,_,rfl,rfl⟩
  exact⟨_,_,rfl,rfl⟩
 exact⟨_,_,rfl,rfl⟩
end Go.Proofs.YtfgeomlagfomgaaGreatDoor
