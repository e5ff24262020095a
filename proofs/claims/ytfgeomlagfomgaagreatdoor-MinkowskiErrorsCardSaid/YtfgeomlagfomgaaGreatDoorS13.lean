/-
  Part 14 of a proof (walks and plain facts).
-/
import Derived.Test.YtfgeomlagfomgaaGreatDoorS12
set_option linter.all false
set_option maxRecDepth 100000
set_option maxHeartbeats 64000000
open Nat renaming reduceAdd → aa
open Nat renaming reduceEqDiff → ab
open List renaming replicate → ae
open Nat renaming reduceBEq → af
open Nat renaming reduceLeDiff → ah
open List renaming getElem?_eq_none → aq
open List renaming length_replicate → ax
open List renaming getElem?_map → ay
namespace Go.Proofs.YtfgeomlagfomgaaGreatDoor
open Go.RowKit
abbrev oV:List AV:=[.raw (.slice none 0 0)]
theorem i4 {α:Type} {A:List α} {x:α} {l:List α} {i:Nat} (h:A.length=i):(A++x::l)[i]?=some x:=by
 rw[List.getElem?_append_right (by omega),h,Nat.sub_self];rfl
theorem i5 {α:Type} {A:List α} {x y:α} {l:List α} {i:Nat} (h:A.length=i):(A++x::l).set i y=A++y::l:=by
 rw[List.set_append_right _ _ (by omega),h,Nat.sub_self];rfl
theorem JK (k:Nat->Nat->Bool) (R:List (List Int)):(R.map mn).map (gO k)=R.map mn:=by
 rw[List.map_map];exact List.map_congr_left fun r _=>by simp[gO,mn,xO]
theorem u7 (d i c:Nat):(gm d (ae i c)).map (List.map (bH fun x y=>x==d&&y==i+1))=gm d (ae i c):=by
 apply List.ext_getElem?;intro k;rw[ay];by_cases h:k<i
 ·rw[bO d c h];have:k≠i:=by omega
  simp[bH,this]
 rw[aq (by rw[ch,ax];omega)];rfl
def Ln (d n c:Nat) (f:FF) (i:Nat):List OObj:=⟨84,1,gm d (ae i c)++ae (n-i) oV⟩::(bu i c f).map mn
def Pn (d n c:Nat) (f:FF) (i j:Nat):List OObj:=⟨84,1,gm d (ae i c)++[.sl d (i+1) 0 (j+1)]::ae (n-i-1) oV⟩::((bu i c f).map mn++[mn (bG (j+1) (f i))])
def Qe (d n c:Nat) (f:FF) (i:Nat):Nat->List OObj
 |0=>Ln d n c f i
 |j+1=>Pn d n c f i j
theorem uc (i c:Nat) (f:FF):bu (i+1) c f=bu i c f++[bG c (f i)]:=by simp[bu,List.range_succ]
theorem nZ (j:Nat) (g:Nat->Int):bG (j+1) g=bG j g++[g j]:=by simp[bG,List.range_succ]
theorem Oi {d n c i:Nat} (f:FF) (hc:1<=c) (hi:i<n):Qe d n c f i c=Ln d n c f (i+1):=by
 obtain⟨j,rfl⟩: ∃j,c=j+1:=⟨c-1,by omega⟩;show Pn d n (j+1) f i j=_;unfold Pn Ln;rw[uc,List.replicate_succ' (n:=i),mX,ax];simp[Nat.sub_sub]
theorem Oh (d n c:Nat) (f:FF):Ln d n c f n=gI d n c f:=by
 unfold Ln;simp
theorem Lo {d n c i:Nat} (f:FF) (hi:i<n):Ln d n c f i=⟨84,1,gm d (ae i c)++oV::ae (n-i-1) oV⟩::(bu i c f).map mn:=by
 unfold Ln;rw[show n-i=n-i-1+1 by omega,List.replicate_succ];rfl
theorem GR (n c:Nat) (f:FF) (hn:n<=17) (hc1:1<=c) (hc:c<=17) (hf: ∀i j,i<n->j<c->Bg (f i j)):
  CallC Tryz.prog 54 [bE (bu n c f)] ⟨gI 0 n c f,.one (.sl 0 0 0 n)⟩:=by
 have hml:=aV n c f;refine aJ Tryz.func54 rfl (by kernel_rfl) ?_;rw[Tryz.ntmps54];refine aD fun _ K=>?_;simp only[kd,bE,ae];apply K
 refine aD fun _ K=>?_;simp(disch:=omega) only[kd,aa,hml];apply K
 refine aE (aD fun _ K=>?_);simp only[kd,aa,hml];apply K;refine aT (G:=jD n) (fun g=>⟨(bE (bu n c f)::jk::.raw (.slice none 0 0)::.one (.sl 9 0 0 n)::j4 (jk::jk::jk::rN n::rN g.i::j16 (j4 (j4 (jk::[]))))),Hm [(9,Ln 9 n c f g.i)]⟩) (fun g=>n-g.i) ⟨0,by omega⟩ ?_ ?_
 ·refine aF ⟨?_,trivial⟩ ?_
  ·show[_]=_;simp[Ln,gm,bu]
  simp[wk]
 rintro⟨i,hi⟩;simp only;by_cases hm:i<n
 ·have hrow:=bD c f hm;have hmi:=aV i c f;have hsl:(gm 9 (ae i c)).length=i:=by rw[ch,ax]
  have hrl:((bu i c f).map mn).length=i:=by rw[List.length_map,hmi]
  refine aD fun _ K=>?_;simp(disch:=omega) only[kd,bE];apply K
  refine bC rfl ?_;refine aE (aK ?_);refine aD fun _ K=>?_;simp only[kd];apply K
  refine aD fun _ K=>?_;simp(disch:=omega) only[kd,aa,hrow,fR,bz];apply K
  refine aT (G:=jD c) (fun g=>⟨(bE (bu n c f)::jk::.raw (.slice none 0 0)::.one (.sl 9 0 0 n)::rN i::j4 (jk::jk::rN n::rN i::j4 (jk::.one (.p (.sl (ls fZ (bG c (f i)))))::rN c::rN g.i::j16 (jk::[])))),Hm [(9,Qe 9 n c f i g.i)]⟩) (fun g=>c-g.i) ⟨0,by omega⟩ ?_ ?_
  ·refine aF ⟨rfl,trivial⟩ ?_;simp[wk]
  rintro⟨j,hj⟩;simp only;by_cases hm2:j<c
  ·have hent:=aU (f i) hm2;have hN:=IY (f i j) (hf i j hm hm2);cases j with
   |zero=>
    rw[Qe,Lo f hm];refine aD fun _ K=>?_;simp(disch:=omega) only[kd,bE];apply K
    refine bC rfl ?_;refine aE (aK ?_);refine aD fun _ K=>?_;simp(disch:=omega) only[kd,aa,hent,fZ,ab];apply K
    refine d7 aZ [⟨7,_,_,_,hN⟩] [] (by kernel_rfl) fun _ K=>?_;simp(disch:=omega) only[kd,tZ,aa,ab,i4 hsl,Nat.reduceMul,ah,i5 hsl,hmi,af];apply K
    show bs _ _ _ _;refine aM fun _ K=>?_;simp(disch:=omega) only[kd,aP];apply K
    refine⟨⟨1,by omega⟩,by simp only;omega,aF ⟨?_,trivial⟩ ?_⟩
    ·rfl
    simp[wk]
   |succ j=>
    have h01:(0==i+1)=false:=by simp
    rw[Qe,Pn];refine aD fun _ K=>?_;simp(disch:=omega) only[kd,bE];apply K
    refine bC rfl ?_;refine aE (aK ?_);refine aD fun _ K=>?_;simp(disch:=omega) only[kd,aa,hent,fZ,ab];apply K
    refine d7 aZ [⟨7,_,_,_,hN⟩] [] (by kernel_rfl) fun _ K=>?_;simp(disch:=omega) only[kd,tZ,aa,mn,ab,i4 hsl,Nat.reduceMul,ah,i4 hrl,bz,List.map_append,u7,List.map_replicate,JK,tV,i5 hrl,h01,af,i5 hsl,reduceCtorEq,List.length_append,hrl];apply K
    show bs _ _ _ _;refine aM fun _ K=>?_;simp(disch:=omega) only[kd,aP];apply K
    refine⟨⟨j+1+1,by omega⟩,by simp only;omega,aF ⟨?_,trivial⟩ ?_⟩
    ·show _=Pn 9 n c f i (j+1);rw[Pn,mn,nZ (j+1)];rfl
    simp[wk]
  have hjc:j=c:=by omega
  subst hjc;refine aD fun _ K=>?_;simp(disch:=omega) only[kd,bE];apply K
  refine bJ rfl ?_;show bs _ _ _ _;rw[Oi f hc1 hm];refine aM fun _ K=>?_;simp(disch:=omega) only[kd,aP];apply K
  refine⟨⟨i+1,by omega⟩,by simp only;omega,aF ⟨rfl,trivial⟩ ?_⟩;simp[wk]
 have hin:i=n:=by omega
 subst hin;refine aD fun _ K=>?_;simp(disch:=omega) only[kd,bE];apply K
 refine bJ rfl ?_;show bs _ _ _ _;rw[Oh];refine aD fun _ K=>?_;simp only[kd];apply K
 refine aI ⟨.inr rfl,_,ca.refl _,?_⟩;refine⟨.one (.sl 9 0 0 i),9,?_,rfl,?_,rfl⟩
 ·simp(disch:=omega) only[kd,Tryz.results54]
 exact(gy 9 0 _ _ _).symm
theorem jI {P:Program} {c z:Code} {Q:Exit->AS->Prop} {s S:AS} (h1:bs P c (me (fun s'=>ca s' S) Q) s) (h2:bs P z Q S):bs P c (me (bs P z Q) Q) s:=h1.mono fun e s' h=>by
 cases e with
 |normal=>exact bs.weak h h2
 |_=>exact h
theorem Sz.mul {a b:Int} {k l:Nat} (ha:Sz a k) (hb:Sz b l):Sz (a*b) (k+l):=by
 unfold Sz at*;rw[Int.natAbs_mul,Nat.pow_add];exact Nat.mul_lt_mul'' ha hb
theorem Sz.sub {a b:Int} {k:Nat} (ha:Sz a k) (hb:Sz b k):Sz (a-b) (k+1):=by
 unfold Sz at*
 have:=Int.natAbs_sub_le a b;rw[Nat.pow_succ];generalize 4294967296^k=p at*
 omega
theorem Sz.add {a b:Int} {k:Nat} (ha:Sz a k) (hb:Sz b k):Sz (a+b) (k+1):=by
 unfold Sz at*
 have:=Int.natAbs_add_le a b;rw[Nat.pow_succ];generalize 4294967296^k=p at*
 omega
theorem Sz.ediv {a:Int} {k:Nat} (ha:Sz a k) (b:Int):Sz (a/b) k:=ha.le (Int.natAbs_ediv_le_natAbs a b)
theorem Cu {f:FF} {n k:Nat}: ∀m p,n-p=m->piv f n k p<n->p<=piv f n k p/\f (piv f n k p) k≠0
 |0,p,hm,h=>by rw[nQ (by omega)]at h;omega
 |m+1,p,hm,h=>by
  by_cases h0:f p k=0
  ·rw[qT (by omega) h0]at h⊢;have:=Cu m (p+1) (by omega) h;exact⟨by omega,this.2⟩
  rw[qS (by omega) h0]at h⊢;exact⟨by omega,h0⟩
theorem x9 {f:FF} {n k:Nat}: ∀m p,n-p=m->piv f n k p<=n
 |0,p,hm=>by rw[nQ (by omega)];omega
 |m+1,p,hm=>by
  by_cases h0:f p k=0
  ·rw[qT (by omega) h0];exact x9 m (p+1) (by omega)
  rw[qS (by omega) h0];omega
def dY (k:Nat) (last:Int) (g:FF) (i j:Nat):Nat->Nat->Int:=fun a b=>if k<a/\k<b/\(a<i\/(a=i/\b<j))then(g k k*g a b-g a k*g k b)/last else g a b
theorem D9 {k i j:Nat} (last:Int) (g:FF) (hi:k<i) (hj:k<j) (a b:Nat):upd (dY k last g i j) i j ((g k k*g i j-g i k*g k j)/last) a b=dY k last g i (j+1) a b:=by
 unfold upd dY;by_cases h1:a=i
 ·subst h1;by_cases h2:b=j
  ·subst h2;simp[hi,hj]
  have:b<j+1↔b<j:=by omega
  simp[h2,this]
 simp[h1]
theorem I2 {k n:Nat} (last:Int) (g:FF) (i a b:Nat) (hb:b<n):dY k last g i n a b=dY k last g (i+1) (k+1) a b:=by
 unfold dY;have:(k<a/\k<b/\(a<i\/a=i/\b<n))↔(k<a/\k<b/\(a<i+1\/a=i+1/\b<k+1)):=by omega
 simp only[this]
theorem Ea (k:Nat) (last:Int) (g:FF):dY k last g (k+1) (k+1)=g:=by
 funext a b;unfold dY;rw[if_neg (by omega)]
theorem I1 {k n:Nat} (last:Int) (g:FF) (a b:Nat) (ha:a<n):dY k last g n (k+1) a b=I3 k last g a b:=by
 unfold dY I3;have:(k<a/\k<b/\(a<n\/a=n/\b<k+1))↔(k<a/\k<b):=by omega
 simp only[this]
theorem iv {k i j a b:Nat} (last:Int) (g:FF) (h: ¬(k<a/\k<b/\(a<i\/(a=i/\b<j)))):dY k last g i j a b=g a b:=by
 unfold dY;rw[if_neg h]
theorem xX {d n p k:Nat} (g:FF) (hp:p<n) (hk:k<n) (hne:k≠p) (r:Nat):(gI d n n (swp p k g))[r]?=
  (((⟨84,1,((gm d (ae n n)).set p [.sl d (k+1) 0 n]).set k [.sl d (p+1) 0 n]⟩::(bu n n g).map mn:List OObj))[sw (p+1) (k+1) r]?).map (vp d (p+1) (k+1)):=by
 cases r with
 |zero=>
  rw[show sw (p+1) (k+1) 0=0 by simp[sw]];simp only[List.getElem?_cons_zero,Option.map_some,vp]
  congr 2
  apply List.ext_getElem?;intro i;rw[ay,List.getElem?_set,List.getElem?_set,List.length_set,ch,ax];by_cases hi:i<n
  ·rw[bO d n hi];by_cases h1:k=i
   ·subst h1;simp[hi,jA,oq,sw]
   by_cases h2:p=i
   ·subst h2;simp[h1,hi,jA,oq,sw]
   have h1': ¬i=k:=fun e=>h1 e.symm
   have h2': ¬i=p:=fun e=>h2 e.symm
   simp[h1,h2,h1',h2',jA,oq,sw]
  have h1: ¬k=i:=by omega
  have h2: ¬p=i:=by omega
  rw[if_neg h1,if_neg h2,aq (by rw[ch,ax];omega)];rfl
 |succ r=>
  have hsw:sw (p+1) (k+1) (r+1)=sw p k r+1:=by
   unfold sw;by_cases h1:r=p
   ·simp[h1]
   by_cases h2:r=k
   ·simp[h1,h2,hne]
   simp[h1,h2]
  have hO: ∀l:List Int,vp d (p+1) (k+1) (mn l)=mn l:=fun l=>by
   simp only[vp,mn,lc,List.map_map]
   congr 1
  rw[hsw,List.getElem?_cons_succ,List.getElem?_cons_succ,ay,ay];by_cases hr:r<n
  ·have hs:sw p k r<n:=by unfold sw;split<;>(try split)<;>omega
   rw[bD _ _ hr,bD _ _ hs];simp only[Option.map_some,hO]
   congr 3
   unfold swp sw;by_cases h1:r=p
   ·simp[h1]
   by_cases h2:r=k
   ·simp[h1,h2,hne]
   simp[h1,h2]
  have hs: ¬sw p k r<n:=by unfold sw;rw[if_neg (by omega),if_neg (by omega)];exact hr
  rw[aq (by rw[aV];omega),aq (by rw[aV];omega)];rfl
structure QM (n:Nat) (f:FF) where
 k:Nat
 g:Nat->Nat->Int
 last:Int
 neg:Bool
 b:Nat
 hk:k<=n
 hv:detG n k g last neg=detF n f
 hl:last≠0
 hb:b+1<=1025*2^k
 sg: ∀i j,i<n->j<n->Sz (g i j) b
 sl:Sz last b
structure QP (n k:Nat) (g:FF) where
 p:Nat
 hkp:k<=p
 hp:p<=n
 hv:piv g n k p=piv g n k k
structure Qb (n k:Nat) where
 i:Nat
 hk:k+1<=i
 hi:i<=n
abbrev qo (v:Int):List OObj:=yJ (decide (v<0)) (aR v.natAbs)
theorem sC:sg 0=0:=rfl
theorem El {z:Int} (h:z≠0):sg z≠0:=by unfold sg;split<;>simp[h]
theorem il {k:Nat} (h:k<=16):2^k<=65536:=Nat.pow_le_pow_right (n:=2) (by omega) h
theorem f6 (n:Nat) (f:FF) (hn1:1<=n) (hn:n<=16) (hf: ∀i j,i<n->j<n->Sz (f i j) 1024):
  CallC Tryz.prog 22 [bE (bu n n f)] ⟨[],tZ (detF n f)⟩:=by
 have hC:=GR n n f (by omega) hn1 (by omega) (fun i j hi hj=>(hf i j hi hj).mono (by omega));have hS:=fQ 1 (by omega) (by omega);refine aJ Tryz.func22 rfl (by kernel_rfl) ?_;rw[Tryz.ntmps22];refine aD fun _ K=>?_;simp(disch:=omega) only[kd,bE,ae,aa];apply K
 refine aG [⟨1,_,_,_,hC⟩] [] fun _ K=>?_;simp only[kd,bE,aa,ab];apply K
 refine aD fun _ K=>?_;simp only[kd,aa];apply K
 refine aG [⟨0,_,_,_,hS⟩] [] fun _ K=>?_;simp(disch:=omega) only[kd,tZ,aa,ab];apply K
 refine aE (aD fun _ K=>?_);simp only[kd];apply K;refine aT (G:=QM n f) (fun g=>⟨(jk::jk::.one (.ptr 2 0 0 0)::.one (.sl 12 0 0 n)::rN n::.one (.ptr 5 0 0 0)::.raw (.bool g.neg)::rN g.k::j16 (j16 (j16 (j16 (j16 (j16 (j16 (j4 (jk::[]))))))))),Hm [(2,qB),(5,qo g.last),(12,gI 12 n n g.g)]⟩) (fun g=>n-g.k) ⟨0,f,1,false,1024,by omega,rfl,by omega,by omega,hf,lZ (by omega)⟩ ?_ ?_
 ·refine aF ⟨rfl,rfl,?_,trivial⟩ ?_
  ·exact gy 0 12 n n f
  simp[wk]
 rintro⟨k,g,last,neg,b,hk,hv,hl,hb,sgz,slz⟩;simp only;by_cases hm:k<n
 ·have h2k:=il (k:=k) (by omega);have hbb:b<=67174400:=by omega
  have hvk:detG n k g last neg=if piv g n k k=n then 0 else detG n (k+1) (I3 k last (KS n k g)) (KS n k g k k) (neg !=decide (k<piv g n k k)):=by rw[detG,if_pos hm]
  refine aE (aD fun _ K=>?_);simp(disch:=omega) only[kd,aa];apply K;refine aS rfl (aL ?_);refine aE (aK ?_);refine aD fun _ K=>?_;simp only[kd];apply K
  refine aE (jI (S:=⟨(jk::jk::.one (.ptr 2 0 0 0)::.one (.sl 12 0 0 n)::rN n::.one (.ptr 5 0 0 0)::.raw (.bool neg)::rN k::.raw (.int .i64 ((piv g n k k:Nat):Int))::j16 (j16 (j16 (j16 (j16 (j16 (j16 (j4 ([]))))))))),Hm [(2,qB),(5,qo last),(12,gI 12 n n g)]⟩) ?_ ?_)
  ·refine aT (G:=QP n k g) (fun q=>⟨(jk::jk::.one (.ptr 2 0 0 0)::.one (.sl 12 0 0 n)::rN n::.one (.ptr 5 0 0 0)::.raw (.bool neg)::rN k::rN q.p::j16 (j16 (j16 (j16 (j16 (j16 (j16 (j4 ([]))))))))),Hm [(2,qB),(5,qo last),(12,gI 12 n n g)]⟩) (fun q=>n-q.p) ⟨k,by omega,by omega,rfl⟩ ?_ ?_
   ·refine aF ⟨rfl,rfl,rfl,trivial⟩ ?_;simp[wk]
   rintro⟨p,hkp,hp,hpv⟩;simp only;by_cases hpn:p<n
   ·have g1:=bO (n:=n) (i:=p) 12 n hpn;have g2:=ee n g hpn;have g3:=aU (g p) hm;have hSg:=mW (g p k) ((sgz p k hpn hm).mono (by omega));by_cases h0:g p k=0
    ·rw[h0]at hSg g3;refine aE (aG [⟨11,_,_,_,hSg⟩] [] fun _ K=>?_);simp(disch:=omega) only[kd,tZ,sC,aa,ab,g1,g2,fZ,g3];apply K;refine aS rfl (aL ?_);refine aK ?_;refine aM fun _ K=>?_;simp(disch:=omega) only[kd,aa,aP];apply K
     refine⟨⟨p+1,by omega,by omega,?_⟩,by simp only;omega,aF ⟨rfl,rfl,rfl,trivial⟩ ?_⟩
     ·rw[<- hpv,qT hpn h0]
     simp[wk]
    have hs0:=El h0;refine aE (aG [⟨11,_,_,_,hSg⟩] [] fun _ K=>?_);simp(disch:=omega) only[kd,tZ,aa,ab,g1,g2,fZ,g3];apply K;refine aO rfl (bK ?_);show ca _ _;have hpe:piv g n k k=p:=by rw[<- hpv,qS hpn h0]
    refine aF ⟨rfl,rfl,rfl,trivial⟩ ?_;simp[wk,hpe]
   have hpe:piv g n k k=p:=by rw[<- hpv,nQ hpn];omega
   refine aE (aD fun _ K=>?_);simp(disch:=omega) only[kd,aa];apply K;refine aO rfl (bK ?_);show ca _ _;refine aF ⟨rfl,rfl,rfl,trivial⟩ ?_;simp[wk,hpe]
  have hpl:=x9 (f:=g) (n:=n) (k:=k) (n-k) k rfl;have hpn':=Cu (f:=g) (n:=n) (k:=k) (n-k) k rfl;generalize hpp:piv g n k k=p at*
  by_cases hpn:p=n
  ·rw[if_pos hpn]at hvk;refine aE (aD fun _ K=>?_);simp(disch:=omega) only[kd,aa];apply K;refine aS rfl ?_;refine aD fun _ K=>?_;simp(disch:=omega) only[kd,ab,aa];apply K
   refine bs.weak (eE 2) ?_;refine aI ⟨.inr rfl,aH rfl ?_ rfl⟩;rw[<- hv,hvk];simp(disch:=omega) only[kd,Tryz.results22,zH,ab,zO,yH,yQ,aa,tZ];simp[cj,ls]
  rw[if_neg hpn]at hvk;obtain⟨hkp,hpk0⟩:=hpn' (by omega);refine aE (aD fun _ K=>?_);simp(disch:=omega) only[kd,aa];apply K;refine aO rfl (aL ?_);show bs _ _ _ _;refine aE (aD fun _ K=>?_);simp only[kd,aa];apply K;refine jI (S:=⟨(jk::jk::.one (.ptr 2 0 0 0)::.one (.sl 12 0 0 n)::rN n::.one (.ptr 5 0 0 0)::.raw (.bool (neg !=decide (k<p)))::rN k::j16 (j16 (j16 (j16 (j16 (j16 (j16 (j4 (jk::[]))))))))),Hm [(2,qB),(5,qo last),(12,gI 12 n n (swp p k g))]⟩) ?_ ?_
  ·by_cases hlt:k<p
   ·have g1:=bO (n:=n) (i:=p) 12 n (by omega);have g2:=bO (n:=n) (i:=k) 12 n (by omega);refine bT rfl (fun _=>?_) (fun h=>by simp at h<;>omega);have g4:((gm 12 (ae n n)).set p [.sl 12 (k+1) 0 n])[k]?=some [.sl 12 (k+1) 0 n]:=by
     rw[List.getElem?_set_ne (by omega),g2]
    refine cK aZ (by kernel_rfl) fun _ K=>?_;simp(disch:=omega) only[kd,aa,ab,g2,g1,g4,ah,reduceCtorEq];apply K
    refine aM fun _ K=>?_;simp only[kd,aa];apply K
    refine(pi 12 (p+1) (k+1) (gI 12 n n (swp p k g)) (xX g (by omega) hm (by omega))).trans (aF ⟨rfl,rfl,rfl,trivial⟩ ?_);simp[wk,CR,jA,oq,sw,hlt]
   have hpk:p=k:=by omega
   subst hpk;refine bT rfl (fun h=>by simp at h<;>omega) (fun _=>aL ?_);show ca _ _;rw[qh];refine aF ⟨rfl,rfl,rfl,trivial⟩ ?_;simp[wk]
  rw[KS,hpp]at hvk;have hkk:swp p k g k k≠0:=by
   unfold swp;by_cases h:k=p
   ·subst h;rw[if_pos rfl];exact hpk0
   rw[if_neg h,if_pos rfl];exact hpk0
  have hsz: ∀i j,i<n->j<n->Sz (swp p k g i j) b:=fun i j hi hj=>by
   unfold swp;split
   ·exact sgz k j hm hj
   split
   ·exact sgz p j (by omega) hj
   exact sgz i j hi hj
  generalize swp p k g=g' at*
  generalize(neg !=decide (k<p))=neg' at*
  refine aE (aD fun _ K=>?_);simp(disch:=omega) only[kd,aa,aP];apply K;refine aT (G:=Qb n k) (fun q=>⟨(jk::jk::.one (.ptr 2 0 0 0)::.one (.sl 12 0 0 n)::rN n::.one (.ptr 5 0 0 0)::.raw (.bool neg')::rN k::jk::rN q.i::j16 (j16 (j16 (j16 (j16 (j16 (j16 (jk::jk::jk::[])))))))),Hm [(2,qB),(5,qo last),(12,gI 12 n n (dY k last g' q.i (k+1)))]⟩) (fun q=>n-q.i) ⟨k+1,by omega,by omega⟩ ?_ ?_
  ·rw[Ea];refine aF ⟨rfl,rfl,rfl,trivial⟩ ?_;simp[wk]
  rintro⟨i,hki,hin⟩;simp only;by_cases hi:i<n
  ·refine aE (aD fun _ K=>?_);simp(disch:=omega) only[kd,aa];apply K;refine aS rfl (aL ?_);refine aE (aK ?_);refine aD fun _ K=>?_;simp(disch:=omega) only[kd,aa,aP];apply K
   refine aT (G:=Qb n k) (fun q=>⟨(jk::jk::.one (.ptr 2 0 0 0)::.one (.sl 12 0 0 n)::rN n::.one (.ptr 5 0 0 0)::.raw (.bool neg')::rN k::jk::rN i::rN q.i::j16 (j16 (j16 (j16 (j16 (j16 (j16 (jk::jk::[])))))))),Hm [(2,qB),(5,qo last),(12,gI 12 n n (dY k last g' i q.i))]⟩) (fun q=>n-q.i) ⟨k+1,by omega,by omega⟩ ?_ ?_
   ·refine aF ⟨rfl,rfl,rfl,trivial⟩ ?_;simp[wk]
   rintro⟨j,hkj,hjn⟩;simp only;by_cases hj:j<n
   ·have a1:=bO (n:=n) (i:=i) 12 n hi;have a2:=bO (n:=n) (i:=k) 12 n hm;have a3:=ee n (dY k last g' i j) hi;have a4:=ee n (dY k last g' i j) hm;have a5:(bG n (dY k last g' i j k))[k]?=some (g' k k):=by rw[aU _ hm,iv _ _ (by omega)]
    have a6:(bG n (dY k last g' i j i))[j]?=some (g' i j):=by rw[aU _ hj,iv _ _ (by omega)]
    have a7:(bG n (dY k last g' i j i))[k]?=some (g' i k):=by rw[aU _ hm,iv _ _ (by omega)]
    have a8:(bG n (dY k last g' i j k))[j]?=some (g' k j):=by rw[aU _ hj,iv _ _ (by omega)]
    have z1:=hsz k k hm hm;have z2:=hsz i j hi hj;have z3:=hsz i k hi hm;have z4:=hsz k j hm hj;have c1:=l9 (g' k k) (g' i j) (z1.mono (by omega)) (z2.mono (by omega));have c2:=l9 (g' i k) (g' k j) (z3.mono (by omega)) (z4.mono (by omega));have c3:=Nn (g' k k*g' i j) (g' i k*g' k j) ((z1.mul z2).mono (by omega)) ((z3.mul z4).mono (by omega));have c4:=Da (g' k k*g' i j-g' i k*g' k j) last hl (((z1.mul z2).sub (z3.mul z4)).mono (by omega)) (slz.mono (by omega));refine aE (aD fun _ K=>?_);simp(disch:=omega) only[kd,aa];apply K;refine aS rfl (aL ?_);refine aE (aK ?_);refine d7 aZ [⟨19,_,_,_,c1⟩,⟨34,_,_,_,c2⟩,⟨35,_,_,_,c3⟩,⟨37,_,_,_,c4⟩] [] (by kernel_rfl) fun _ K=>?_;simp(disch:=omega) only[kd,tZ,aa,ab,a1,a2,a4,fZ,a5,a3,a6,a7,a8,af,jS];apply K
    show bs _ _ _ _;refine aM fun _ K=>?_;simp(disch:=omega) only[kd,aa,aP];apply K
    refine⟨⟨j+1,by omega,by omega⟩,by simp only;omega,aF ⟨rfl,rfl,?_,trivial⟩ ?_⟩
    ·show _::_=_::_;rw[cq fun a b _ _=>D9 last g' hki hkj a b]
    simp[wk]
   have hjn':j=n:=by omega
   subst hjn';refine aE (aD fun _ K=>?_);simp(disch:=omega) only[kd,aa];apply K;refine aO rfl (bK ?_);show bs _ _ _ _;refine aM fun _ K=>?_;simp(disch:=omega) only[kd,aa,aP];apply K
   refine⟨⟨i+1,by omega,by omega⟩,by simp only;omega,aF ⟨rfl,rfl,?_,trivial⟩ ?_⟩
   ·show _::_=_::_;rw[cq fun a b _ hb=>I2 last g' i a b hb]
   simp[wk]
  have hin':i=n:=by omega
  subst hin';have a2:=bO (n:=i) (i:=k) 12 i hm;have a4:=ee i (dY k last g' i (k+1)) hm;have a5:(bG i (dY k last g' i (k+1) k))[k]?=some (g' k k):=by rw[aU _ hm,iv _ _ (by omega)]
  refine aE (aD fun _ K=>?_);simp(disch:=omega) only[kd,aa];apply K;refine aO rfl (bK ?_);show bs _ _ _ _;refine aM fun _ K=>?_;simp(disch:=omega) only[kd,aa,ab,a2,a4,fZ,a5];apply K
  show bs _ _ _ _;refine aM fun _ K=>?_;simp(disch:=omega) only[kd,aa,aP];apply K
  refine⟨⟨k+1,I3 k last g',g' k k,neg',2*b+1,by omega,by rw[<- hvk,hv],hkk,by rw[Nat.pow_succ];omega,fun x y hx hy=>?_,(hsz k k hm hm).mono (by omega)⟩,by simp only;omega,aF ⟨rfl,rfl,?_,trivial⟩ ?_⟩
  ·unfold I3;split
   ·exact((((hsz k k hm hm).mul (hsz x y hx hy)).sub ((hsz x k hx hm).mul (hsz k y hm hy))).ediv last).mono (by omega)
   exact(hsz x y hx hy).mono (by omega)
  ·show _::_=_::_;rw[cq fun a b ha _=>I1 last g' a b ha]
  simp[wk]
 have hkn:k=n:=by omega
 subst hkn;rw[detG,if_neg hm]at hv;have h2k:=il (k:=k) hn;have hN:=IX last (slz.mono (by omega));refine aE (aD fun _ K=>?_);simp(disch:=omega) only[kd,aa];apply K;refine aO rfl (bK ?_);show bs _ _ _ _;refine aE (aD fun _ K=>?_);simp only[kd];apply K;cases neg with
 |true=>
  rw[if_pos rfl]at hv;refine aS rfl ?_;refine aG [⟨1,_,_,_,hN⟩] [] fun _ K=>?_;simp(disch:=omega) only[kd,tZ,aa,ab];apply K
  rw[<- hv]
  (refine aI ⟨.inr rfl,aH rfl ?_ rfl⟩;simp(disch:=omega) only[kd,Tryz.results22,ab,aa,tZ])
 |false=>
  rw[if_neg (by simp)]at hv;refine aO rfl (aL ?_);show bs _ _ _ _;refine aD fun _ K=>?_;simp(disch:=omega) only[kd,ab,aa];apply K
  rw[<- hv]
  (refine aI ⟨.inr rfl,aH rfl ?_ rfl⟩;simp(disch:=omega) only[kd,Tryz.results22,ab,aa,tZ])
theorem m8 {z:Int} {k:Nat} (h:z.natAbs<4294967296) (hk:1<=k):Sz z k:=by
 have:Sz z 1:=by unfold Sz;simpa using h
 exact this.mono hk
theorem sD (k:Nat):Sz 0 k:=by unfold Sz;exact Nat.pow_pos (by omega)
theorem O6 {n p k b:Nat} {g:FF} (hp:p<n) (hk:k<n) (h: ∀i j,i<n->j<n->Sz (g i j) b): ∀i j,i<n->j<n->Sz (swp p k g i j) b:=fun i j hi hj=>by
 unfold swp;split
 ·exact h k j hk hj
 split
 ·exact h p j hp hj
 exact h i j hi hj
theorem OD {n k b:Nat} {g:FF} (last:Int) (hk:k<n) (h: ∀i j,i<n->j<n->Sz (g i j) b): ∀i j,i<n->j<n->Sz (I3 k last g i j) (2*b+1):=fun x y hx hy=>by
 unfold I3;split
 ·exact((((h k k hk hk).mul (h x y hx hy)).sub ((h x k hx hk).mul (h k y hk hy))).ediv last).mono (by omega)
 exact(h x y hx hy).mono (by omega)
theorem DB {n:Nat} (hn:n<=16): ∀m k g last neg b,n-k=m->k<=n->(∀i j,i<n->j<n->Sz (g i j) b)->Sz last b->b+1<=1025*2^k->Sz (detG n k g last neg) 67174400
 |0,k,g,last,neg,b,hm,hk,hg,hl,hb=>by
  have h2k:=il (k:=k) (by omega);rw[detG,if_neg (by omega)];split
  ·exact hl.neg.mono (by omega)
  exact hl.mono (by omega)
 |m+1,k,g,last,neg,b,hm,hk,hg,hl,hb=>by
  rw[detG,if_pos (by omega)];split
  ·exact sD _
  rename_i hp;have hpl:=x9 (f:=g) (n:=n) (k:=k) (n-k) k rfl;have hs:=O6 (p:=piv g n k k) (k:=k) (by omega) (by omega) hg;exact DB hn m (k+1) _ _ _ (2*b+1) (by omega) (by omega) (OD last (by omega) hs) ((hs k k (by omega) (by omega)).mono (by omega)) (by rw[Nat.pow_succ];omega)
theorem lA {n:Nat} {f:FF} (hn:n<=16) (hf: ∀i j,i<n->j<n->Sz (f i j) 1024):Sz (detF n f) 67174400:=
 DB hn n 0 f 1 false 1024 rfl (by omega) hf (lZ (by omega)) (by omega)
theorem eI {n c:Nat} (f:FF) (h:1<=n):((bu n c f).headD []).length=c:=by
 have:=gk (M:=bu n c f) (by rw[aV];omega);rw[bD _ _ (by omega)]at this;injection this with this
 rw[<- this,bz]
theorem iu {n c:Nat} (f:FF) (hn1:1<=n) (hn:n<=16) (hc1:1<=c) (hc:c<=16):xe (bu n c f):=by
 refine⟨by rw[aV];omega,by rw[aV];omega,fun r hr=>?_⟩;obtain⟨i,hi⟩:=List.mem_iff_getElem?.1 hr;have hin:i<n:=by
  have:=(List.getElem?_eq_some_iff.1 hi).1;rwa[aV]at this
 rw[bD _ _ hin]at hi;injection hi with hi
 rw[<- hi,rOk,bz,eI f hn1];omega
theorem rZ {M:List (List Int)} (h:xe M):M=bu M.length (M.headD []).length (ent M):=iZ fun r hr=>(h.2.2 r hr).2.2
theorem yx {n:Nat} (f:FF) (hn1:1<=n) (hn:n<=16):NF (bu n n f)= .tup [(false,[.p (.raw (.int .i64 (n:Int)))]),(false,[.p (.raw (.bool true))])]:=by
 have h:Qc (bu n n f):=⟨iu f hn1 hn hn1 hn,by rw[aV,eI f hn1]⟩;unfold NF;rw[if_pos h,aV]
theorem J3 {n c:Nat} (f:FF) (hn1:1<=n) (h:n≠c):NF (bu n c f)= .tup [(false,[.p (.raw (.int .i64 0))]),(false,[.p (.raw (.bool false))])]:=by
 unfold NF;rw[if_neg];intro hs;have:=hs.2;rw[aV,eI f hn1]at this;exact h this
abbrev yL (n:Nat) (f:FF):List Int:=bG n fun k=>detF (k+1) f
def PU (n:Nat) (f:FF):TV:= .tup [(false,[.p (.sl (ls fZ (yL n f)))]),(false,[.p (.raw (.bool true))])]
theorem JQ (k:Nat) (f:FF):((List.range (k+1)).map fun i=>(List.range (k+1)).map (f i))=bu (k+1) (k+1) f:=rfl
theorem qt (n:Nat) (f:FF) (hn1:1<=n) (hn:n<=16) (hf: ∀i j,i<n->j<n->Sz (f i j) 1024):CallC Tryz.prog 103 [bE (bu n n f)] ⟨[],PU n f⟩:=by
 have hSq:=pf (bu n n f);rw[yx f hn1 hn]at hSq;refine aJ Tryz.func103 rfl (by kernel_rfl) ?_;rw[Tryz.ntmps103];refine aD fun _ K=>?_;simp only[kd,bE,ae];apply K
 refine aG [⟨1,_,_,_,hSq⟩] [] fun _ K=>?_;simp only[kd,bE,aa];apply K
 refine aE (aD fun _ K=>?_);simp only[kd];apply K;refine aO rfl (aL ?_);show bs _ _ _ _;refine aD fun _ K=>?_;simp only[kd];apply K
 refine aE (aD fun _ K=>?_);simp only[kd];apply K;refine aT (G:=jD n) (fun g=>⟨(bE (bu n n f)::jk::.raw (.slice none 0 0)::.raw (.bool false)::rN n::jk::.one (.sl 31 0 0 g.i)::rN g.i::j16 (j4 (j4 (jk::[])))),Hm [(31,[⟨42,2,lc fZ (yL g.i f)⟩])]⟩) (fun g=>n-g.i) ⟨0,by omega⟩ ?_ ?_
 ·refine(fg (k:=6) (d:=31) 42 2 (by omega) rfl rfl).trans (aF ⟨rfl,trivial⟩ ?_);simp[wk]
 rintro⟨k,hk⟩;simp only;by_cases hm:k<n
 ·have c1:=LA k k (by omega) (by omega);rw[<- List.range_succ]at c1;have c2:=yV n n f (List.range (k+1)) (List.range (k+1)) hn hn (fun x hx=>by have:=List.mem_range.1 hx;omega) (fun x hx=>by have:=List.mem_range.1 hx;omega) (by simp;omega) (by simp;omega);rw[JQ]at c2;have c3:=f6 (k+1) f (by omega) (by omega) (fun i j hi hj=>hf i j (by omega) (by omega));have e1:lc fZ (yL k f)++[[.p (.raw (.bool (decide (detF (k+1) f<0)))),.p (.sl (ls fU (aR (detF (k+1) f).natAbs)))]]=lc fZ (yL (k+1) f):=by
   rw[tV,yL,yL,nZ k]
  refine aE (aD fun _ K=>?_);simp(disch:=omega) only[kd,aa,bE];apply K;refine aS rfl (aL ?_);refine aE (aK ?_);refine kp [⟨4,_,_,_,c1⟩,⟨7,_,_,_,c1⟩,⟨8,_,_,_,c2⟩,⟨9,_,_,_,c3⟩] [] fun _ K=>?_;simp(disch:=omega) only[kd,rV,bE,tZ,aa,af,Nat.reduceMul,ah,bz,e1];apply K
  show bs _ _ _ _;refine aM fun _ K=>?_;simp(disch:=omega) only[kd,aa,aP];apply K
  refine⟨⟨k+1,by omega⟩,by simp only;omega,aF ⟨rfl,trivial⟩ ?_⟩;simp[wk]
 have hkn:k=n:=by omega
 subst hkn;refine aE (aD fun _ K=>?_);simp(disch:=omega) only[kd,aa,bE];apply K;refine aO rfl (bK ?_);show bs _ _ _ _;refine aD fun _ K=>?_;simp only[kd,aa];apply K
 refine aI ⟨.inr rfl,jz 31 (cH rfl) ?_ rfl⟩;have eT:List.take k (yL k f)=yL k f:=List.take_of_length_le (by rw[bz];omega);simp(disch:=omega) only[kd,Tryz.results103,eT,PU]
structure QR (n:Nat) (f:FF) where
 i:Nat
 hi:i<=n
 ok: ∀a,a<i-> ∀b,b<a->f a b=f b a
structure QS (n i:Nat) (f:FF) where
 j:Nat
 hj:j<=i
 ok: ∀b,b<j->f i b=f b i
theorem qC (a:Int):oh a a=0:=by simp[oh]
theorem tj {a b:Int} (h:a≠b):oh a b≠0:=by unfold oh;split<;>(try split)<;>omega
theorem mp (n:Nat) (f:FF) (hn:n<=16) (hf: ∀i j,i<n->j<n->Sz (f i j) 1024) (r:Bool) (hr:r=true↔SymF f n):CallC Tryz.prog 79 [bE (bu n n f)] ⟨[],.raw (.bool r)⟩:=by
 have hml:=aV n n f;refine aJ Tryz.func79 rfl (by kernel_rfl) ?_;rw[Tryz.ntmps79];refine aD fun _ K=>?_;simp only[kd,bE,ae];apply K
 refine aE (aD fun _ K=>?_);simp only[kd,aa,hml];apply K;refine aT (G:=QR n f) (fun g=>⟨(bE (bu n n f)::jk::.raw (.bool false)::jk::jk::jk::rN n::rN g.i::j16 (j4 (j4 ([])))),Hm []⟩) (fun g=>n-g.i) ⟨0,by omega,fun a ha=>by omega⟩ ?_ ?_
 ·refine aF trivial ?_;simp[wk]
 rintro⟨i,hi,ok⟩;simp only;by_cases hm:i<n
 ·refine aD fun _ K=>?_;simp(disch:=omega) only[kd,bE];apply K
  refine bC rfl ?_;refine aE (aK ?_);refine aD fun _ K=>?_;simp only[kd];apply K
  refine aD fun _ K=>?_;simp only[kd];apply K
  refine aT (G:=QS n i f) (fun g=>⟨(bE (bu n n f)::jk::.raw (.bool false)::rN i::rN g.j::jk::rN n::rN i::j16 (j4 (j4 ([])))),Hm []⟩) (fun g=>i-g.j) ⟨0,by omega,fun a ha=>by omega⟩ ?_ ?_
  ·refine aF trivial ?_;simp[wk]
  rintro⟨j,hj,okj⟩;simp only;by_cases hm2:j<i
  ·have a1:=bD n f hm;have a2:=bD n f (show j<n by omega);have a3:=aU (f i) (show j<n by omega);have a4:=aU (f j) hm;have c1:=sI (f i j) (f j i) ((hf i j hm (by omega)).mono (by omega)) ((hf j i (by omega) hm).mono (by omega));by_cases he:f i j=f j i
   ·rw[he,qC]at c1;rw[he]at a3;refine aE (aD fun _ K=>?_);simp(disch:=omega) only[kd,aa,bE];apply K;refine aS rfl (aL ?_);refine aE (aK ?_);refine bv aZ [⟨14,_,_,_,c1⟩] [] (by kernel_rfl) fun _ K=>?_;simp(disch:=omega) only[kd,tZ,aa,a1,fR,a3,fZ,a2,a4];apply K
    refine aO rfl (aL ?_);show bs _ _ _ _;refine aM fun _ K=>?_;simp(disch:=omega) only[kd,aa,aP];apply K
    refine⟨⟨j+1,by omega,fun b hb=>?_⟩,by simp only;omega,aF trivial ?_⟩
    ·by_cases e:b=j
     ·subst e;exact he
     exact okj b (by omega)
    simp[wk]
   have hr0:r=false:=by
    cases r with
    |false=>rfl
    |true=>exact absurd (hr.1 rfl i hm j (by omega)) he
   subst hr0;have hne:=tj he;refine aE (aD fun _ K=>?_);simp(disch:=omega) only[kd,aa,bE];apply K;refine aS rfl (aL ?_);refine aE (aK ?_);refine bv aZ [⟨14,_,_,_,c1⟩] [] (by kernel_rfl) fun _ K=>?_;simp(disch:=omega) only[kd,tZ,aa,a1,fR,a3,fZ,a2,a4];apply K
   refine aS rfl ?_;refine aD fun _ K=>?_;simp only[kd];apply K
   (refine aI ⟨.inr rfl,aH rfl ?_ rfl⟩;simp(disch:=omega) only[kd,Tryz.results79])
  refine aE (aD fun _ K=>?_);simp(disch:=omega) only[kd,aa,bE];apply K;refine aO rfl (bK ?_);show bs _ _ _ _;refine aM fun _ K=>?_;simp(disch:=omega) only[kd,aP];apply K
  refine⟨⟨i+1,by omega,fun a ha b hb=>?_⟩,by simp only;omega,aF trivial ?_⟩
  ·by_cases e:a=i
   ·subst e;exact okj b (by omega)
   exact ok a (by omega) b hb
  simp[wk]
 have hr1:r=true:=hr.2 fun a ha b hb=>by
  rcases Nat.lt_trichotomy a b with h|h|h
  ·exact(ok b (by omega) a h).symm
  ·rw[h]
  exact ok a (by omega) b h
 subst hr1;refine aD fun _ K=>?_;simp(disch:=omega) only[kd,bE];apply K
 refine bJ rfl ?_;show bs _ _ _ _;refine aD fun _ K=>?_;simp only[kd];apply K
 (refine aI ⟨.inr rfl,aH rfl ?_ rfl⟩;simp(disch:=omega) only[kd,Tryz.results79])
structure QX (n:Nat) (f:FF) where
 i:Nat
 hi:i<=n
 ok: ∀a,a<i->0<detF (a+1) f
theorem CK {z:Int} (h:0<z):sg z=1:=by unfold sg;rw[if_neg (by omega),if_neg (by omega)]
theorem Em {z:Int} (h: ¬0<z):sg z<=0:=by unfold sg;split<;>(try split)<;>omega
theorem sJ (n:Nat) (f:FF) (hn1:1<=n) (hn:n<=16) (hf: ∀i j,i<n->j<n->Sz (f i j) 1024) (hs:SymF f n) (r:Bool) (hr:r=true↔xd f n):CallC Tryz.prog 80 [bE (bu n n f)] ⟨[],.raw (.bool r)⟩:=by
 have hL:=qt n f hn1 hn hf;have hS:=mp n f hn hf true (by simp[hs]);refine aJ Tryz.func80 rfl (by kernel_rfl) ?_;rw[Tryz.ntmps80];refine aD fun _ K=>?_;simp only[kd,bE,ae];apply K
 refine aG [⟨1,_,_,_,hL⟩] [] fun _ K=>?_;simp only[kd,bE,PU,aa];apply K
 refine aE (aG [⟨4,_,_,_,hS⟩] [] fun _ K=>?_);simp(disch:=omega) only[kd,bE,aa];apply K;refine aO rfl (aL ?_);show bs _ _ _ _;refine aE (aD fun _ K=>?_);simp only[kd,aa,bz];apply K;refine aT (G:=QX n f) (fun g=>⟨(jk::jk::.raw (.bool false)::j16 (.one (.p (.sl (ls fZ (yL n f))))::rN n::rN g.i::j4 (jk::jk::jk::[]))),Hm []⟩) (fun g=>n-g.i) ⟨0,by omega,fun a ha=>by omega⟩ ?_ ?_
 ·refine aF trivial ?_;simp[wk]
 rintro⟨i,hi,ok⟩;simp only;by_cases hm:i<n
 ·have a1:(yL n f)[i]?=some (detF (i+1) f):=aU _ hm;have hz:=lA (n:=i+1) (f:=f) (by omega) (fun a b ha hb=>hf a b (by omega) (by omega));have c1:=mW (detF (i+1) f) (hz.mono (by omega));refine aD fun _ K=>?_;simp(disch:=omega) only[kd];apply K
  refine bC rfl ?_;refine aE (aK ?_);refine aD fun _ K=>?_;simp(disch:=omega) only[kd,aa,a1,fZ];apply K
  by_cases hp:0<detF (i+1) f
  ·rw[CK hp]at c1;refine aG [⟨1,_,_,_,c1⟩] [] fun _ K=>?_;simp(disch:=omega) only[kd,tZ,aa,Int.reduceLE];apply K
   refine aO rfl (aL ?_);show bs _ _ _ _;refine aM fun _ K=>?_;simp(disch:=omega) only[kd,aP];apply K
   refine⟨⟨i+1,by omega,fun a ha=>?_⟩,by simp only;omega,aF trivial ?_⟩
   ·by_cases e:a=i
    ·subst e;exact hp
    exact ok a (by omega)
   simp[wk]
  have hr0:r=false:=by
   cases r with
   |false=>rfl
   |true=>exact absurd (hr.1 rfl i hm) hp
  subst hr0;have hle:=Em hp;refine aG [⟨1,_,_,_,c1⟩] [] fun _ K=>?_;simp(disch:=omega) only[kd,tZ,aa];apply K
  refine aS rfl ?_;refine aD fun _ K=>?_;simp only[kd];apply K
  (refine aI ⟨.inr rfl,aH rfl ?_ rfl⟩;simp(disch:=omega) only[kd,Tryz.results80])
 have hr1:r=true:=hr.2 fun a ha=>ok a (by omega)
 subst hr1;refine aD fun _ K=>?_;simp(disch:=omega) only[kd];apply K
 refine bJ rfl ?_;show bs _ _ _ _;refine aD fun _ K=>?_;simp only[kd];apply K
 (refine aI ⟨.inr rfl,aH rfl ?_ rfl⟩;simp(disch:=omega) only[kd,Tryz.results80])
theorem xz (a b:Int):decide (oh a b<=0)=decide (a<=b):=by
 unfold oh;split
 ·simp;omega
 split
 ·simp;omega
 simp;omega
theorem Li (a b:Int):decide (0<=oh a b)=decide (b<=a):=by
 unfold oh;split
 ·simp;omega
 split
 ·simp;omega
 simp;omega
theorem AK (n:Nat) (f:FF) (hn1:1<=n) (hn:n<=16) (hf: ∀i j,i<n->j<n->Sz (f i j) 1024):CallC Tryz.prog 62 [bE (bu n n f)] ⟨[],.raw (.bool (decide (detF n f<=10000)))⟩:=by
 have hD:=f6 n f hn1 hn hf;have hS:=fQ 10000 (by omega) (by omega);have hC:=sI (detF n f) 10000 ((lA hn hf).mono (by omega)) (m8 (by decide) (by omega));have hle:=xz (detF n f) 10000;refine aJ Tryz.func62 rfl (by kernel_rfl) ?_;rw[Tryz.ntmps62];refine aD fun _ K=>?_;simp only[kd,bE,ae];apply K
 refine aG [⟨1,_,_,_,hD⟩,⟨2,_,_,_,hS⟩,⟨3,_,_,_,hC⟩] [] fun _ K=>?_;simp(disch:=omega) only[kd,bE,tZ,aa,af,hle];apply K
 (refine aI ⟨.inr rfl,aH rfl ?_ rfl⟩;simp(disch:=omega) only[kd,Tryz.results62])
theorem kX (n c:Nat) (f:FF) (hn1:1<=n) (hn:n<=16) (hc1:1<=c) (hc:c<=16) (hf: ∀i j,i<n->j<c->Sz (f i j) 1024):
  ∃e:Int,(e=0↔(n=c/\n<=8/\SymF f n/\xd f n))/\CallC Tryz.prog 38 [bE (bu n c f)] ⟨[],.raw (.int .i64 e)⟩:=by
 have hSq:=pf (bu n c f);by_cases h1:n=c
 ·subst h1;rw[yx f hn1 hn]at hSq;by_cases h2:8<n
  ·refine⟨3,by omega,?_⟩;refine aJ Tryz.func38 rfl (by kernel_rfl) ?_;rw[Tryz.ntmps38];refine aD fun _ K=>?_;simp only[kd,bE,ae];apply K
   refine aG [⟨1,_,_,_,hSq⟩] [] fun _ K=>?_;simp only[kd,bE,aa];apply K
   refine aE (aK ?_);refine aD fun _ K=>?_;simp(disch:=omega) only[kd,aa];apply K
   refine aS rfl ?_;refine aD fun _ K=>?_;simp only[kd];apply K
   (refine aI ⟨.inr rfl,aH rfl ?_ rfl⟩;simp(disch:=omega) only[kd,Tryz.results38])
  by_cases h3:SymF f n
  ·have hS:=mp n f hn hf true (by simp[h3]);by_cases h4:xd f n
   ·have hD:=sJ n f hn1 hn hf h3 true (by simp[h4]);refine⟨0,by simp[h3,h4];omega,?_⟩;refine aJ Tryz.func38 rfl (by kernel_rfl) ?_;rw[Tryz.ntmps38];refine aD fun _ K=>?_;simp only[kd,bE,ae];apply K
    refine aG [⟨1,_,_,_,hSq⟩] [] fun _ K=>?_;simp only[kd,bE,aa];apply K
    refine aE (aK ?_);refine aD fun _ K=>?_;simp(disch:=omega) only[kd,aa];apply K
    refine aO rfl ?_;refine aG [⟨1,_,_,_,hS⟩] [] fun _ K=>?_;simp only[kd,bE,aa];apply K
    refine aO rfl ?_;refine aG [⟨1,_,_,_,hD⟩] [] fun _ K=>?_;simp only[kd,bE,aa];apply K
    refine aO rfl (aL ?_);show bs _ _ _ _;refine aD fun _ K=>?_;simp only[kd];apply K
    (refine aI ⟨.inr rfl,aH rfl ?_ rfl⟩;simp(disch:=omega) only[kd,Tryz.results38])
   have hD:=sJ n f hn1 hn hf h3 false (by simp[h4]);refine⟨5,by simp[h4],?_⟩;refine aJ Tryz.func38 rfl (by kernel_rfl) ?_;rw[Tryz.ntmps38];refine aD fun _ K=>?_;simp only[kd,bE,ae];apply K
   refine aG [⟨1,_,_,_,hSq⟩] [] fun _ K=>?_;simp only[kd,bE,aa];apply K
   refine aE (aK ?_);refine aD fun _ K=>?_;simp(disch:=omega) only[kd,aa];apply K
   refine aO rfl ?_;refine aG [⟨1,_,_,_,hS⟩] [] fun _ K=>?_;simp only[kd,bE,aa];apply K
   refine aO rfl ?_;refine aG [⟨1,_,_,_,hD⟩] [] fun _ K=>?_;simp only[kd,bE,aa];apply K
   refine aS rfl ?_;refine aD fun _ K=>?_;simp only[kd];apply K
   (refine aI ⟨.inr rfl,aH rfl ?_ rfl⟩;simp(disch:=omega) only[kd,Tryz.results38])
  have hS:=mp n f hn hf false (by simp[h3]);refine⟨4,by simp[h3],?_⟩;refine aJ Tryz.func38 rfl (by kernel_rfl) ?_;rw[Tryz.ntmps38];refine aD fun _ K=>?_;simp only[kd,bE,ae];apply K
  refine aG [⟨1,_,_,_,hSq⟩] [] fun _ K=>?_;simp only[kd,bE,aa];apply K
  refine aE (aK ?_);refine aD fun _ K=>?_;simp(disch:=omega) only[kd,aa];apply K
  refine aO rfl ?_;refine aG [⟨1,_,_,_,hS⟩] [] fun _ K=>?_;simp only[kd,bE,aa];apply K
  refine aS rfl ?_;refine aD fun _ K=>?_;simp only[kd];apply K
  (refine aI ⟨.inr rfl,aH rfl ?_ rfl⟩;simp(disch:=omega) only[kd,Tryz.results38])
 rw[J3 f hn1 h1]at hSq;refine⟨3,by simp[h1],?_⟩;refine aJ Tryz.func38 rfl (by kernel_rfl) ?_;rw[Tryz.ntmps38];refine aD fun _ K=>?_;simp only[kd,bE,ae];apply K
 refine aG [⟨1,_,_,_,hSq⟩] [] fun _ K=>?_;simp only[kd,bE,aa];apply K
 refine aE (aK ?_);refine aD fun _ K=>?_;simp(disch:=omega) only[kd,aa,reduceCtorEq];apply K
 refine aS rfl ?_;refine aD fun _ K=>?_;simp only[kd];apply K
 (refine aI ⟨.inr rfl,aH rfl ?_ rfl⟩;simp(disch:=omega) only[kd,Tryz.results38])
abbrev kP (l:List Int):TV:= .one (.p (.sl (ls fZ l)))
theorem MA (i j:Nat) (f:FF):((List.range j++[i]).map fun r=>(List.range (j+1)).map (f r))=bu (j+1) (j+1) (mm f i j):=by
 rw[bu,List.range_succ,List.map_append,List.map_append]
 congr 1
 ·refine List.map_congr_left fun r hr=>?_
  have:=List.mem_range.1 hr;rw[<- List.range_succ];exact fG (m:=j+1) fun c _=>by unfold mm;rw[if_pos this]
 simp only[List.map_cons,List.map_nil];rw[<- List.range_succ]
 congr 1
 exact fG (m:=j+1) fun c _=>by unfold mm;rw[if_neg (by omega)]
theorem DW {n i j:Nat} {f:FF} (hi:i<n) (hj:j<n) (hf: ∀i j,i<n->j<n->Sz (f i j) 1024): ∀r c,r<j+1->c<j+1->Sz (mm f i j r c) 1024:=fun r c hr hc=>by
 unfold mm;split
 ·exact hf r c (by omega) (by omega)
 exact hf i c hi (by omega)
theorem B9 {n i j:Nat} {f:FF} (hn:n<=16) (hi:i<n) (hj:j<n) (hf: ∀i j,i<n->j<n->Sz (f i j) 1024):Sz (lam f i j) 67174400:=
 lA (by omega) (DW hi hj hf)
theorem zt {n k:Nat} {f:FF} (hn:n<=16) (hk:k<=n) (hf: ∀i j,i<n->j<n->Sz (f i j) 1024):Sz (dd f k) 67174400:=by
 unfold dd;split
 ·exact lZ (by omega)
 exact lA (by omega) fun i j hi hj=>hf i j (by omega) (by omega)
theorem sM (n:Nat) (f:FF) (i j:Nat) (hn:n<=16) (hi:i<n) (hj:j<n) (hf: ∀i j,i<n->j<n->Sz (f i j) 1024):
  CallC Tryz.prog 107 [bE (bu n n f),.raw (.int .i64 (i:Int)),.raw (.int .i64 (j:Int))] ⟨[],tZ (lam f i j)⟩:=by
 have c2:=yV n n f (List.range j++[i]) (List.range (j+1)) hn hn (fun x hx=>by
  rcases List.mem_append.1 hx with h|h
  ·have:=List.mem_range.1 h;omega
  have:x=i:=by simpa using h
  omega) (fun x hx=>by have:=List.mem_range.1 hx;omega) (by simp;omega) (by simp;omega)
 rw[MA]at c2;have c3:=f6 (j+1) (mm f i j) (by omega) (by omega) (DW hi hj hf);refine aJ Tryz.func107 rfl (by kernel_rfl) ?_;rw[Tryz.ntmps107];refine aD fun _ K=>?_;simp(disch:=omega) only[kd,bE,aa,ae];apply K
 refine aD fun _ K=>?_;simp only[kd];apply K
 refine aE (aD fun _ K=>?_);simp only[kd];apply K;refine aT (G:=jD j) (fun g=>⟨(bE (bu n n f)::rN i::rN j::jk::jk::jk::.one (.ptr 6 0 0 0)::.one (.sl 18 0 0 g.i)::.one (.sl 22 0 0 g.i)::rN g.i::j16 (j4 (j4 ([])))),Hm [(6,qB),(18,[⟨3,1,lc fN (List.range g.i)⟩]),(22,[⟨3,1,lc fN (List.range g.i)⟩])]⟩) (fun g=>j-g.i) ⟨0,by omega⟩ ?_ ?_
 ·refine(fg (k:=7) (d:=18) 3 1 (by omega) rfl rfl).trans ((fg (k:=8) (d:=22) 3 1 (by omega) rfl rfl).trans (aF ⟨rfl,rfl,rfl,trivial⟩ ?_));simp[wk]
 rintro⟨k,hk⟩;simp only;by_cases hm:k<j
 ·refine aE (aD fun _ K=>?_);simp(disch:=omega) only[kd,aa,bE];apply K;refine aS rfl (aL ?_);refine aE (aK ?_);refine aD fun _ K=>?_;simp(disch:=omega) only[kd,aa,Nat.reduceMul,ah,ab,List.length_range,mH,af];apply K
  refine aM fun _ K=>?_;simp(disch:=omega) only[kd,aa,Nat.reduceMul,ah,ab,List.length_range,mH,af];apply K
  show bs _ _ _ _;refine aM fun _ K=>?_;simp(disch:=omega) only[kd,aa,aP];apply K
  refine⟨⟨k+1,by omega⟩,by simp only;omega,aF ⟨rfl,?_,?_,trivial⟩ ?_⟩
  ·rw[List.range_succ];rfl
  ·rw[List.range_succ];rfl
  simp[wk]
 have hkj:k=j:=by omega
 subst hkj;refine aE (aD fun _ K=>?_);simp(disch:=omega) only[kd,aa,bE];apply K;refine aO rfl (bK ?_);show bs _ _ _ _;refine ER 9 [⟨9,_,_,_,c2⟩,⟨10,_,_,_,c3⟩] [] (by simp) (by decide) fun _ K=>?_;simp(disch:=omega) only[kd,bE,rV,tZ,aa,Nat.reduceMul,ah,ab,List.length_range,mH,af];apply K
 refine⟨⟨(j4 (jk::jk::.one (.ptr 6 0 0 0)::j16 (bE (bu n n f)::jk::jk::jk::rV (List.range k++[i])::jk::jk::jk::rV (List.range (k+1))::jk::jk::[]))),Hm [(6,qB)]⟩,(bW 18 (cH rfl)).trans ((bW 22 (cH rfl)).trans (aF ⟨rfl,trivial⟩ ?_)),by simp[wk],?_⟩
 ·simp[wk,gW,fD,bj,Hm,gu,gP,List.range_succ,List.take_of_length_le]
 intro _ K;simp(disch:=omega) only[kd,bE,rV,tZ,aa,af];apply K;rw[<- lam]
 (refine aI ⟨.inr rfl,aH rfl ?_ rfl⟩;simp(disch:=omega) only[kd,Tryz.results107,aa,tZ])
theorem pF (n:Nat) (f:FF) (k:Nat) (hn:n<=16) (hk:k<=n):
  CallC Tryz.prog 108 [kP (yL n f),.raw (.int .i64 (k:Int))] ⟨[],tZ (dd f k)⟩:=by
 have c1:=fQ 1 (by omega) (by omega);by_cases h0:k=0
 ·subst h0;rw[show dd f 0=1 from rfl];refine aJ Tryz.func108 rfl (by kernel_rfl) ?_;rw[Tryz.ntmps108];refine aD fun _ K=>?_;simp(disch:=omega) only[kd,kP,aa,ae];apply K
  refine aE (aD fun _ K=>?_);simp(disch:=omega) only[kd];apply K;refine aS rfl ?_;refine aG [⟨0,_,_,_,c1⟩] [] fun _ K=>?_;simp(disch:=omega) only[kd,tZ,aa];apply K
  (refine aI ⟨.inr rfl,aH rfl ?_ rfl⟩;simp(disch:=omega) only[kd,Tryz.results108,aa,tZ])
 rw[show dd f k=detF k f from if_neg h0];have e1:((k:Int)-1).toNat=k-1:=by omega
 have a1:(yL n f)[k-1]?=some (detF k f):=by rw[aU _ (by omega),show k-1+1=k by omega]
 refine aJ Tryz.func108 rfl (by kernel_rfl) ?_;rw[Tryz.ntmps108];refine aD fun _ K=>?_;simp(disch:=omega) only[kd,kP,aa,ae];apply K
 refine aE (aD fun _ K=>?_);simp(disch:=omega) only[kd];apply K;refine aO rfl (aL ?_);show bs _ _ _ _;refine aD fun _ K=>?_;simp(disch:=omega) only[kd,aa,aP,e1,a1,fZ];apply K
 (refine aI ⟨.inr rfl,aH rfl ?_ rfl⟩;simp(disch:=omega) only[kd,Tryz.results108,aa,tZ])
theorem Dc (n:Nat) (f:FF) (i j:Nat) (hn:n<=16) (hi:i<n) (hj:j<n) (hf: ∀i j,i<n->j<n->Sz (f i j) 1024):
  CallC Tryz.prog 104 [bE (bu n n f),kP (yL n f),.raw (.int .i64 (i:Int)),.raw (.int .i64 (j:Int))] ⟨[],.raw (.bool (decide (2*((lam f i j).natAbs:Int)<=dd f (j+1))))⟩:=by
 have hl:=B9 hn hi hj hf;have hd:=zt (k:=j+1) hn (by omega) hf;have hla:Sz ((lam f i j).natAbs:Int) 67174400:=hl.le (by omega);have hm:Sz (2*((lam f i j).natAbs:Int)) (1+67174400):=Sz.mul (m8 (by decide) (by omega)) hla;have c1:=fQ 2 (by omega) (by omega);have c2:=sM n f i j hn hi hj hf;have c3:=Df (lam f i j) (hl.mono (by omega));have c4:=l9 2 ((lam f i j).natAbs:Int) (m8 (by decide) (by omega)) (hla.mono (by omega));have c5:=pF n f (j+1) hn (by omega);rw[show((j+1:Nat):Int)=(j:Int)+1 by omega]at c5;have c6:=sI (2*((lam f i j).natAbs:Int)) (dd f (j+1)) (hm.mono (by omega)) (hd.mono (by omega));have hle:=xz (2*((lam f i j).natAbs:Int)) (dd f (j+1));generalize lam f i j=l at*
 generalize dd f (j+1)=d at*
 refine aJ Tryz.func104 rfl (by kernel_rfl) ?_;rw[Tryz.ntmps104];refine aD fun _ K=>?_;simp only[kd,bE,kP,aa,ae];apply K
 refine aG [⟨0,_,_,_,c1⟩,⟨4,_,_,_,c2⟩,⟨5,_,_,_,c3⟩,⟨6,_,_,_,c4⟩,⟨10,_,_,_,c5⟩,⟨11,_,_,_,c6⟩] [] fun _ K=>?_;simp(disch:=omega) only[kd,tZ,bE,kP,aa,af,aP,hle];apply K
 (refine aI ⟨.inr rfl,aH rfl ?_ rfl⟩;simp(disch:=omega) only[kd,Tryz.results104])
theorem yU (n:Nat) (f:FF) (i:Nat) (hn:n<=16) (hi:i<n) (h0:0<i) (hf: ∀i j,i<n->j<n->Sz (f i j) 1024):
  CallC Tryz.prog 109 [bE (bu n n f),kP (yL n f),.raw (.int .i64 (i:Int))] ⟨[],.raw (.bool (decide (3*(dd f i*dd f i)<=4*(dd f (i-1)*dd f (i+1)+lam f i (i-1)*lam f i (i-1)))))⟩:=by
 have hl:=B9 (j:=i-1) hn hi (by omega) hf;have d0:=zt (k:=i-1) hn (by omega) hf;have d1:=zt (k:=i) hn (by omega) hf;have d2:=zt (k:=i+1) hn (by omega) hf;have c0:=sM n f i (i-1) hn hi (by omega) hf;have c1:=pF n f (i-1) hn (by omega);have c2:=pF n f (i+1) hn (by omega);have c3:=pF n f i hn (by omega);rw[show((i+1:Nat):Int)=(i:Int)+1 by omega]at c2;rw[show((i-1:Nat):Int)=(i:Int)-1 by omega]at c0 c1;have s4:=fQ 4 (by omega) (by omega);have s3:=fQ 3 (by omega) (by omega);generalize lam f i (i-1)=l at*
 generalize dd f (i-1)=a at*
 generalize dd f (i+1)=b at*
 generalize dd f i=d at*
 have z1:Sz (a*b) 134348800:=(d0.mul d2).mono (by omega);have z2:Sz (l*l) 134348800:=(hl.mul hl).mono (by omega);have z3:Sz (a*b+l*l) 134348801:=z1.add z2;have z4:Sz (4*(a*b+l*l)) 134348802:=(Sz.mul (m8 (k:=1) (by decide) (by omega)) z3).mono (by omega);have z5:Sz (d*d) 134348800:=(d1.mul d1).mono (by omega);have z6:Sz (3*(d*d)) 134348802:=(Sz.mul (m8 (k:=1) (by decide) (by omega)) z5).mono (by omega);have m1:=l9 a b (d0.mono (by omega)) (d2.mono (by omega));have m2:=l9 l l (hl.mono (by omega)) (hl.mono (by omega));have m3:=vL (a*b) (l*l) (z1.mono (by omega)) (z2.mono (by omega));have m4:=l9 4 (a*b+l*l) (m8 (by decide) (by omega)) (z3.mono (by omega));have m5:=l9 d d (d1.mono (by omega)) (d1.mono (by omega));have m6:=l9 3 (d*d) (m8 (by decide) (by omega)) (z5.mono (by omega));have m7:=sI (4*(a*b+l*l)) (3*(d*d)) (z4.mono (by omega)) (z6.mono (by omega));have hge:=Li (4*(a*b+l*l)) (3*(d*d));refine aJ Tryz.func109 rfl (by kernel_rfl) ?_;rw[Tryz.ntmps109];refine aD fun _ K=>?_;simp only[kd,bE,kP,aa,ae];apply K
 refine aG [⟨4,_,_,_,c0⟩] [] fun _ K=>?_;simp(disch:=omega) only[kd,bE,tZ,aa,aP];apply K
 refine bv aZ [⟨0,_,_,_,s4⟩,⟨4,_,_,_,c1⟩,⟨8,_,_,_,c2⟩,⟨9,_,_,_,m1⟩,⟨12,_,_,_,m2⟩,⟨13,_,_,_,m3⟩,⟨14,_,_,_,m4⟩] [] (by kernel_rfl) fun _ K=>?_;simp(disch:=omega) only[kd,tZ,kP,aa,aP,af,ab];apply K
 refine bv aZ [⟨1,_,_,_,s3⟩,⟨4,_,_,_,c3⟩,⟨7,_,_,_,c3⟩,⟨8,_,_,_,m5⟩,⟨9,_,_,_,m6⟩,⟨10,_,_,_,m7⟩] [] (by kernel_rfl) fun _ K=>?_;simp(disch:=omega) only[kd,tZ,kP,aa,ab,af,hge];apply K
 (refine aI ⟨.inr rfl,aH rfl ?_ rfl⟩;simp(disch:=omega) only[kd,Tryz.results109])
structure Rc (n:Nat) (f:FF) where
 i:Nat
 hi:i<=n
 ok: ∀a,a<i->(∀b,b<a->SizF f a b)/\(0<a->LovF f a)
structure Re (n i:Nat) (f:FF) where
 j:Nat
 hj:j<=i
 ok: ∀b,b<j->SizF f i b
theorem F9 (n:Nat) (f:FF) (hn1:1<=n) (hn:n<=16) (hf: ∀i j,i<n->j<n->Sz (f i j) 1024) (r:Bool) (hr:r=true↔NW f n):
  CallC Tryz.prog 74 [bE (bu n n f)] ⟨[],.raw (.bool r)⟩:=by
 have hL:=qt n f hn1 hn hf;have hml:=aV n n f;refine aJ Tryz.func74 rfl (by kernel_rfl) ?_;rw[Tryz.ntmps74];refine aD fun _ K=>?_;simp only[kd,bE,ae];apply K
 refine aG [⟨1,_,_,_,hL⟩] [] fun _ K=>?_;simp only[kd,bE,PU,aa];apply K
 refine aE (aD fun _ K=>?_);simp only[kd,aa,hml];apply K;refine aT (G:=Rc n f) (fun g=>⟨(bE (bu n n f)::jk::.raw (.bool false)::kP (yL n f)::j4 (j4 (jk::rN n::rN g.i::j16 (j4 (jk::jk::jk::[]))))),Hm []⟩) (fun g=>n-g.i) ⟨0,by omega,fun a ha=>by omega⟩ ?_ ?_
 ·refine aF trivial ?_;simp[wk]
 rintro⟨i,hi,ok⟩;simp only;by_cases hm:i<n
 ·refine aD fun _ K=>?_;simp(disch:=omega) only[kd,bE,kP];apply K
  refine bC rfl ?_;refine aE (aK ?_);refine aD fun _ K=>?_;simp only[kd];apply K
  refine aE (aD fun _ K=>?_);simp only[kd];apply K;refine aT (G:=Re n i f) (fun g=>⟨(bE (bu n n f)::jk::.raw (.bool false)::kP (yL n f)::jk::rN i::rN g.j::j4 (jk::jk::rN n::rN i::j16 (j4 (jk::jk::jk::[])))),Hm []⟩) (fun g=>i-g.j) ⟨0,by omega,fun a ha=>by omega⟩ ?_ ?_
  ·refine aF trivial ?_;simp[wk]
  rintro⟨j,hj,okj⟩;simp only;by_cases hm2:j<i
  ·have c1:=Dc n f i j hn hm (by omega) hf;by_cases hs:SizF f i j
   ·rw[decide_eq_true (show 2*((lam f i j).natAbs:Int)<=dd f (j+1)from hs)]at c1;refine aE (aD fun _ K=>?_);simp(disch:=omega) only[kd,aa,bE,kP];apply K;refine aS rfl (aL ?_);refine aE (aK ?_);refine aG [⟨4,_,_,_,c1⟩] [] fun _ K=>?_;simp only[kd,bE,kP,aa];apply K
    refine aO rfl (aL ?_);show bs _ _ _ _;refine aM fun _ K=>?_;simp(disch:=omega) only[kd,aa,aP];apply K
    refine⟨⟨j+1,by omega,fun b hb=>?_⟩,by simp only;omega,aF trivial ?_⟩
    ·by_cases e:b=j
     ·subst e;exact hs
     exact okj b (by omega)
    simp[wk]
   have hr0:r=false:=by
    cases r with
    |false=>rfl
    |true=>exact absurd ((hr.1 rfl i hm).1 j hm2) hs
   subst hr0;rw[decide_eq_false (show ¬2*((lam f i j).natAbs:Int)<=dd f (j+1)from hs)]at c1;refine aE (aD fun _ K=>?_);simp(disch:=omega) only[kd,aa,bE,kP];apply K;refine aS rfl (aL ?_);refine aE (aK ?_);refine aG [⟨4,_,_,_,c1⟩] [] fun _ K=>?_;simp only[kd,bE,kP,aa];apply K
   refine aS rfl ?_;refine aD fun _ K=>?_;simp only[kd];apply K
   (refine aI ⟨.inr rfl,aH rfl ?_ rfl⟩;simp(disch:=omega) only[kd,Tryz.results74])
  have hji:j=i:=by omega
  subst hji;refine aE (aD fun _ K=>?_);simp(disch:=omega) only[kd,aa,bE,kP];apply K;refine aO rfl (bK ?_);show bs _ _ _ _;by_cases h0:0<j
  ·have c1:=yU n f j hn hm h0 hf;by_cases hs:LovF f j
   ·rw[decide_eq_true (show 3*(dd f j*dd f j)<=4*(dd f (j-1)*dd f (j+1)+lam f j (j-1)*lam f j (j-1))from hs)]at c1;refine aG [⟨6,_,_,_,c1⟩] [] fun _ K=>?_;simp(disch:=omega) only[kd,bE,kP,aa];apply K
    refine aO rfl (aL ?_);show bs _ _ _ _;refine aM fun _ K=>?_;simp(disch:=omega) only[kd,aP];apply K
    refine⟨⟨j+1,by omega,fun a ha=>?_⟩,by simp only;omega,aF trivial ?_⟩
    ·by_cases e:a=j
     ·subst e;exact⟨okj,fun _=>hs⟩
     exact ok a (by omega)
    simp[wk]
   have hr0:r=false:=by
    cases r with
    |false=>rfl
    |true=>exact absurd ((hr.1 rfl j hm).2 h0) hs
   subst hr0;rw[decide_eq_false (show ¬3*(dd f j*dd f j)<=4*(dd f (j-1)*dd f (j+1)+lam f j (j-1)*lam f j (j-1))from hs)]at c1;refine aG [⟨6,_,_,_,c1⟩] [] fun _ K=>?_;simp(disch:=omega) only[kd,bE,kP,aa];apply K
   refine aS rfl ?_;refine aD fun _ K=>?_;simp only[kd];apply K
   (refine aI ⟨.inr rfl,aH rfl ?_ rfl⟩;simp(disch:=omega) only[kd,Tryz.results74])
  have hj0:j=0:=by omega
  subst hj0;refine aD fun _ K=>?_;simp(disch:=omega) only[kd,aa];apply K
  refine aO rfl (aL ?_);show bs _ _ _ _;refine aM fun _ K=>?_;simp(disch:=omega) only[kd,aP];apply K
  refine⟨⟨1,by omega,fun a ha=>?_⟩,by simp only;omega,aF trivial ?_⟩
  ·have:a=0:=by omega
   subst this;exact⟨fun b hb=>by omega,fun h=>by omega⟩
  simp[wk]
 have hr1:r=true:=hr.2 fun a ha=>ok a (by omega)
 subst hr1;refine aD fun _ K=>?_;simp(disch:=omega) only[kd,bE,kP];apply K
 refine bJ rfl ?_;show bs _ _ _ _;refine aD fun _ K=>?_;simp only[kd];apply K
 (refine aI ⟨.inr rfl,aH rfl ?_ rfl⟩;simp(disch:=omega) only[kd,Tryz.results74])
end Go.Proofs.YtfgeomlagfomgaaGreatDoor
