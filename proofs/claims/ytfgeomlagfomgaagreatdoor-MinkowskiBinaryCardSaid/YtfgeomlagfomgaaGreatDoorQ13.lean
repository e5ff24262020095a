/-
  Part 14 of a proof (walks and plain facts).
-/
import Derived.Test.YtfgeomlagfomgaaGreatDoorQ12
set_option linter.all false
set_option maxRecDepth 100000
set_option maxHeartbeats 64000000
open Nat renaming reduceAdd → aa
open Nat renaming reduceEqDiff → ab
open List renaming replicate → ae
open Nat renaming reduceBEq → af
open Nat renaming reduceLeDiff → ah
open List renaming getElem?_eq_none → aq
open List renaming mem_of_getElem? → au
open List renaming length_replicate → ax
open List renaming getElem?_map → ay
namespace Go.Proofs.YtfgeomlagfomgaaGreatDoor
open Go.RowKit
abbrev pQ:List AV:=[.raw (.slice none 0 0)]
theorem jy {α:Type} {A:List α} {x:α} {l:List α} {i:Nat} (h:A.length=i):(A++x::l)[i]?=some x:=by
 rw[List.getElem?_append_right (by omega),h,Nat.sub_self];rfl
theorem jz {α:Type} {A:List α} {x y:α} {l:List α} {i:Nat} (h:A.length=i):(A++x::l).set i y=A++y::l:=by
 rw[List.set_append_right _ _ (by omega),h,Nat.sub_self];rfl
theorem KN (k:Nat->Nat->Bool) (R:List (List Int)):(R.map mY).map (il k)=R.map mY:=by
 rw[List.map_map];exact List.map_congr_left fun r _=>by simp[il,mY,zg]
theorem wz (d i c:Nat):(gC d (ae i c)).map (List.map (bD fun x y=>x==d&&y==i+1))=gC d (ae i c):=by
 apply List.ext_getElem?;intro k;rw[ay];by_cases h:k<i
 ·rw[bO d c h];have:k≠i:=by omega
  simp[bD,this]
 rw[aq (by rw[cw,ax];omega)];rfl
def Mv (d n c:Nat) (f:FF) (i:Nat):List OObj:=⟨84,1,gC d (ae i c)++ae (n-i) pQ⟩::(bs i c f).map mY
def Ql (d n c:Nat) (f:FF) (i j:Nat):List OObj:=⟨84,1,gC d (ae i c)++[.sl d (i+1) 0 (j+1)]::ae (n-i-1) pQ⟩::((bs i c f).map mY++[mY (bE (j+1) (f i))])
def Rc (d n c:Nat) (f:FF) (i:Nat):Nat->List OObj
 |0=>Mv d n c f i
 |j+1=>Ql d n c f i j
theorem vw (i c:Nat) (f:FF):bs (i+1) c f=bs i c f++[bE c (f i)]:=by simp[bs,List.range_succ]
theorem oU (j:Nat) (g:Nat->Int):bE (j+1) g=bE j g++[g j]:=by simp[bE,List.range_succ]
theorem Pk {d n c i:Nat} (f:FF) (hc:1<=c) (hi:i<n):Rc d n c f i c=Mv d n c f (i+1):=by
 obtain⟨j,rfl⟩: ∃j,c=j+1:=⟨c-1,by omega⟩;show Ql d n (j+1) f i j=_;unfold Ql Mv;rw[vw,List.replicate_succ' (n:=i),nY,ax];simp[Nat.sub_sub]
theorem Pj (d n c:Nat) (f:FF):Mv d n c f n=gZ d n c f:=by
 unfold Mv;simp
theorem Mw {d n c i:Nat} (f:FF) (hi:i<n):Mv d n c f i=⟨84,1,gC d (ae i c)++pQ::ae (n-i-1) pQ⟩::(bs i c f).map mY:=by
 unfold Mv;rw[show n-i=n-i-1+1 by omega,List.replicate_succ];rfl
theorem IC (n c:Nat) (f:FF) (hn:n<=17) (hc1:1<=c) (hc:c<=17) (hf: ∀i j,i<n->j<c->Bg (f i j)):
  CallC Tryz.prog 54 [bJ (bs n c f)] ⟨gZ 0 n c f,.one (.sl 0 0 0 n)⟩:=by
 have hml:=aW n c f;refine aI Tryz.func54 rfl (by kernel_rfl) ?_;rw[Tryz.ntmps54];refine aD fun _ K=>?_;simp only[kd,bJ,ae];apply K
 refine aD fun _ K=>?_;simp(disch:=omega) only[kd,aa,hml];apply K
 refine aF (aD fun _ K=>?_);simp only[kd,aa,hml];apply K;refine aY (G:=j6 n) (fun g=>⟨(bJ (bs n c f)::jk::.raw (.slice none 0 0)::.one (.sl 9 0 0 n)::j4 (jk::jk::jk::rN n::rN g.i::j16 (j4 (j4 (jk::[]))))),Hm [(9,Mv 9 n c f g.i)]⟩) (fun g=>n-g.i) ⟨0,by omega⟩ ?_ ?_
 ·refine aE ⟨?_,trivial⟩ ?_
  ·show[_]=_;simp[Mv,gC,bs]
  simp[wk]
 rintro⟨i,hi⟩;simp only;by_cases hm:i<n
 ·have hrow:=bC c f hm;have hmi:=aW i c f;have hsl:(gC 9 (ae i c)).length=i:=by rw[cw,ax]
  have hrl:((bs i c f).map mY).length=i:=by rw[List.length_map,hmi]
  refine aD fun _ K=>?_;simp(disch:=omega) only[kd,bJ];apply K
  refine bG rfl ?_;refine aF (aK ?_);refine aD fun _ K=>?_;simp only[kd];apply K
  refine aD fun _ K=>?_;simp(disch:=omega) only[kd,aa,hrow,fR,bv];apply K
  refine aY (G:=j6 c) (fun g=>⟨(bJ (bs n c f)::jk::.raw (.slice none 0 0)::.one (.sl 9 0 0 n)::rN i::j4 (jk::jk::rN n::rN i::j4 (jk::.one (.p (.sl (ls fZ (bE c (f i)))))::rN c::rN g.i::j16 (jk::[])))),Hm [(9,Rc 9 n c f i g.i)]⟩) (fun g=>c-g.i) ⟨0,by omega⟩ ?_ ?_
  ·refine aE ⟨rfl,trivial⟩ ?_;simp[wk]
  rintro⟨j,hj⟩;simp only;by_cases hm2:j<c
  ·have hent:=aU (f i) hm2;have hN:=J8 (f i j) (hf i j hm hm2);cases j with
   |zero=>
    rw[Rc,Mw f hm];refine aD fun _ K=>?_;simp(disch:=omega) only[kd,bJ];apply K
    refine bG rfl ?_;refine aF (aK ?_);refine aD fun _ K=>?_;simp(disch:=omega) only[kd,aa,hent,fZ,ab];apply K
    refine ef be [⟨7,_,_,_,hN⟩] [] (by kernel_rfl) fun _ K=>?_;simp(disch:=omega) only[kd,tZ,aa,ab,jy hsl,Nat.reduceMul,ah,jz hsl,hmi,af];apply K
    show bo _ _ _ _;refine aL fun _ K=>?_;simp(disch:=omega) only[kd,aP];apply K
    refine⟨⟨1,by omega⟩,by simp only;omega,aE ⟨?_,trivial⟩ ?_⟩
    ·rfl
    simp[wk]
   |succ j=>
    have h01:(0==i+1)=false:=by simp
    rw[Rc,Ql];refine aD fun _ K=>?_;simp(disch:=omega) only[kd,bJ];apply K
    refine bG rfl ?_;refine aF (aK ?_);refine aD fun _ K=>?_;simp(disch:=omega) only[kd,aa,hent,fZ,ab];apply K
    refine ef be [⟨7,_,_,_,hN⟩] [] (by kernel_rfl) fun _ K=>?_;simp(disch:=omega) only[kd,tZ,aa,mY,ab,jy hsl,Nat.reduceMul,ah,jy hrl,bv,List.map_append,wz,List.map_replicate,KN,vq,jz hrl,h01,af,jz hsl,reduceCtorEq,List.length_append,hrl];apply K
    show bo _ _ _ _;refine aL fun _ K=>?_;simp(disch:=omega) only[kd,aP];apply K
    refine⟨⟨j+1+1,by omega⟩,by simp only;omega,aE ⟨?_,trivial⟩ ?_⟩
    ·show _=Ql 9 n c f i (j+1);rw[Ql,mY,oU (j+1)];rfl
    simp[wk]
  have hjc:j=c:=by omega
  subst hjc;refine aD fun _ K=>?_;simp(disch:=omega) only[kd,bJ];apply K
  refine bT rfl ?_;show bo _ _ _ _;rw[Pk f hc1 hm];refine aL fun _ K=>?_;simp(disch:=omega) only[kd,aP];apply K
  refine⟨⟨i+1,by omega⟩,by simp only;omega,aE ⟨rfl,trivial⟩ ?_⟩;simp[wk]
 have hin:i=n:=by omega
 subst hin;refine aD fun _ K=>?_;simp(disch:=omega) only[kd,bJ];apply K
 refine bT rfl ?_;show bo _ _ _ _;rw[Pj];refine aD fun _ K=>?_;simp only[kd];apply K
 refine aH ⟨.inr rfl,_,ce.refl _,?_⟩;refine⟨.one (.sl 9 0 0 i),9,?_,rfl,?_,rfl⟩
 ·simp(disch:=omega) only[kd,Tryz.results54]
 exact(gO 9 0 _ _ _).symm
theorem ki {P:Program} {c z:Code} {Q:Exit->AS->Prop} {s S:AS} (h1:bo P c (mT (fun s'=>ce s' S) Q) s) (h2:bo P z Q S):bo P c (mT (bo P z Q) Q) s:=h1.mono fun e s' h=>by
 cases e with
 |normal=>exact bo.weak h h2
 |_=>exact h
theorem Sz.mul {a b:Int} {k l:Nat} (ha:Sz a k) (hb:Sz b l):Sz (a*b) (k+l):=by
 unfold Sz at*;rw[Int.natAbs_mul,Nat.pow_add];exact Nat.mul_lt_mul'' ha hb
theorem Sz.sub {a b:Int} {k:Nat} (ha:Sz a k) (hb:Sz b k):Sz (a-b) (k+1):=by
 unfold Sz at*
 have:=Int.natAbs_sub_le a b;rw[Nat.pow_succ];generalize 4294967296^k=p at*
 omega
theorem Sz.add {a b:Int} {k:Nat} (ha:Sz a k) (hb:Sz b k):Sz (a+b) (k+1):=by
 unfold Sz at*
 have:=Int.natAbs_add_le a b;rw[Nat.pow_succ];generalize 4294967296^k=p at*
 omega
theorem Sz.ediv {a:Int} {k:Nat} (ha:Sz a k) (b:Int):Sz (a/b) k:=ha.le (Int.natAbs_ediv_le_natAbs a b)
theorem DT {f:FF} {n k:Nat}: ∀m p,n-p=m->piv f n k p<n->p<=piv f n k p/\f (piv f n k p) k≠0
 |0,p,hm,h=>by rw[oP (by omega)]at h;omega
 |m+1,p,hm,h=>by
  by_cases h0:f p k=0
  ·rw[sc (by omega) h0]at h⊢;have:=DT m (p+1) (by omega) h;exact⟨by omega,this.2⟩
  rw[r9 (by omega) h0]at h⊢;exact⟨by omega,h0⟩
theorem zF {f:FF} {n k:Nat}: ∀m p,n-p=m->piv f n k p<=n
 |0,p,hm=>by rw[oP (by omega)];omega
 |m+1,p,hm=>by
  by_cases h0:f p k=0
  ·rw[sc (by omega) h0];exact zF m (p+1) (by omega)
  rw[r9 (by omega) h0];omega
def ea (k:Nat) (last:Int) (g:FF) (i j:Nat):Nat->Nat->Int:=fun a b=>if k<a/\k<b/\(a<i\/(a=i/\b<j))then(g k k*g a b-g a k*g k b)/last else g a b
theorem FD {k i j:Nat} (last:Int) (g:FF) (hi:k<i) (hj:k<j) (a b:Nat):upd (ea k last g i j) i j ((g k k*g i j-g i k*g k j)/last) a b=ea k last g i (j+1) a b:=by
 unfold upd ea;by_cases h1:a=i
 ·subst h1;by_cases h2:b=j
  ·subst h2;simp[hi,hj]
  have:b<j+1↔b<j:=by omega
  simp[h2,this]
 simp[h1]
theorem Kc {k n:Nat} (last:Int) (g:FF) (i a b:Nat) (hb:b<n):ea k last g i n a b=ea k last g (i+1) (k+1) a b:=by
 unfold ea;have:(k<a/\k<b/\(a<i\/a=i/\b<n))↔(k<a/\k<b/\(a<i+1\/a=i+1/\b<k+1)):=by omega
 simp only[this]
theorem FE (k:Nat) (last:Int) (g:FF):ea k last g (k+1) (k+1)=g:=by
 funext a b;unfold ea;rw[if_neg (by omega)]
theorem Kb {k n:Nat} (last:Int) (g:FF) (a b:Nat) (ha:a<n):ea k last g n (k+1) a b=Kd k last g a b:=by
 unfold ea Kd;have:(k<a/\k<b/\(a<n\/a=n/\b<k+1))↔(k<a/\k<b):=by omega
 simp only[this]
theorem iV {k i j a b:Nat} (last:Int) (g:FF) (h: ¬(k<a/\k<b/\(a<i\/(a=i/\b<j)))):ea k last g i j a b=g a b:=by
 unfold ea;rw[if_neg h]
theorem zu {d n p k:Nat} (g:FF) (hp:p<n) (hk:k<n) (hne:k≠p) (r:Nat):(gZ d n n (swp p k g))[r]?=
  (((⟨84,1,((gC d (ae n n)).set p [.sl d (k+1) 0 n]).set k [.sl d (p+1) 0 n]⟩::(bs n n g).map mY:List OObj))[sw (p+1) (k+1) r]?).map (wR d (p+1) (k+1)):=by
 cases r with
 |zero=>
  rw[show sw (p+1) (k+1) 0=0 by simp[sw]];simp only[List.getElem?_cons_zero,Option.map_some,wR]
  congr 2
  apply List.ext_getElem?;intro i;rw[ay,List.getElem?_set,List.getElem?_set,List.length_set,cw,ax];by_cases hi:i<n
  ·rw[bO d n hi];by_cases h1:k=i
   ·subst h1;simp[hi,jY,o6,sw]
   by_cases h2:p=i
   ·subst h2;simp[h1,hi,jY,o6,sw]
   have h1': ¬i=k:=fun e=>h1 e.symm
   have h2': ¬i=p:=fun e=>h2 e.symm
   simp[h1,h2,h1',h2',jY,o6,sw]
  have h1: ¬k=i:=by omega
  have h2: ¬p=i:=by omega
  rw[if_neg h1,if_neg h2,aq (by rw[cw,ax];omega)];rfl
 |succ r=>
  have hsw:sw (p+1) (k+1) (r+1)=sw p k r+1:=by
   unfold sw;by_cases h1:r=p
   ·simp[h1]
   by_cases h2:r=k
   ·simp[h1,h2,hne]
   simp[h1,h2]
  have hO: ∀l:List Int,wR d (p+1) (k+1) (mY l)=mY l:=fun l=>by
   simp only[wR,mY,lc,List.map_map]
   congr 1
  rw[hsw,List.getElem?_cons_succ,List.getElem?_cons_succ,ay,ay];by_cases hr:r<n
  ·have hs:sw p k r<n:=by unfold sw;split<;>(try split)<;>omega
   rw[bC _ _ hr,bC _ _ hs];simp only[Option.map_some,hO]
   congr 3
   unfold swp sw;by_cases h1:r=p
   ·simp[h1]
   by_cases h2:r=k
   ·simp[h1,h2,hne]
   simp[h1,h2]
  have hs: ¬sw p k r<n:=by unfold sw;rw[if_neg (by omega),if_neg (by omega)];exact hr
  rw[aq (by rw[aW];omega),aq (by rw[aW];omega)];rfl
structure RQ (n:Nat) (f:FF) where
 k:Nat
 g:Nat->Nat->Int
 last:Int
 neg:Bool
 b:Nat
 hk:k<=n
 hv:detG n k g last neg=detF n f
 hl:last≠0
 hb:b+1<=1025*2^k
 sg: ∀i j,i<n->j<n->Sz (g i j) b
 sl:Sz last b
structure RS (n k:Nat) (g:FF) where
 p:Nat
 hkp:k<=p
 hp:p<=n
 hv:piv g n k p=piv g n k k
structure Q7 (n k:Nat) where
 i:Nat
 hk:k+1<=i
 hi:i<=n
abbrev rA (v:Int):List OObj:=Ao (decide (v<0)) (aS v.natAbs)
theorem tX:sg 0=0:=rfl
theorem FT {z:Int} (h:z≠0):sg z≠0:=by unfold sg;split<;>simp[h]
theorem iO {k:Nat} (h:k<=16):2^k<=65536:=Nat.pow_le_pow_right (n:=2) (by omega) h
theorem iT (n:Nat) (f:FF) (hn1:1<=n) (hn:n<=16) (hf: ∀i j,i<n->j<n->Sz (f i j) 1024):
  CallC Tryz.prog 22 [bJ (bs n n f)] ⟨[],tZ (detF n f)⟩:=by
 have hC:=IC n n f (by omega) hn1 (by omega) (fun i j hi hj=>(hf i j hi hj).mono (by omega));have hS:=gQ 1 (by omega) (by omega);refine aI Tryz.func22 rfl (by kernel_rfl) ?_;rw[Tryz.ntmps22];refine aD fun _ K=>?_;simp(disch:=omega) only[kd,bJ,ae,aa];apply K
 refine aG [⟨1,_,_,_,hC⟩] [] fun _ K=>?_;simp only[kd,bJ,aa,ab];apply K
 refine aD fun _ K=>?_;simp only[kd,aa];apply K
 refine aG [⟨0,_,_,_,hS⟩] [] fun _ K=>?_;simp(disch:=omega) only[kd,tZ,aa,ab];apply K
 refine aF (aD fun _ K=>?_);simp only[kd];apply K;refine aY (G:=RQ n f) (fun g=>⟨(jk::jk::.one (.ptr 2 0 0 0)::.one (.sl 12 0 0 n)::rN n::.one (.ptr 5 0 0 0)::.raw (.bool g.neg)::rN g.k::j16 (j16 (j16 (j16 (j16 (j16 (j16 (j4 (jk::[]))))))))),Hm [(2,rO),(5,rA g.last),(12,gZ 12 n n g.g)]⟩) (fun g=>n-g.k) ⟨0,f,1,false,1024,by omega,rfl,by omega,by omega,hf,oc (by omega)⟩ ?_ ?_
 ·refine aE ⟨rfl,rfl,?_,trivial⟩ ?_
  ·exact gO 0 12 n n f
  simp[wk]
 rintro⟨k,g,last,neg,b,hk,hv,hl,hb,sgz,slz⟩;simp only;by_cases hm:k<n
 ·have h2k:=iO (k:=k) (by omega);have hbb:b<=67174400:=by omega
  have hvk:detG n k g last neg=if piv g n k k=n then 0 else detG n (k+1) (Kd k last (LU n k g)) (LU n k g k k) (neg !=decide (k<piv g n k k)):=by rw[detG,if_pos hm]
  refine aF (aD fun _ K=>?_);simp(disch:=omega) only[kd,aa];apply K;refine aX rfl (aM ?_);refine aF (aK ?_);refine aD fun _ K=>?_;simp only[kd];apply K
  refine aF (ki (S:=⟨(jk::jk::.one (.ptr 2 0 0 0)::.one (.sl 12 0 0 n)::rN n::.one (.ptr 5 0 0 0)::.raw (.bool neg)::rN k::.raw (.int .i64 ((piv g n k k:Nat):Int))::j16 (j16 (j16 (j16 (j16 (j16 (j16 (j4 ([]))))))))),Hm [(2,rO),(5,rA last),(12,gZ 12 n n g)]⟩) ?_ ?_)
  ·refine aY (G:=RS n k g) (fun q=>⟨(jk::jk::.one (.ptr 2 0 0 0)::.one (.sl 12 0 0 n)::rN n::.one (.ptr 5 0 0 0)::.raw (.bool neg)::rN k::rN q.p::j16 (j16 (j16 (j16 (j16 (j16 (j16 (j4 ([]))))))))),Hm [(2,rO),(5,rA last),(12,gZ 12 n n g)]⟩) (fun q=>n-q.p) ⟨k,by omega,by omega,rfl⟩ ?_ ?_
   ·refine aE ⟨rfl,rfl,rfl,trivial⟩ ?_;simp[wk]
   rintro⟨p,hkp,hp,hpv⟩;simp only;by_cases hpn:p<n
   ·have g1:=bO (n:=n) (i:=p) 12 n hpn;have g2:=eE n g hpn;have g3:=aU (g p) hm;have hSg:=nX (g p k) ((sgz p k hpn hm).mono (by omega));by_cases h0:g p k=0
    ·rw[h0]at hSg g3;refine aF (aG [⟨11,_,_,_,hSg⟩] [] fun _ K=>?_);simp(disch:=omega) only[kd,tZ,tX,aa,ab,g1,g2,fZ,g3];apply K;refine aX rfl (aM ?_);refine aK ?_;refine aL fun _ K=>?_;simp(disch:=omega) only[kd,aa,aP];apply K
     refine⟨⟨p+1,by omega,by omega,?_⟩,by simp only;omega,aE ⟨rfl,rfl,rfl,trivial⟩ ?_⟩
     ·rw[<- hpv,sc hpn h0]
     simp[wk]
    have hs0:=FT h0;refine aF (aG [⟨11,_,_,_,hSg⟩] [] fun _ K=>?_);simp(disch:=omega) only[kd,tZ,aa,ab,g1,g2,fZ,g3];apply K;refine aR rfl (bN ?_);show ce _ _;have hpe:piv g n k k=p:=by rw[<- hpv,r9 hpn h0]
    refine aE ⟨rfl,rfl,rfl,trivial⟩ ?_;simp[wk,hpe]
   have hpe:piv g n k k=p:=by rw[<- hpv,oP hpn];omega
   refine aF (aD fun _ K=>?_);simp(disch:=omega) only[kd,aa];apply K;refine aR rfl (bN ?_);show ce _ _;refine aE ⟨rfl,rfl,rfl,trivial⟩ ?_;simp[wk,hpe]
  have hpl:=zF (f:=g) (n:=n) (k:=k) (n-k) k rfl;have hpn':=DT (f:=g) (n:=n) (k:=k) (n-k) k rfl;generalize hpp:piv g n k k=p at*
  by_cases hpn:p=n
  ·rw[if_pos hpn]at hvk;refine aF (aD fun _ K=>?_);simp(disch:=omega) only[kd,aa];apply K;refine aX rfl ?_;refine aD fun _ K=>?_;simp(disch:=omega) only[kd,ab,aa];apply K
   refine bo.weak (fo 2) ?_;refine aH ⟨.inr rfl,aJ rfl ?_ rfl⟩;rw[<- hv,hvk];simp(disch:=omega) only[kd,Tryz.results22,zH,ab,zO,Ar,CA,aa,tZ];simp[cH,ls]
  rw[if_neg hpn]at hvk;obtain⟨hkp,hpk0⟩:=hpn' (by omega);refine aF (aD fun _ K=>?_);simp(disch:=omega) only[kd,aa];apply K;refine aR rfl (aM ?_);show bo _ _ _ _;refine aF (aD fun _ K=>?_);simp only[kd,aa];apply K;refine ki (S:=⟨(jk::jk::.one (.ptr 2 0 0 0)::.one (.sl 12 0 0 n)::rN n::.one (.ptr 5 0 0 0)::.raw (.bool (neg !=decide (k<p)))::rN k::j16 (j16 (j16 (j16 (j16 (j16 (j16 (j4 (jk::[]))))))))),Hm [(2,rO),(5,rA last),(12,gZ 12 n n (swp p k g))]⟩) ?_ ?_
  ·by_cases hlt:k<p
   ·have g1:=bO (n:=n) (i:=p) 12 n (by omega);have g2:=bO (n:=n) (i:=k) 12 n (by omega);refine bW rfl (fun _=>?_) (fun h=>by simp at h<;>omega);have g4:((gC 12 (ae n n)).set p [.sl 12 (k+1) 0 n])[k]?=some [.sl 12 (k+1) 0 n]:=by
     rw[List.getElem?_set_ne (by omega),g2]
    refine ch be (by kernel_rfl) fun _ K=>?_;simp(disch:=omega) only[kd,aa,ab,g2,g1,g4,ah,reduceCtorEq];apply K
    refine aL fun _ K=>?_;simp only[kd,aa];apply K
    refine(qa 12 (p+1) (k+1) (gZ 12 n n (swp p k g)) (zu g (by omega) hm (by omega))).trans (aE ⟨rfl,rfl,rfl,trivial⟩ ?_);simp[wk,Ee,jY,o6,sw,hlt]
   have hpk:p=k:=by omega
   subst hpk;refine bW rfl (fun h=>by simp at h<;>omega) (fun _=>aM ?_);show ce _ _;rw[rj];refine aE ⟨rfl,rfl,rfl,trivial⟩ ?_;simp[wk]
  rw[LU,hpp]at hvk;have hkk:swp p k g k k≠0:=by
   unfold swp;by_cases h:k=p
   ·subst h;rw[if_pos rfl];exact hpk0
   rw[if_neg h,if_pos rfl];exact hpk0
  have hsz: ∀i j,i<n->j<n->Sz (swp p k g i j) b:=fun i j hi hj=>by
   unfold swp;split
   ·exact sgz k j hm hj
   split
   ·exact sgz p j (by omega) hj
   exact sgz i j hi hj
  generalize swp p k g=g' at*
  generalize(neg !=decide (k<p))=neg' at*
  refine aF (aD fun _ K=>?_);simp(disch:=omega) only[kd,aa,aP];apply K;refine aY (G:=Q7 n k) (fun q=>⟨(jk::jk::.one (.ptr 2 0 0 0)::.one (.sl 12 0 0 n)::rN n::.one (.ptr 5 0 0 0)::.raw (.bool neg')::rN k::jk::rN q.i::j16 (j16 (j16 (j16 (j16 (j16 (j16 (jk::jk::jk::[])))))))),Hm [(2,rO),(5,rA last),(12,gZ 12 n n (ea k last g' q.i (k+1)))]⟩) (fun q=>n-q.i) ⟨k+1,by omega,by omega⟩ ?_ ?_
  ·rw[FE];refine aE ⟨rfl,rfl,rfl,trivial⟩ ?_;simp[wk]
  rintro⟨i,hki,hin⟩;simp only;by_cases hi:i<n
  ·refine aF (aD fun _ K=>?_);simp(disch:=omega) only[kd,aa];apply K;refine aX rfl (aM ?_);refine aF (aK ?_);refine aD fun _ K=>?_;simp(disch:=omega) only[kd,aa,aP];apply K
   refine aY (G:=Q7 n k) (fun q=>⟨(jk::jk::.one (.ptr 2 0 0 0)::.one (.sl 12 0 0 n)::rN n::.one (.ptr 5 0 0 0)::.raw (.bool neg')::rN k::jk::rN i::rN q.i::j16 (j16 (j16 (j16 (j16 (j16 (j16 (jk::jk::[])))))))),Hm [(2,rO),(5,rA last),(12,gZ 12 n n (ea k last g' i q.i))]⟩) (fun q=>n-q.i) ⟨k+1,by omega,by omega⟩ ?_ ?_
   ·refine aE ⟨rfl,rfl,rfl,trivial⟩ ?_;simp[wk]
   rintro⟨j,hkj,hjn⟩;simp only;by_cases hj:j<n
   ·have a1:=bO (n:=n) (i:=i) 12 n hi;have a2:=bO (n:=n) (i:=k) 12 n hm;have a3:=eE n (ea k last g' i j) hi;have a4:=eE n (ea k last g' i j) hm;have a5:(bE n (ea k last g' i j k))[k]?=some (g' k k):=by rw[aU _ hm,iV _ _ (by omega)]
    have a6:(bE n (ea k last g' i j i))[j]?=some (g' i j):=by rw[aU _ hj,iV _ _ (by omega)]
    have a7:(bE n (ea k last g' i j i))[k]?=some (g' i k):=by rw[aU _ hm,iV _ _ (by omega)]
    have a8:(bE n (ea k last g' i j k))[j]?=some (g' k j):=by rw[aU _ hj,iV _ _ (by omega)]
    have z1:=hsz k k hm hm;have z2:=hsz i j hi hj;have z3:=hsz i k hi hm;have z4:=hsz k j hm hj;have c1:=mQ (g' k k) (g' i j) (z1.mono (by omega)) (z2.mono (by omega));have c2:=mQ (g' i k) (g' k j) (z3.mono (by omega)) (z4.mono (by omega));have c3:=On (g' k k*g' i j) (g' i k*g' k j) ((z1.mul z2).mono (by omega)) ((z3.mul z4).mono (by omega));have c4:=EC (g' k k*g' i j-g' i k*g' k j) last hl (((z1.mul z2).sub (z3.mul z4)).mono (by omega)) (slz.mono (by omega));refine aF (aD fun _ K=>?_);simp(disch:=omega) only[kd,aa];apply K;refine aX rfl (aM ?_);refine aF (aK ?_);refine ef be [⟨19,_,_,_,c1⟩,⟨34,_,_,_,c2⟩,⟨35,_,_,_,c3⟩,⟨37,_,_,_,c4⟩] [] (by kernel_rfl) fun _ K=>?_;simp(disch:=omega) only[kd,tZ,aa,ab,a1,a2,a4,fZ,a5,a3,a6,a7,a8,af,kx];apply K
    show bo _ _ _ _;refine aL fun _ K=>?_;simp(disch:=omega) only[kd,aa,aP];apply K
    refine⟨⟨j+1,by omega,by omega⟩,by simp only;omega,aE ⟨rfl,rfl,?_,trivial⟩ ?_⟩
    ·show _::_=_::_;rw[cL fun a b _ _=>FD last g' hki hkj a b]
    simp[wk]
   have hjn':j=n:=by omega
   subst hjn';refine aF (aD fun _ K=>?_);simp(disch:=omega) only[kd,aa];apply K;refine aR rfl (bN ?_);show bo _ _ _ _;refine aL fun _ K=>?_;simp(disch:=omega) only[kd,aa,aP];apply K
   refine⟨⟨i+1,by omega,by omega⟩,by simp only;omega,aE ⟨rfl,rfl,?_,trivial⟩ ?_⟩
   ·show _::_=_::_;rw[cL fun a b _ hb=>Kc last g' i a b hb]
   simp[wk]
  have hin':i=n:=by omega
  subst hin';have a2:=bO (n:=i) (i:=k) 12 i hm;have a4:=eE i (ea k last g' i (k+1)) hm;have a5:(bE i (ea k last g' i (k+1) k))[k]?=some (g' k k):=by rw[aU _ hm,iV _ _ (by omega)]
  refine aF (aD fun _ K=>?_);simp(disch:=omega) only[kd,aa];apply K;refine aR rfl (bN ?_);show bo _ _ _ _;refine aL fun _ K=>?_;simp(disch:=omega) only[kd,aa,ab,a2,a4,fZ,a5];apply K
  show bo _ _ _ _;refine aL fun _ K=>?_;simp(disch:=omega) only[kd,aa,aP];apply K
  refine⟨⟨k+1,Kd k last g',g' k k,neg',2*b+1,by omega,by rw[<- hvk,hv],hkk,by rw[Nat.pow_succ];omega,fun x y hx hy=>?_,(hsz k k hm hm).mono (by omega)⟩,by simp only;omega,aE ⟨rfl,rfl,?_,trivial⟩ ?_⟩
  ·unfold Kd;split
   ·exact((((hsz k k hm hm).mul (hsz x y hx hy)).sub ((hsz x k hx hm).mul (hsz k y hm hy))).ediv last).mono (by omega)
   exact(hsz x y hx hy).mono (by omega)
  ·show _::_=_::_;rw[cL fun a b ha _=>Kb last g' a b ha]
  simp[wk]
 have hkn:k=n:=by omega
 subst hkn;rw[detG,if_neg hm]at hv;have h2k:=iO (k:=k) hn;have hN:=J7 last (slz.mono (by omega));refine aF (aD fun _ K=>?_);simp(disch:=omega) only[kd,aa];apply K;refine aR rfl (bN ?_);show bo _ _ _ _;refine aF (aD fun _ K=>?_);simp only[kd];apply K;cases neg with
 |true=>
  rw[if_pos rfl]at hv;refine aX rfl ?_;refine aG [⟨1,_,_,_,hN⟩] [] fun _ K=>?_;simp(disch:=omega) only[kd,tZ,aa,ab];apply K
  rw[<- hv]
  (refine aH ⟨.inr rfl,aJ rfl ?_ rfl⟩;simp(disch:=omega) only[kd,Tryz.results22,ab,aa,tZ])
 |false=>
  rw[if_neg (by simp)]at hv;refine aR rfl (aM ?_);show bo _ _ _ _;refine aD fun _ K=>?_;simp(disch:=omega) only[kd,ab,aa];apply K
  rw[<- hv]
  (refine aH ⟨.inr rfl,aJ rfl ?_ rfl⟩;simp(disch:=omega) only[kd,Tryz.results22,ab,aa,tZ])
theorem n9 {z:Int} {k:Nat} (h:z.natAbs<4294967296) (hk:1<=k):Sz z k:=by
 have:Sz z 1:=by unfold Sz;simpa using h
 exact this.mono hk
theorem tY (k:Nat):Sz 0 k:=by unfold Sz;exact Nat.pow_pos (by omega)
theorem Qa {n p k b:Nat} {g:FF} (hp:p<n) (hk:k<n) (h: ∀i j,i<n->j<n->Sz (g i j) b): ∀i j,i<n->j<n->Sz (swp p k g i j) b:=fun i j hi hj=>by
 unfold swp;split
 ·exact h k j hk hj
 split
 ·exact h p j hp hj
 exact h i j hi hj
theorem PH {n k b:Nat} {g:FF} (last:Int) (hk:k<n) (h: ∀i j,i<n->j<n->Sz (g i j) b): ∀i j,i<n->j<n->Sz (Kd k last g i j) (2*b+1):=fun x y hx hy=>by
 unfold Kd;split
 ·exact((((h k k hk hk).mul (h x y hx hy)).sub ((h x k hx hk).mul (h k y hk hy))).ediv last).mono (by omega)
 exact(h x y hx hy).mono (by omega)
theorem E3 {n:Nat} (hn:n<=16): ∀m k g last neg b,n-k=m->k<=n->(∀i j,i<n->j<n->Sz (g i j) b)->Sz last b->b+1<=1025*2^k->Sz (detG n k g last neg) 67174400
 |0,k,g,last,neg,b,hm,hk,hg,hl,hb=>by
  have h2k:=iO (k:=k) (by omega);rw[detG,if_neg (by omega)];split
  ·exact hl.neg.mono (by omega)
  exact hl.mono (by omega)
 |m+1,k,g,last,neg,b,hm,hk,hg,hl,hb=>by
  rw[detG,if_pos (by omega)];split
  ·exact tY _
  rename_i hp;have hpl:=zF (f:=g) (n:=n) (k:=k) (n-k) k rfl;have hs:=Qa (p:=piv g n k k) (k:=k) (by omega) (by omega) hg;exact E3 hn m (k+1) _ _ _ (2*b+1) (by omega) (by omega) (PH last (by omega) hs) ((hs k k (by omega) (by omega)).mono (by omega)) (by rw[Nat.pow_succ];omega)
theorem oy {n:Nat} {f:FF} (hn:n<=16) (hf: ∀i j,i<n->j<n->Sz (f i j) 1024):Sz (detF n f) 67174400:=
 E3 hn n 0 f 1 false 1024 rfl (by omega) hf (oc (by omega)) (by omega)
theorem fV {n c:Nat} (f:FF) (h:1<=n):((bs n c f).headD []).length=c:=by
 have:=lw (M:=bs n c f) (by rw[aW];omega);rw[bC _ _ (by omega)]at this;injection this with this
 rw[<- this,bv]
theorem kw {n c:Nat} (f:FF) (hn1:1<=n) (hn:n<=16) (hc1:1<=c) (hc:c<=16):CB (bs n c f):=by
 refine⟨by rw[aW];omega,by rw[aW];omega,fun r hr=>?_⟩;obtain⟨i,hi⟩:=List.mem_iff_getElem?.1 hr;have hin:i<n:=by
  have:=(List.getElem?_eq_some_iff.1 hi).1;rwa[aW]at this
 rw[bC _ _ hin]at hi;injection hi with hi
 rw[<- hi,rOk,bv,fV f hn1];omega
theorem ED {M:List (List Int)} (h:CB M):M=bs M.length (M.headD []).length (ent M):=zo fun r hr=>(h.2.2 r hr).2.2
theorem FZ {n:Nat} (f:FF) (hn1:1<=n) (hn:n<=16):OI (bs n n f)= .tup [(false,[.p (.raw (.int .i64 (n:Int)))]),(false,[.p (.raw (.bool true))])]:=by
 have h:Q9 (bs n n f):=⟨kw f hn1 hn hn1 hn,by rw[aW,fV f hn1]⟩;unfold OI;rw[if_pos h,aW]
theorem PZ {n c:Nat} (f:FF) (hn1:1<=n) (h:n≠c):OI (bs n c f)= .tup [(false,[.p (.raw (.int .i64 0))]),(false,[.p (.raw (.bool false))])]:=by
 unfold OI;rw[if_neg];intro hs;have:=hs.2;rw[aW,fV f hn1]at this;exact h this
abbrev CF (n:Nat) (f:FF):List Int:=bE n fun k=>detF (k+1) f
def Rf (n:Nat) (f:FF):TV:= .tup [(false,[.p (.sl (ls fZ (CF n f)))]),(false,[.p (.raw (.bool true))])]
theorem KT (k:Nat) (f:FF):((List.range (k+1)).map fun i=>(List.range (k+1)).map (f i))=bs (k+1) (k+1) f:=rfl
theorem xm (n:Nat) (f:FF) (hn1:1<=n) (hn:n<=16) (hf: ∀i j,i<n->j<n->Sz (f i j) 1024):CallC Tryz.prog 103 [bJ (bs n n f)] ⟨[],Rf n f⟩:=by
 have hSq:=AC (bs n n f);rw[FZ f hn1 hn]at hSq;refine aI Tryz.func103 rfl (by kernel_rfl) ?_;rw[Tryz.ntmps103];refine aD fun _ K=>?_;simp only[kd,bJ,ae];apply K
 refine aG [⟨1,_,_,_,hSq⟩] [] fun _ K=>?_;simp only[kd,bJ,aa];apply K
 refine aF (aD fun _ K=>?_);simp only[kd];apply K;refine aR rfl (aM ?_);show bo _ _ _ _;refine aD fun _ K=>?_;simp only[kd];apply K
 refine aF (aD fun _ K=>?_);simp only[kd];apply K;refine aY (G:=j6 n) (fun g=>⟨(bJ (bs n n f)::jk::.raw (.slice none 0 0)::.raw (.bool false)::rN n::jk::.one (.sl 31 0 0 g.i)::rN g.i::j16 (j4 (j4 (jk::[])))),Hm [(31,[⟨42,2,lc fZ (CF g.i f)⟩])]⟩) (fun g=>n-g.i) ⟨0,by omega⟩ ?_ ?_
 ·refine(fz (k:=6) (d:=31) 42 2 (by omega) rfl rfl).trans (aE ⟨rfl,trivial⟩ ?_);simp[wk]
 rintro⟨k,hk⟩;simp only;by_cases hm:k<n
 ·have c1:=MG k k (by omega) (by omega);rw[<- List.range_succ]at c1;have c2:=AA n n f (List.range (k+1)) (List.range (k+1)) hn hn (fun x hx=>by have:=List.mem_range.1 hx;omega) (fun x hx=>by have:=List.mem_range.1 hx;omega) (by simp;omega) (by simp;omega);rw[KT]at c2;have c3:=iT (k+1) f (by omega) (by omega) (fun i j hi hj=>hf i j (by omega) (by omega));have e1:lc fZ (CF k f)++[[.p (.raw (.bool (decide (detF (k+1) f<0)))),.p (.sl (ls fU (aS (detF (k+1) f).natAbs)))]]=lc fZ (CF (k+1) f):=by
   rw[vq,CF,CF,oU k]
  refine aF (aD fun _ K=>?_);simp(disch:=omega) only[kd,aa,bJ];apply K;refine aX rfl (aM ?_);refine aF (aK ?_);refine qb [⟨4,_,_,_,c1⟩,⟨7,_,_,_,c1⟩,⟨8,_,_,_,c2⟩,⟨9,_,_,_,c3⟩] [] fun _ K=>?_;simp(disch:=omega) only[kd,tu,bJ,tZ,aa,af,Nat.reduceMul,ah,bv,e1];apply K
  show bo _ _ _ _;refine aL fun _ K=>?_;simp(disch:=omega) only[kd,aa,aP];apply K
  refine⟨⟨k+1,by omega⟩,by simp only;omega,aE ⟨rfl,trivial⟩ ?_⟩;simp[wk]
 have hkn:k=n:=by omega
 subst hkn;refine aF (aD fun _ K=>?_);simp(disch:=omega) only[kd,aa,bJ];apply K;refine aR rfl (bN ?_);show bo _ _ _ _;refine aD fun _ K=>?_;simp only[kd,aa];apply K
 refine aH ⟨.inr rfl,kS 31 (dc rfl) ?_ rfl⟩;have eT:List.take k (CF k f)=CF k f:=List.take_of_length_le (by rw[bv];omega);simp(disch:=omega) only[kd,Tryz.results103,eT,Rf]
structure RU (n:Nat) (f:FF) where
 i:Nat
 hi:i<=n
 ok: ∀a,a<i-> ∀b,b<a->f a b=f b a
structure RV (n i:Nat) (f:FF) where
 j:Nat
 hj:j<=i
 ok: ∀b,b<j->f i b=f b i
theorem xE (a:Int):qk a a=0:=by simp[qk]
theorem A0 {a b:Int} (h:a≠b):qk a b≠0:=by unfold qk;split<;>(try split)<;>omega
theorem m9 (n:Nat) (f:FF) (hn:n<=16) (hf: ∀i j,i<n->j<n->Sz (f i j) 1024) (r:Bool) (hr:r=true↔SymF f n):CallC Tryz.prog 79 [bJ (bs n n f)] ⟨[],.raw (.bool r)⟩:=by
 have hml:=aW n n f;refine aI Tryz.func79 rfl (by kernel_rfl) ?_;rw[Tryz.ntmps79];refine aD fun _ K=>?_;simp only[kd,bJ,ae];apply K
 refine aF (aD fun _ K=>?_);simp only[kd,aa,hml];apply K;refine aY (G:=RU n f) (fun g=>⟨(bJ (bs n n f)::jk::.raw (.bool false)::jk::jk::jk::rN n::rN g.i::j16 (j4 (j4 ([])))),Hm []⟩) (fun g=>n-g.i) ⟨0,by omega,fun a ha=>by omega⟩ ?_ ?_
 ·refine aE trivial ?_;simp[wk]
 rintro⟨i,hi,ok⟩;simp only;by_cases hm:i<n
 ·refine aD fun _ K=>?_;simp(disch:=omega) only[kd,bJ];apply K
  refine bG rfl ?_;refine aF (aK ?_);refine aD fun _ K=>?_;simp only[kd];apply K
  refine aD fun _ K=>?_;simp only[kd];apply K
  refine aY (G:=RV n i f) (fun g=>⟨(bJ (bs n n f)::jk::.raw (.bool false)::rN i::rN g.j::jk::rN n::rN i::j16 (j4 (j4 ([])))),Hm []⟩) (fun g=>i-g.j) ⟨0,by omega,fun a ha=>by omega⟩ ?_ ?_
  ·refine aE trivial ?_;simp[wk]
  rintro⟨j,hj,okj⟩;simp only;by_cases hm2:j<i
  ·have a1:=bC n f hm;have a2:=bC n f (show j<n by omega);have a3:=aU (f i) (show j<n by omega);have a4:=aU (f j) hm;have c1:=As (f i j) (f j i) ((hf i j hm (by omega)).mono (by omega)) ((hf j i (by omega) hm).mono (by omega));by_cases he:f i j=f j i
   ·rw[he,xE]at c1;rw[he]at a3;refine aF (aD fun _ K=>?_);simp(disch:=omega) only[kd,aa,bJ];apply K;refine aX rfl (aM ?_);refine aF (aK ?_);refine bu be [⟨14,_,_,_,c1⟩] [] (by kernel_rfl) fun _ K=>?_;simp(disch:=omega) only[kd,tZ,aa,a1,fR,a3,fZ,a2,a4];apply K
    refine aR rfl (aM ?_);show bo _ _ _ _;refine aL fun _ K=>?_;simp(disch:=omega) only[kd,aa,aP];apply K
    refine⟨⟨j+1,by omega,fun b hb=>?_⟩,by simp only;omega,aE trivial ?_⟩
    ·by_cases e:b=j
     ·subst e;exact he
     exact okj b (by omega)
    simp[wk]
   have hr0:r=false:=by
    cases r with
    |false=>rfl
    |true=>exact absurd (hr.1 rfl i hm j (by omega)) he
   subst hr0;have hne:=A0 he;refine aF (aD fun _ K=>?_);simp(disch:=omega) only[kd,aa,bJ];apply K;refine aX rfl (aM ?_);refine aF (aK ?_);refine bu be [⟨14,_,_,_,c1⟩] [] (by kernel_rfl) fun _ K=>?_;simp(disch:=omega) only[kd,tZ,aa,a1,fR,a3,fZ,a2,a4];apply K
   refine aX rfl ?_;refine aD fun _ K=>?_;simp only[kd];apply K
   (refine aH ⟨.inr rfl,aJ rfl ?_ rfl⟩;simp(disch:=omega) only[kd,Tryz.results79])
  refine aF (aD fun _ K=>?_);simp(disch:=omega) only[kd,aa,bJ];apply K;refine aR rfl (bN ?_);show bo _ _ _ _;refine aL fun _ K=>?_;simp(disch:=omega) only[kd,aP];apply K
  refine⟨⟨i+1,by omega,fun a ha b hb=>?_⟩,by simp only;omega,aE trivial ?_⟩
  ·by_cases e:a=i
   ·subst e;exact okj b (by omega)
   exact ok a (by omega) b hb
  simp[wk]
 have hr1:r=true:=hr.2 fun a ha b hb=>by
  rcases Nat.lt_trichotomy a b with h|h|h
  ·exact(ok b (by omega) a h).symm
  ·rw[h]
  exact ok a (by omega) b h
 subst hr1;refine aD fun _ K=>?_;simp(disch:=omega) only[kd,bJ];apply K
 refine bT rfl ?_;show bo _ _ _ _;refine aD fun _ K=>?_;simp only[kd];apply K
 (refine aH ⟨.inr rfl,aJ rfl ?_ rfl⟩;simp(disch:=omega) only[kd,Tryz.results79])
structure R4 (n:Nat) (f:FF) where
 i:Nat
 hi:i<=n
 ok: ∀a,a<i->0<detF (a+1) f
theorem D7 {z:Int} (h:0<z):sg z=1:=by unfold sg;rw[if_neg (by omega),if_neg (by omega)]
theorem FU {z:Int} (h: ¬0<z):sg z<=0:=by unfold sg;split<;>(try split)<;>omega
theorem uf (n:Nat) (f:FF) (hn1:1<=n) (hn:n<=16) (hf: ∀i j,i<n->j<n->Sz (f i j) 1024) (hs:SymF f n) (r:Bool) (hr:r=true↔th f n):CallC Tryz.prog 80 [bJ (bs n n f)] ⟨[],.raw (.bool r)⟩:=by
 have hL:=xm n f hn1 hn hf;have hS:=m9 n f hn hf true (by simp[hs]);refine aI Tryz.func80 rfl (by kernel_rfl) ?_;rw[Tryz.ntmps80];refine aD fun _ K=>?_;simp only[kd,bJ,ae];apply K
 refine aG [⟨1,_,_,_,hL⟩] [] fun _ K=>?_;simp only[kd,bJ,Rf,aa];apply K
 refine aF (aG [⟨4,_,_,_,hS⟩] [] fun _ K=>?_);simp(disch:=omega) only[kd,bJ,aa];apply K;refine aR rfl (aM ?_);show bo _ _ _ _;refine aF (aD fun _ K=>?_);simp only[kd,aa,bv];apply K;refine aY (G:=R4 n f) (fun g=>⟨(jk::jk::.raw (.bool false)::j16 (.one (.p (.sl (ls fZ (CF n f))))::rN n::rN g.i::j4 (jk::jk::jk::[]))),Hm []⟩) (fun g=>n-g.i) ⟨0,by omega,fun a ha=>by omega⟩ ?_ ?_
 ·refine aE trivial ?_;simp[wk]
 rintro⟨i,hi,ok⟩;simp only;by_cases hm:i<n
 ·have a1:(CF n f)[i]?=some (detF (i+1) f):=aU _ hm;have hz:=oy (n:=i+1) (f:=f) (by omega) (fun a b ha hb=>hf a b (by omega) (by omega));have c1:=nX (detF (i+1) f) (hz.mono (by omega));refine aD fun _ K=>?_;simp(disch:=omega) only[kd];apply K
  refine bG rfl ?_;refine aF (aK ?_);refine aD fun _ K=>?_;simp(disch:=omega) only[kd,aa,a1,fZ];apply K
  by_cases hp:0<detF (i+1) f
  ·rw[D7 hp]at c1;refine aG [⟨1,_,_,_,c1⟩] [] fun _ K=>?_;simp(disch:=omega) only[kd,tZ,aa,Int.reduceLE];apply K
   refine aR rfl (aM ?_);show bo _ _ _ _;refine aL fun _ K=>?_;simp(disch:=omega) only[kd,aP];apply K
   refine⟨⟨i+1,by omega,fun a ha=>?_⟩,by simp only;omega,aE trivial ?_⟩
   ·by_cases e:a=i
    ·subst e;exact hp
    exact ok a (by omega)
   simp[wk]
  have hr0:r=false:=by
   cases r with
   |false=>rfl
   |true=>exact absurd (hr.1 rfl i hm) hp
  subst hr0;have hle:=FU hp;refine aG [⟨1,_,_,_,c1⟩] [] fun _ K=>?_;simp(disch:=omega) only[kd,tZ,aa];apply K
  refine aX rfl ?_;refine aD fun _ K=>?_;simp only[kd];apply K
  (refine aH ⟨.inr rfl,aJ rfl ?_ rfl⟩;simp(disch:=omega) only[kd,Tryz.results80])
 have hr1:r=true:=hr.2 fun a ha=>ok a (by omega)
 subst hr1;refine aD fun _ K=>?_;simp(disch:=omega) only[kd];apply K
 refine bT rfl ?_;show bo _ _ _ _;refine aD fun _ K=>?_;simp only[kd];apply K
 (refine aH ⟨.inr rfl,aJ rfl ?_ rfl⟩;simp(disch:=omega) only[kd,Tryz.results80])
theorem yQ (a b:Int):decide (qk a b<=0)=decide (a<=b):=by
 unfold qk;split
 ·simp;omega
 split
 ·simp;omega
 simp;omega
theorem Ms (a b:Int):decide (0<=qk a b)=decide (b<=a):=by
 unfold qk;split
 ·simp;omega
 split
 ·simp;omega
 simp;omega
theorem K7 (n:Nat) (f:FF) (hn1:1<=n) (hn:n<=16) (hf: ∀i j,i<n->j<n->Sz (f i j) 1024):CallC Tryz.prog 62 [bJ (bs n n f)] ⟨[],.raw (.bool (decide (detF n f<=10000)))⟩:=by
 have hD:=iT n f hn1 hn hf;have hS:=gQ 10000 (by omega) (by omega);have hC:=As (detF n f) 10000 ((oy hn hf).mono (by omega)) (n9 (by decide) (by omega));have hle:=yQ (detF n f) 10000;refine aI Tryz.func62 rfl (by kernel_rfl) ?_;rw[Tryz.ntmps62];refine aD fun _ K=>?_;simp only[kd,bJ,ae];apply K
 refine aG [⟨1,_,_,_,hD⟩,⟨2,_,_,_,hS⟩,⟨3,_,_,_,hC⟩] [] fun _ K=>?_;simp(disch:=omega) only[kd,bJ,tZ,aa,af,hle];apply K
 (refine aH ⟨.inr rfl,aJ rfl ?_ rfl⟩;simp(disch:=omega) only[kd,Tryz.results62])
theorem uo (n c:Nat) (f:FF) (hn1:1<=n) (hn:n<=16) (hc1:1<=c) (hc:c<=16) (hf: ∀i j,i<n->j<c->Sz (f i j) 1024):
  ∃e:Int,(e=0↔(n=c/\n<=8/\SymF f n/\th f n))/\CallC Tryz.prog 38 [bJ (bs n c f)] ⟨[],.raw (.int .i64 e)⟩:=by
 have hSq:=AC (bs n c f);by_cases h1:n=c
 ·subst h1;rw[FZ f hn1 hn]at hSq;by_cases h2:8<n
  ·refine⟨3,by omega,?_⟩;refine aI Tryz.func38 rfl (by kernel_rfl) ?_;rw[Tryz.ntmps38];refine aD fun _ K=>?_;simp only[kd,bJ,ae];apply K
   refine aG [⟨1,_,_,_,hSq⟩] [] fun _ K=>?_;simp only[kd,bJ,aa];apply K
   refine aF (aK ?_);refine aD fun _ K=>?_;simp(disch:=omega) only[kd,aa];apply K
   refine aX rfl ?_;refine aD fun _ K=>?_;simp only[kd];apply K
   (refine aH ⟨.inr rfl,aJ rfl ?_ rfl⟩;simp(disch:=omega) only[kd,Tryz.results38])
  by_cases h3:SymF f n
  ·have hS:=m9 n f hn hf true (by simp[h3]);by_cases h4:th f n
   ·have hD:=uf n f hn1 hn hf h3 true (by simp[h4]);refine⟨0,by simp[h3,h4];omega,?_⟩;refine aI Tryz.func38 rfl (by kernel_rfl) ?_;rw[Tryz.ntmps38];refine aD fun _ K=>?_;simp only[kd,bJ,ae];apply K
    refine aG [⟨1,_,_,_,hSq⟩] [] fun _ K=>?_;simp only[kd,bJ,aa];apply K
    refine aF (aK ?_);refine aD fun _ K=>?_;simp(disch:=omega) only[kd,aa];apply K
    refine aR rfl ?_;refine aG [⟨1,_,_,_,hS⟩] [] fun _ K=>?_;simp only[kd,bJ,aa];apply K
    refine aR rfl ?_;refine aG [⟨1,_,_,_,hD⟩] [] fun _ K=>?_;simp only[kd,bJ,aa];apply K
    refine aR rfl (aM ?_);show bo _ _ _ _;refine aD fun _ K=>?_;simp only[kd];apply K
    (refine aH ⟨.inr rfl,aJ rfl ?_ rfl⟩;simp(disch:=omega) only[kd,Tryz.results38])
   have hD:=uf n f hn1 hn hf h3 false (by simp[h4]);refine⟨5,by simp[h4],?_⟩;refine aI Tryz.func38 rfl (by kernel_rfl) ?_;rw[Tryz.ntmps38];refine aD fun _ K=>?_;simp only[kd,bJ,ae];apply K
   refine aG [⟨1,_,_,_,hSq⟩] [] fun _ K=>?_;simp only[kd,bJ,aa];apply K
   refine aF (aK ?_);refine aD fun _ K=>?_;simp(disch:=omega) only[kd,aa];apply K
   refine aR rfl ?_;refine aG [⟨1,_,_,_,hS⟩] [] fun _ K=>?_;simp only[kd,bJ,aa];apply K
   refine aR rfl ?_;refine aG [⟨1,_,_,_,hD⟩] [] fun _ K=>?_;simp only[kd,bJ,aa];apply K
   refine aX rfl ?_;refine aD fun _ K=>?_;simp only[kd];apply K
   (refine aH ⟨.inr rfl,aJ rfl ?_ rfl⟩;simp(disch:=omega) only[kd,Tryz.results38])
  have hS:=m9 n f hn hf false (by simp[h3]);refine⟨4,by simp[h3],?_⟩;refine aI Tryz.func38 rfl (by kernel_rfl) ?_;rw[Tryz.ntmps38];refine aD fun _ K=>?_;simp only[kd,bJ,ae];apply K
  refine aG [⟨1,_,_,_,hSq⟩] [] fun _ K=>?_;simp only[kd,bJ,aa];apply K
  refine aF (aK ?_);refine aD fun _ K=>?_;simp(disch:=omega) only[kd,aa];apply K
  refine aR rfl ?_;refine aG [⟨1,_,_,_,hS⟩] [] fun _ K=>?_;simp only[kd,bJ,aa];apply K
  refine aX rfl ?_;refine aD fun _ K=>?_;simp only[kd];apply K
  (refine aH ⟨.inr rfl,aJ rfl ?_ rfl⟩;simp(disch:=omega) only[kd,Tryz.results38])
 rw[PZ f hn1 h1]at hSq;refine⟨3,by simp[h1],?_⟩;refine aI Tryz.func38 rfl (by kernel_rfl) ?_;rw[Tryz.ntmps38];refine aD fun _ K=>?_;simp only[kd,bJ,ae];apply K
 refine aG [⟨1,_,_,_,hSq⟩] [] fun _ K=>?_;simp only[kd,bJ,aa];apply K
 refine aF (aK ?_);refine aD fun _ K=>?_;simp(disch:=omega) only[kd,aa,reduceCtorEq];apply K
 refine aX rfl ?_;refine aD fun _ K=>?_;simp only[kd];apply K
 (refine aH ⟨.inr rfl,aJ rfl ?_ rfl⟩;simp(disch:=omega) only[kd,Tryz.results38])
abbrev p7 (l:List Int):TV:= .one (.p (.sl (ls fZ l)))
theorem NC (i j:Nat) (f:FF):((List.range j++[i]).map fun r=>(List.range (j+1)).map (f r))=bs (j+1) (j+1) (mW f i j):=by
 rw[bs,List.range_succ,List.map_append,List.map_append]
 congr 1
 ·refine List.map_congr_left fun r hr=>?_
  have:=List.mem_range.1 hr;rw[<- List.range_succ];exact fc (m:=j+1) fun c _=>by unfold mW;rw[if_pos this]
 simp only[List.map_cons,List.map_nil];rw[<- List.range_succ]
 congr 1
 exact fc (m:=j+1) fun c _=>by unfold mW;rw[if_neg (by omega)]
theorem Fq {n i j:Nat} {f:FF} (hi:i<n) (hj:j<n) (hf: ∀i j,i<n->j<n->Sz (f i j) 1024): ∀r c,r<j+1->c<j+1->Sz (mW f i j r c) 1024:=fun r c hr hc=>by
 unfold mW;split
 ·exact hf r c (by omega) (by omega)
 exact hf i c hi (by omega)
theorem DE {n i j:Nat} {f:FF} (hn:n<=16) (hi:i<n) (hj:j<n) (hf: ∀i j,i<n->j<n->Sz (f i j) 1024):Sz (lam f i j) 67174400:=
 oy (by omega) (Fq hi hj hf)
theorem A3 {n k:Nat} {f:FF} (hn:n<=16) (hk:k<=n) (hf: ∀i j,i<n->j<n->Sz (f i j) 1024):Sz (dd f k) 67174400:=by
 unfold dd;split
 ·exact oc (by omega)
 exact oy (by omega) fun i j hi hj=>hf i j (by omega) (by omega)
theorem uh (n:Nat) (f:FF) (i j:Nat) (hn:n<=16) (hi:i<n) (hj:j<n) (hf: ∀i j,i<n->j<n->Sz (f i j) 1024):
  CallC Tryz.prog 107 [bJ (bs n n f),.raw (.int .i64 (i:Int)),.raw (.int .i64 (j:Int))] ⟨[],tZ (lam f i j)⟩:=by
 have c2:=AA n n f (List.range j++[i]) (List.range (j+1)) hn hn (fun x hx=>by
  rcases List.mem_append.1 hx with h|h
  ·have:=List.mem_range.1 h;omega
  have:x=i:=by simpa using h
  omega) (fun x hx=>by have:=List.mem_range.1 hx;omega) (by simp;omega) (by simp;omega)
 rw[NC]at c2;have c3:=iT (j+1) (mW f i j) (by omega) (by omega) (Fq hi hj hf);refine aI Tryz.func107 rfl (by kernel_rfl) ?_;rw[Tryz.ntmps107];refine aD fun _ K=>?_;simp(disch:=omega) only[kd,bJ,aa,ae];apply K
 refine aD fun _ K=>?_;simp only[kd];apply K
 refine aF (aD fun _ K=>?_);simp only[kd];apply K;refine aY (G:=j6 j) (fun g=>⟨(bJ (bs n n f)::rN i::rN j::jk::jk::jk::.one (.ptr 6 0 0 0)::.one (.sl 18 0 0 g.i)::.one (.sl 22 0 0 g.i)::rN g.i::j16 (j4 (j4 ([])))),Hm [(6,rO),(18,[⟨3,1,lc fN (List.range g.i)⟩]),(22,[⟨3,1,lc fN (List.range g.i)⟩])]⟩) (fun g=>j-g.i) ⟨0,by omega⟩ ?_ ?_
 ·refine(fz (k:=7) (d:=18) 3 1 (by omega) rfl rfl).trans ((fz (k:=8) (d:=22) 3 1 (by omega) rfl rfl).trans (aE ⟨rfl,rfl,rfl,trivial⟩ ?_));simp[wk]
 rintro⟨k,hk⟩;simp only;by_cases hm:k<j
 ·refine aF (aD fun _ K=>?_);simp(disch:=omega) only[kd,aa,bJ];apply K;refine aX rfl (aM ?_);refine aF (aK ?_);refine aD fun _ K=>?_;simp(disch:=omega) only[kd,aa,Nat.reduceMul,ah,ab,List.length_range,nG,af];apply K
  refine aL fun _ K=>?_;simp(disch:=omega) only[kd,aa,Nat.reduceMul,ah,ab,List.length_range,nG,af];apply K
  show bo _ _ _ _;refine aL fun _ K=>?_;simp(disch:=omega) only[kd,aa,aP];apply K
  refine⟨⟨k+1,by omega⟩,by simp only;omega,aE ⟨rfl,?_,?_,trivial⟩ ?_⟩
  ·rw[List.range_succ];rfl
  ·rw[List.range_succ];rfl
  simp[wk]
 have hkj:k=j:=by omega
 subst hkj;refine aF (aD fun _ K=>?_);simp(disch:=omega) only[kd,aa,bJ];apply K;refine aR rfl (bN ?_);show bo _ _ _ _;refine Gn 9 [⟨9,_,_,_,c2⟩,⟨10,_,_,_,c3⟩] [] (by simp) (by decide) fun _ K=>?_;simp(disch:=omega) only[kd,bJ,tu,tZ,aa,Nat.reduceMul,ah,ab,List.length_range,nG,af];apply K
 refine⟨⟨(j4 (jk::jk::.one (.ptr 6 0 0 0)::j16 (bJ (bs n n f)::jk::jk::jk::tu (List.range k++[i])::jk::jk::jk::tu (List.range (k+1))::jk::jk::[]))),Hm [(6,rO)]⟩,(bZ 18 (dc rfl)).trans ((bZ 22 (dc rfl)).trans (aE ⟨rfl,trivial⟩ ?_)),by simp[wk],?_⟩
 ·simp[wk,ij,fH,bi,Hm,gN,im,List.range_succ,List.take_of_length_le]
 intro _ K;simp(disch:=omega) only[kd,bJ,tu,tZ,aa,af];apply K;rw[<- lam]
 (refine aH ⟨.inr rfl,aJ rfl ?_ rfl⟩;simp(disch:=omega) only[kd,Tryz.results107,aa,tZ])
theorem qA (n:Nat) (f:FF) (k:Nat) (hn:n<=16) (hk:k<=n):
  CallC Tryz.prog 108 [p7 (CF n f),.raw (.int .i64 (k:Int))] ⟨[],tZ (dd f k)⟩:=by
 have c1:=gQ 1 (by omega) (by omega);by_cases h0:k=0
 ·subst h0;rw[show dd f 0=1 from rfl];refine aI Tryz.func108 rfl (by kernel_rfl) ?_;rw[Tryz.ntmps108];refine aD fun _ K=>?_;simp(disch:=omega) only[kd,p7,aa,ae];apply K
  refine aF (aD fun _ K=>?_);simp(disch:=omega) only[kd];apply K;refine aX rfl ?_;refine aG [⟨0,_,_,_,c1⟩] [] fun _ K=>?_;simp(disch:=omega) only[kd,tZ,aa];apply K
  (refine aH ⟨.inr rfl,aJ rfl ?_ rfl⟩;simp(disch:=omega) only[kd,Tryz.results108,aa,tZ])
 rw[show dd f k=detF k f from if_neg h0];have e1:((k:Int)-1).toNat=k-1:=by omega
 have a1:(CF n f)[k-1]?=some (detF k f):=by rw[aU _ (by omega),show k-1+1=k by omega]
 refine aI Tryz.func108 rfl (by kernel_rfl) ?_;rw[Tryz.ntmps108];refine aD fun _ K=>?_;simp(disch:=omega) only[kd,p7,aa,ae];apply K
 refine aF (aD fun _ K=>?_);simp(disch:=omega) only[kd];apply K;refine aR rfl (aM ?_);show bo _ _ _ _;refine aD fun _ K=>?_;simp(disch:=omega) only[kd,aa,aP,e1,a1,fZ];apply K
 (refine aH ⟨.inr rfl,aJ rfl ?_ rfl⟩;simp(disch:=omega) only[kd,Tryz.results108,aa,tZ])
theorem L9 (n:Nat) (f:FF) (i j:Nat) (hn:n<=16) (hi:i<n) (hj:j<n) (hf: ∀i j,i<n->j<n->Sz (f i j) 1024):
  CallC Tryz.prog 104 [bJ (bs n n f),p7 (CF n f),.raw (.int .i64 (i:Int)),.raw (.int .i64 (j:Int))] ⟨[],.raw (.bool (decide (2*((lam f i j).natAbs:Int)<=dd f (j+1))))⟩:=by
 have hl:=DE hn hi hj hf;have hd:=A3 (k:=j+1) hn (by omega) hf;have hla:Sz ((lam f i j).natAbs:Int) 67174400:=hl.le (by omega);have hm:Sz (2*((lam f i j).natAbs:Int)) (1+67174400):=Sz.mul (n9 (by decide) (by omega)) hla;have c1:=gQ 2 (by omega) (by omega);have c2:=uh n f i j hn hi hj hf;have c3:=IX (lam f i j) (hl.mono (by omega));have c4:=mQ 2 ((lam f i j).natAbs:Int) (n9 (by decide) (by omega)) (hla.mono (by omega));have c5:=qA n f (j+1) hn (by omega);rw[show((j+1:Nat):Int)=(j:Int)+1 by omega]at c5;have c6:=As (2*((lam f i j).natAbs:Int)) (dd f (j+1)) (hm.mono (by omega)) (hd.mono (by omega));have hle:=yQ (2*((lam f i j).natAbs:Int)) (dd f (j+1));generalize lam f i j=l at*
 generalize dd f (j+1)=d at*
 refine aI Tryz.func104 rfl (by kernel_rfl) ?_;rw[Tryz.ntmps104];refine aD fun _ K=>?_;simp only[kd,bJ,p7,aa,ae];apply K
 refine aG [⟨0,_,_,_,c1⟩,⟨4,_,_,_,c2⟩,⟨5,_,_,_,c3⟩,⟨6,_,_,_,c4⟩,⟨10,_,_,_,c5⟩,⟨11,_,_,_,c6⟩] [] fun _ K=>?_;simp(disch:=omega) only[kd,tZ,bJ,p7,aa,af,aP,hle];apply K
 (refine aH ⟨.inr rfl,aJ rfl ?_ rfl⟩;simp(disch:=omega) only[kd,Tryz.results104])
theorem IE (n:Nat) (f:FF) (i:Nat) (hn:n<=16) (hi:i<n) (h0:0<i) (hf: ∀i j,i<n->j<n->Sz (f i j) 1024):
  CallC Tryz.prog 109 [bJ (bs n n f),p7 (CF n f),.raw (.int .i64 (i:Int))] ⟨[],.raw (.bool (decide (3*(dd f i*dd f i)<=4*(dd f (i-1)*dd f (i+1)+lam f i (i-1)*lam f i (i-1)))))⟩:=by
 have hl:=DE (j:=i-1) hn hi (by omega) hf;have d0:=A3 (k:=i-1) hn (by omega) hf;have d1:=A3 (k:=i) hn (by omega) hf;have d2:=A3 (k:=i+1) hn (by omega) hf;have c0:=uh n f i (i-1) hn hi (by omega) hf;have c1:=qA n f (i-1) hn (by omega);have c2:=qA n f (i+1) hn (by omega);have c3:=qA n f i hn (by omega);rw[show((i+1:Nat):Int)=(i:Int)+1 by omega]at c2;rw[show((i-1:Nat):Int)=(i:Int)-1 by omega]at c0 c1;have s4:=gQ 4 (by omega) (by omega);have s3:=gQ 3 (by omega) (by omega);generalize lam f i (i-1)=l at*
 generalize dd f (i-1)=a at*
 generalize dd f (i+1)=b at*
 generalize dd f i=d at*
 have z1:Sz (a*b) 134348800:=(d0.mul d2).mono (by omega);have z2:Sz (l*l) 134348800:=(hl.mul hl).mono (by omega);have z3:Sz (a*b+l*l) 134348801:=z1.add z2;have z4:Sz (4*(a*b+l*l)) 134348802:=(Sz.mul (n9 (k:=1) (by decide) (by omega)) z3).mono (by omega);have z5:Sz (d*d) 134348800:=(d1.mul d1).mono (by omega);have z6:Sz (3*(d*d)) 134348802:=(Sz.mul (n9 (k:=1) (by decide) (by omega)) z5).mono (by omega);have m1:=mQ a b (d0.mono (by omega)) (d2.mono (by omega));have m2:=mQ l l (hl.mono (by omega)) (hl.mono (by omega));have m3:=xk (a*b) (l*l) (z1.mono (by omega)) (z2.mono (by omega));have m4:=mQ 4 (a*b+l*l) (n9 (by decide) (by omega)) (z3.mono (by omega));have m5:=mQ d d (d1.mono (by omega)) (d1.mono (by omega));have m6:=mQ 3 (d*d) (n9 (by decide) (by omega)) (z5.mono (by omega));have m7:=As (4*(a*b+l*l)) (3*(d*d)) (z4.mono (by omega)) (z6.mono (by omega));have hge:=Ms (4*(a*b+l*l)) (3*(d*d));refine aI Tryz.func109 rfl (by kernel_rfl) ?_;rw[Tryz.ntmps109];refine aD fun _ K=>?_;simp only[kd,bJ,p7,aa,ae];apply K
 refine aG [⟨4,_,_,_,c0⟩] [] fun _ K=>?_;simp(disch:=omega) only[kd,bJ,tZ,aa,aP];apply K
 refine bu be [⟨0,_,_,_,s4⟩,⟨4,_,_,_,c1⟩,⟨8,_,_,_,c2⟩,⟨9,_,_,_,m1⟩,⟨12,_,_,_,m2⟩,⟨13,_,_,_,m3⟩,⟨14,_,_,_,m4⟩] [] (by kernel_rfl) fun _ K=>?_;simp(disch:=omega) only[kd,tZ,p7,aa,aP,af,ab];apply K
 refine bu be [⟨1,_,_,_,s3⟩,⟨4,_,_,_,c3⟩,⟨7,_,_,_,c3⟩,⟨8,_,_,_,m5⟩,⟨9,_,_,_,m6⟩,⟨10,_,_,_,m7⟩] [] (by kernel_rfl) fun _ K=>?_;simp(disch:=omega) only[kd,tZ,p7,aa,ab,af,hge];apply K
 (refine aH ⟨.inr rfl,aJ rfl ?_ rfl⟩;simp(disch:=omega) only[kd,Tryz.results109])
def EB (z:Int):Prop:= -9223372036854775808<=z/\z<=9223372036854775807
theorem EB.sz {z:Int} (h:EB z) {k:Nat} (hk:2<=k):Sz z k:=by
 have:Sz z 2:=by
  unfold Sz;have:=h.1;have:=h.2;rw[show(4294967296:Nat)^2=18446744073709551616 by decide];omega
 exact this.mono hk
def MI (M:List (List Int)):Prop:= ∀r∈M,∀z∈r,EB z
theorem MI.ent {M:List (List Int)} (h:MI M) (i j:Nat):EB (ent M i j):=by
 simp only[Go.Proofs.YtfgeomlagfomgaaGreatDoor.ent,List.getD_eq_getElem?_getD];cases hr:M[i]? with
 |none=>simp[EB]
 |some r=>
  simp only[Option.getD_some];cases hz:r[j]? with
  |none=>simp[EB]
  |some z=>exact h r (au hr) z (au hz)
theorem P3 {n c:Nat} {f:FF} (hn:1<=n):Sq (bs n c f)↔n=c:=by
 unfold Sq;rw[aW];have e: ∀i,i<n->((bs n c f).getD i []).length=c:=fun i hi=>by
  rw[List.getD_eq_getElem?_getD,bC _ _ hi,Option.getD_some,bv]
 exact⟨fun h=>by rw[<- e 0 (by omega),h 0 (by omega)],fun h i hi=>by rw[e i hi,h]⟩
theorem um {f g:FF} {n:Nat} (h: ∀i j,i<n->j<n->f i j=g i j) (hf:RedR f n):RedR g n:=by
 obtain⟨h1,h2,h3,h4⟩:=hf;have ed: ∀k,k<=n->dk g k=dk f k:=fun k hk=>ew fun i j hi hj=>(h i j (by omega) (by omega)).symm
 have eb: ∀t i,t<n->i<n->bk g t i t=bk f t i t:=fun t i ht hi=>by
  have e1:dk (mW g i t) (t+1)=bk g t i t:=De (fun r c hr hc=>by unfold mW;rw[if_pos hr]) (fun c hc=>by unfold mW;rw[if_neg (by omega)]);have e2:dk (mW f i t) (t+1)=bk f t i t:=De (fun r c hr hc=>by unfold mW;rw[if_pos hr]) (fun c hc=>by unfold mW;rw[if_neg (by omega)]);rw[<- e1,<- e2];refine ew fun r c hr hc=>?_
  unfold mW;split
  ·exact(h r c (by omega) (by omega)).symm
  exact(h i c hi (by omega)).symm
 refine⟨fun i hi j hj=>by rw[<- h i j hi hj,<- h j i hj hi];exact h1 i hi j hj,fun k hk=>by rw[ed (k+1) (by omega)];exact h2 k hk,by rw[ed n (by omega)];exact h3,fun t ht=>⟨fun i hi hti=>?_,?_⟩⟩
 ·have:=(h4 t ht).1 i hi hti;rw[ed (t+1) (by omega),eb t i (by omega) hi];exact this
 have:=(h4 t ht).2;unfold L4 at*
 rw[ed (t+1) (by omega),ed t (by omega),ed (t+1+1) (by omega),eb t (t+1) (by omega) (by omega)];exact this
theorem Az {n c:Nat} {f:FF} (hn1:1<=n):OZ (bs n c f)↔n=c/\n<=8/\RedR f n:=by
 unfold OZ;rw[aW,P3 hn1];constructor
 ·rintro⟨_,h8,rfl,hr⟩;exact⟨rfl,h8,um (fun i j hi hj=>oB f hi hj) hr⟩
 rintro⟨rfl,h8,hr⟩;exact⟨hn1,h8,rfl,um (fun i j hi hj=>(oB f hi hj).symm) hr⟩
abbrev jW (l:List Int):TV:= .one (.p (.sl (ls fI l)))
theorem yG {x y:List Int} {b c:Nat} (hx: ∀i,Sz (x.getD i 0) b) (hy: ∀i,Sz (y.getD i 0) c): ∀l,Sz (fk x y l) (b+c+l)
 |0=>tY _
 |l+1=>by
  show Sz (fk x y l+x.getD l 0*y.getD l 0) _;exact(yG hx hy l).add (((hx l).mul (hy l)).mono (by omega))
theorem tI {x:List Int} {b:Nat} (h: ∀z∈x,Sz z b) (i:Nat):Sz (x.getD i 0) b:=by
 rw[List.getD_eq_getElem?_getD];cases hx:x[i]? with
 |none=>exact tY _
 |some z=>exact h z (au hx)
theorem Qu (x y:List Int) (hx:x.length<=16) (hxy:x.length<=y.length) (sx: ∀z∈x,Sz z 16777216) (sy: ∀z∈y,Sz z 67108864):CallC Tryz.prog 138 [p7 x,p7 y] ⟨[],tZ (fk x y x.length)⟩:=by
 refine aI Tryz.func138 rfl (by kernel_rfl) ?_;rw[Tryz.ntmps138];refine aD fun _ K=>?_;simp(disch:=omega) only[kd,p7,aa,ae];apply K
 refine aD fun _ K=>?_;simp(disch:=omega) only[kd,aa,ab];apply K
 refine aF (aD fun _ K=>?_);simp only[kd,aa];apply K;refine aY (G:=Ru x.length) (fun g=>⟨(p7 x::p7 y::jk::jk::.one (.ptr 4 0 0 0)::.one (.ptr 5 0 0 0)::jk::jk::jk::rN x.length::rN g.i::j4 (j4 (j4 (jk::jk::jk::[])))),Hm [(4,rO),(5,rA (fk x y g.i))]⟩) (fun g=>x.length-g.i) ⟨0,by omega⟩ ?_ ?_
 ·refine(fo 5).trans (aE ⟨rfl,?_,trivial⟩ ?_)
  ·show _=rA 0;simp[zH,bi,zO,Ar,CA,rA,Ao,cH,ls]
  simp[wk]
 rintro⟨i,hi⟩;simp only;have hs:=yG (tI sx) (tI sy) i;by_cases hm:i<x.length
 ·obtain⟨a,ha⟩:=getElem?_of_lt hm;obtain⟨b,hb⟩:=getElem?_of_lt (l:=y) (k:=i) (by omega);have za:=sx a (au ha);have zb:=sy b (au hb);have c1:=mQ a b (za.mono (by omega)) (zb.mono (by omega));have c2:=xk (fk x y i) (a*b) (hs.mono (by omega)) ((za.mul zb).mono (by omega));have e1:fk x y i+a*b=fk x y (i+1):=by
   show _=fk x y i+x.getD i 0*y.getD i 0;rw[List.getD_eq_getElem?_getD,List.getD_eq_getElem?_getD,ha,hb];rfl
  rw[e1]at c2;refine aD fun _ K=>?_;simp(disch:=omega) only[kd,p7];apply K
  refine bG rfl ?_;refine aF (aK ?_);refine aD fun _ K=>?_;simp only[kd];apply K
  refine ef be [⟨9,_,_,_,c1⟩,⟨10,_,_,_,c2⟩] [] (by kernel_rfl) fun _ K=>?_;simp(disch:=omega) only[kd,tZ,aa,ab,ha,fZ,hb,af];apply K
  show bo _ _ _ _;refine aL fun _ K=>?_;simp(disch:=omega) only[kd,aP];apply K
  refine⟨⟨i+1,by omega⟩,by simp only;omega,aE ⟨rfl,rfl,trivial⟩ ?_⟩;simp[wk]
 have hin:i=x.length:=by omega
 subst hin;refine aD fun _ K=>?_;simp(disch:=omega) only[kd,p7];apply K
 refine bT rfl ?_;show bo _ _ _ _;refine aD fun _ K=>?_;simp(disch:=omega) only[kd,ab,aa];apply K
 (refine aH ⟨.inr rfl,aJ rfl ?_ rfl⟩;simp(disch:=omega) only[kd,Tryz.results138,ab,aa,tZ])
abbrev RC (n c:Nat) (f:FF) (y:List Int):List Int:=bE n fun i=>fk (bE c (f i)) y c
abbrev Ij (v:Int) (b:Bool):TV:= .tup [(false,[.p (.raw (.int .i64 v))]),(false,[.p (.raw (.bool b))])]
def Qn (z:Int):TV:=if -4611686018427387904<=z/\z<=4611686018427387904 then Ij z true else Ij 0 false
def GZ (M:List (List Int)) (x y:List Int):TV:=if kX M x=true/\FitB M.length y=true then Qn (fk x (dM M y) x.length)else Ij 0 false
theorem C0 {n:Nat} {f:FF} {y:List Int} (hr:b6 (bs n n f)=true) (hy:Iw y=true):dM (bs n n f) y=RC n n f y:=by
 have hs:=gf hr;have h8:=hs.2.1;rw[aW]at h8;apply List.ext_getElem?;intro i;rw[dM,ay];by_cases hi:i<n
 ·rw[bC _ _ hi,aU _ hi];simp only[Option.map_some,bv];exact congrArg some (pm (hs.row_bd (bC _ _ hi)) (fun i z hz=>lT hy hz) n h8).1
 rw[aq (by rw[aW];omega),aq (by rw[bv];omega)];rfl
theorem vm (M:List (List Int)) (x y:List Int): ∃v b,GZ M x y=Ij v b/\jo M x y= .tuple #[.int .i64 v,.bool b]:=by
 unfold GZ jo;split
 ·unfold Qn uX;split
  ·exact⟨_,_,rfl,rfl⟩
  exact⟨_,_,rfl,rfl⟩
 exact⟨_,_,rfl,rfl⟩
end Go.Proofs.YtfgeomlagfomgaaGreatDoor
