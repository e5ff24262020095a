/-
  Part 14 of a proof (walks and plain facts).
-/
import Derived.Test.YtiollbhgpiiodaaGreatDoorQ12
set_option linter.all false
set_option maxRecDepth 100000
set_option maxHeartbeats 64000000
open Nat renaming reduceAdd → aa
open Nat renaming reduceEqDiff → ab
open List renaming replicate → ae
open List renaming getElem?_eq_none → ar
open List renaming mem_of_getElem? → aw
open List renaming length_replicate → ay
open List renaming getElem?_map → az
namespace Go.Proofs.YtiollbhgpiiodaaGreatDoor
open Go.RowKit
abbrev pX:List AV:=[.raw (.slice none 0 0)]
theorem oP {α:Type} {A:List α} {x:α} {l:List α} {i:Nat} (h:A.length=i):(A++x::l)[i]?=some x:=by
 rw[List.getElem?_append_right (by omega),h,Nat.sub_self];rfl
theorem oQ {α:Type} {A:List α} {x y:α} {l:List α} {i:Nat} (h:A.length=i):(A++x::l).set i y=A++y::l:=by
 rw[List.set_append_right _ _ (by omega),h,Nat.sub_self];rfl
theorem Na (k:Nat->Nat->Bool) (R:List (List Int)):(R.map n7).map (iz k)=R.map n7:=by
 rw[List.map_map];exact List.map_congr_left fun r _=>by simp[iz,n7,zQ]
theorem C3 (d i c:Nat):(gL d (ae i c)).map (List.map (bs fun x y=>x==d&&y==i+1))=gL d (ae i c):=by
 apply List.ext_getElem?;intro k;rw[az];by_cases h:k<i
 ·rw[bJ d c h];have:k≠i:=by omega
  simp[bs,this]
 rw[ar (by rw[cf,ay];omega)];rfl
def O9 (d n c:Nat) (f:FF) (i:Nat):List OObj:=⟨61,1,gL d (ae i c)++ae (n-i) pX⟩::(bi i c f).map n7
def Ud (d n c:Nat) (f:FF) (i j:Nat):List OObj:=⟨61,1,gL d (ae i c)++[.sl d (i+1) 0 (j+1)]::ae (n-i-1) pX⟩::((bi i c f).map n7++[n7 (bj (j+1) (f i))])
def Vh (d n c:Nat) (f:FF) (i:Nat):Nat->List OObj
 |0=>O9 d n c f i
 |j+1=>Ud d n c f i j
theorem vV (i c:Nat) (f:FF):bi (i+1) c f=bi i c f++[bj c (f i)]:=by simp[bi,List.range_succ]
theorem o7 (j:Nat) (g:Nat->Int):bj (j+1) g=bj j g++[g j]:=by simp[bj,List.range_succ]
theorem SR {d n c i:Nat} (f:FF) (hc:1<=c) (hi:i<n):Vh d n c f i c=O9 d n c f (i+1):=by
 obtain⟨j,rfl⟩: ∃j,c=j+1:=⟨c-1,by omega⟩;show Ud d n (j+1) f i j=_;unfold Ud O9;rw[vV,List.replicate_succ' (n:=i),og,ay];simp[Nat.sub_sub]
theorem SQ (d n c:Nat) (f:FF):O9 d n c f n=gp d n c f:=by
 unfold O9;simp
theorem Pa {d n c i:Nat} (f:FF) (hi:i<n):O9 d n c f i=⟨61,1,gL d (ae i c)++pX::ae (n-i-1) pX⟩::(bi i c f).map n7:=by
 unfold O9;rw[show n-i=n-i-1+1 by omega,List.replicate_succ];rfl
theorem Dy (n c:Nat) (f:FF) (hn:n<=17) (hc1:1<=c) (hc:c<=17) (hf: ∀i j,i<n->j<c->Bg (f i j)):
  CallC Tryz.prog 24 [dV (bi n c f)] ⟨gp 0 n c f,.one (.sl 0 0 0 n)⟩:=by
 have hml:=aW n c f;refine aS Tryz.func24 rfl Tryz.ntmps24 (aT (k:=aX hml (k:=aF (il hml (k:=?_)))));refine aO (G:=iJ n) (fun g=>⟨(dV (bi n c f)::jk::.raw (.slice none 0 0)::.one (.sl 9 0 0 n)::j4 (jk::jk::jk::rN n::rN g.i::j16 (j4 (j4 (jk::[]))))),Hm [(9,O9 9 n c f g.i)]⟩) (fun g=>n-g.i) ⟨0,by omega⟩ ?_ ?_
 ·refine aE ⟨?_,trivial⟩ ?_
  ·show[_]=_;simp[O9,gL,bi]
  simp[wk]
 rintro⟨i,hi⟩;simp only;by_cases hm:i<n
 ·have hrow:=bx c f hm;have hmi:=aW i c f;have hsl:(gL 9 (ae i c)).length=i:=by rw[cf,ay]
  have hrl:((bi i c f).map n7).length=i:=by rw[List.length_map,hmi]
  refine aK (k:=bv rfl (aF (aG (bC (k:=aX (aP hrow @bf) (k:=?_))))));refine aO (G:=iJ c) (fun g=>⟨(dV (bi n c f)::jk::.raw (.slice none 0 0)::.one (.sl 9 0 0 n)::rN i::j4 (jk::jk::rN n::rN i::j4 (jk::.one (.p (.sl (ls fZ (bj c (f i)))))::rN c::rN g.i::j16 (jk::[])))),Hm [(9,Vh 9 n c f i g.i)]⟩) (fun g=>c-g.i) ⟨0,by omega⟩ ?_ ?_
  ·refine aE ⟨rfl,trivial⟩ ?_;simp[wk]
  rintro⟨j,hj⟩;simp only;by_cases hm2:j<c
  ·have hent:=aQ (f i) hm2;have hN:=Mi (f i j) (hf i j hm hm2);cases j with
   |zero=>
    rw[Vh,Pa f hm];refine aK (k:=bv rfl (aF (aG (aX hent (k:=f5 [⟨7,_,_,_,hN⟩] (aP (fun x l=>@oP _ _ x l _ hsl) (aP (fun x y l=>@oQ _ _ x y l _ hsl) hmi)) (k:=bW (k:=?_)))))));refine⟨⟨1,by omega⟩,by simp only;omega,aE ⟨?_,trivial⟩ ?_⟩
    ·rfl
    simp[wk]
   |succ j=>
    have h01:(0==i+1)=false:=by simp
    rw[Vh,Ud];refine aK (k:=bv rfl (aF (aG (aX hent (k:=f5 [⟨7,_,_,_,hN⟩] (aP @n7.eq_1 (aP (fun x l=>@oP _ _ x l _ hsl) (aP (fun x l=>@oP _ _ x l _ hrl) (aP @bf (aP @List.map_append.{0,0} (aP @C3 (aP @List.map_replicate.{0,0} (aP @Na (aP @nF (aP (fun x y l=>@oQ _ _ x y l _ hrl) (aP h01 (aP (fun x y l=>@oQ _ _ x y l _ hsl) (aP @List.length_append.{0} hrl))))))))))))) (k:=bW (k:=?_)))))));refine⟨⟨j+1+1,by omega⟩,by simp only;omega,aE ⟨?_,trivial⟩ ?_⟩
    ·show _=Ud 9 n c f i (j+1);rw[Ud,n7,o7 (j+1)];rfl
    simp[wk]
  have hjc:j=c:=by omega
  subst hjc;refine aK (k:=bE rfl ?_);show bL _ _ _ _;rw[SR f hc1 hm];refine bW (k:=?_);refine⟨⟨i+1,by omega⟩,by simp only;omega,aE ⟨rfl,trivial⟩ ?_⟩;simp[wk]
 have hin:i=n:=by omega
 subst hin;refine aK (k:=bE rfl ?_);show bL _ _ _ _;rw[SQ];refine bC (k:=?_);refine bA ⟨.inr rfl,_,ci.refl _,?_⟩;refine⟨.one (.sl 9 0 0 i),9,?_,rfl,?_,rfl⟩
 ·simp(disch:=omega) only[kd,Tryz.results24]
 exact(fE 9 0 _ _ _).symm
theorem l7 {P:Program} {c z:Code} {Q:Exit->AS->Prop} {s S:AS} (h1:bL P c (iF (fun s'=>ci s' S) Q) s) (h2:bL P z Q S):bL P c (iF (bL P z Q) Q) s:=h1.mono fun e s' h=>by
 cases e with
 |normal=>exact bL.weak h h2
 |_=>exact h
theorem Sz.mul {a b:Int} {k l:Nat} (ha:Sz a k) (hb:Sz b l):Sz (a*b) (k+l):=by
 unfold Sz at*;rw[Int.natAbs_mul,Nat.pow_add];exact Nat.mul_lt_mul'' ha hb
theorem Sz.sub {a b:Int} {k:Nat} (ha:Sz a k) (hb:Sz b k):Sz (a-b) (k+1):=by
 unfold Sz at*
 have:=Int.natAbs_sub_le a b;rw[Nat.pow_succ];generalize 4294967296^k=p at*
 omega
theorem Sz.add {a b:Int} {k:Nat} (ha:Sz a k) (hb:Sz b k):Sz (a+b) (k+1):=by
 unfold Sz at*
 have:=Int.natAbs_add_le a b;rw[Nat.pow_succ];generalize 4294967296^k=p at*
 omega
theorem Sz.ediv {a:Int} {k:Nat} (ha:Sz a k) (b:Int):Sz (a/b) k:=ha.le (Int.natAbs_ediv_le_natAbs a b)
theorem MB {f:FF} {n k:Nat}: ∀m p,n-p=m->piv f n k p<n->p<=piv f n k p/\f (piv f n k p) k≠0
 |0,p,hm,h=>by rw[uk (by omega)]at h;omega
 |m+1,p,hm,h=>by
  by_cases h0:f p k=0
  ·rw[Ai (by omega) h0]at h⊢;have:=MB m (p+1) (by omega) h;exact⟨by omega,this.2⟩
  rw[Ah (by omega) h0]at h⊢;exact⟨by omega,h0⟩
theorem EP {f:FF} {n k:Nat}: ∀m p,n-p=m->piv f n k p<=n
 |0,p,hm=>by rw[uk (by omega)];omega
 |m+1,p,hm=>by
  by_cases h0:f p k=0
  ·rw[Ai (by omega) h0];exact EP m (p+1) (by omega)
  rw[Ah (by omega) h0];omega
def d9 (k:Nat) (last:Int) (g:FF) (i j:Nat):Nat->Nat->Int:=fun a b=>if k<a/\k<b/\(a<i\/(a=i/\b<j))then(g k k*g a b-g a k*g k b)/last else g a b
theorem GR {k i j:Nat} (last:Int) (g:FF) (hi:k<i) (hj:k<j) (a b:Nat):upd (d9 k last g i j) i j ((g k k*g i j-g i k*g k j)/last) a b=d9 k last g i (j+1) a b:=by
 unfold upd d9;by_cases h1:a=i
 ·subst h1;by_cases h2:b=j
  ·subst h2;simp[hi,hj]
  have:b<j+1↔b<j:=by omega
  simp[h2,this]
 simp[h1]
theorem Mm {k n:Nat} (last:Int) (g:FF) (i a b:Nat) (hb:b<n):d9 k last g i n a b=d9 k last g (i+1) (k+1) a b:=by
 unfold d9;have:(k<a/\k<b/\(a<i\/a=i/\b<n))↔(k<a/\k<b/\(a<i+1\/a=i+1/\b<k+1)):=by omega
 simp only[this]
theorem GS (k:Nat) (last:Int) (g:FF):d9 k last g (k+1) (k+1)=g:=by
 funext a b;unfold d9;rw[if_neg (by omega)]
theorem Ml {k n:Nat} (last:Int) (g:FF) (a b:Nat) (ha:a<n):d9 k last g n (k+1) a b=Kb k last g a b:=by
 unfold d9 Kb;have:(k<a/\k<b/\(a<n\/a=n/\b<k+1))↔(k<a/\k<b):=by omega
 simp only[this]
theorem iY {k i j a b:Nat} (last:Int) (g:FF) (h: ¬(k<a/\k<b/\(a<i\/(a=i/\b<j)))):d9 k last g i j a b=g a b:=by
 unfold d9;rw[if_neg h]
theorem z8 {d n p k:Nat} (g:FF) (hp:p<n) (hk:k<n) (hne:k≠p) (r:Nat):(gp d n n (swp p k g))[r]?=
  (((⟨61,1,((gL d (ae n n)).set p [.sl d (k+1) 0 n]).set k [.sl d (p+1) 0 n]⟩::(bi n n g).map n7:List OObj))[sw (p+1) (k+1) r]?).map (w8 d (p+1) (k+1)):=by
 cases r with
 |zero=>
  rw[show sw (p+1) (k+1) 0=0 by simp[sw]];simp only[List.getElem?_cons_zero,Option.map_some,w8]
  congr 2
  apply List.ext_getElem?;intro i;rw[az,List.getElem?_set,List.getElem?_set,List.length_set,cf,ay];by_cases hi:i<n
  ·rw[bJ d n hi];by_cases h1:k=i
   ·subst h1;simp[hi,kw,pn,sw]
   by_cases h2:p=i
   ·subst h2;simp[h1,hi,kw,pn,sw]
   have h1': ¬i=k:=fun e=>h1 e.symm
   have h2': ¬i=p:=fun e=>h2 e.symm
   simp[h1,h2,h1',h2',kw,pn,sw]
  have h1: ¬k=i:=by omega
  have h2: ¬p=i:=by omega
  rw[if_neg h1,if_neg h2,ar (by rw[cf,ay];omega)];rfl
 |succ r=>
  have hsw:sw (p+1) (k+1) (r+1)=sw p k r+1:=by
   unfold sw;by_cases h1:r=p
   ·simp[h1]
   by_cases h2:r=k
   ·simp[h1,h2,hne]
   simp[h1,h2]
  have hO: ∀l:List Int,w8 d (p+1) (k+1) (n7 l)=n7 l:=fun l=>by
   simp only[w8,n7,lc,List.map_map]
   congr 1
  rw[hsw,List.getElem?_cons_succ,List.getElem?_cons_succ,az,az];by_cases hr:r<n
  ·have hs:sw p k r<n:=by unfold sw;split<;>(try split)<;>omega
   rw[bx _ _ hr,bx _ _ hs];simp only[Option.map_some,hO]
   congr 3
   unfold swp sw;by_cases h1:r=p
   ·simp[h1]
   by_cases h2:r=k
   ·simp[h1,h2,hne]
   simp[h1,h2]
  have hs: ¬sw p k r<n:=by unfold sw;rw[if_neg (by omega),if_neg (by omega)];exact hr
  rw[ar (by rw[aW];omega),ar (by rw[aW];omega)];rfl
structure Wf (n:Nat) (f:FF) where
 k:Nat
 g:Nat->Nat->Int
 last:Int
 neg:Bool
 b:Nat
 hk:k<=n
 hv:detG n k g last neg=detF n f
 hl:last≠0
 hb:b+1<=1025*2^k
 sg: ∀i j,i<n->j<n->Sz (g i j) b
 sl:Sz last b
structure Wt (n k:Nat) (g:FF) where
 p:Nat
 hkp:k<=p
 hp:p<=n
 hv:piv g n k p=piv g n k k
structure Vb (n k:Nat) where
 i:Nat
 hk:k+1<=i
 hi:i<=n
abbrev qx (v:Int):List OObj:=tU (decide (v<0)) (aL v.natAbs)
theorem uw:sg 0=0:=rfl
theorem CY {z:Int} (h:z≠0):sg z≠0:=by unfold sg;split<;>simp[h]
theorem jU {k:Nat} (h:k<=16):2^k<=65536:=Nat.pow_le_pow_right (n:=2) (by omega) h
theorem gM (n:Nat) (f:FF) (hn1:1<=n) (hn:n<=16) (hf: ∀i j,i<n->j<n->Sz (f i j) 1024):
  CallC Tryz.prog 9 [dV (bi n n f)] ⟨[],tZ (detF n f)⟩:=by
 have hC:=Dy n n f (by omega) hn1 (by omega) (fun i j hi hj=>(hf i j hi hj).mono (by omega));have hS:=eA 1 (by omega) (by omega);refine aS Tryz.func9 rfl Tryz.ntmps9 (aT (k:=cb [⟨1,_,_,_,hC⟩] (k:=bC (k:=bN [⟨0,_,_,_,hS⟩] (k:=aF (bC (k:=?_)))))));refine aO (G:=Wf n f) (fun g=>⟨(jk::jk::.one (.ptr 2 0 0 0)::.one (.sl 12 0 0 n)::rN n::.one (.ptr 5 0 0 0)::.raw (.bool g.neg)::rN g.k::j16 (j16 (j16 (j16 (j16 (j16 (j16 (j4 (jk::[]))))))))),Hm [(2,tn),(5,qx g.last),(12,gp 12 n n g.g)]⟩) (fun g=>n-g.k) ⟨0,f,1,false,1024,by omega,rfl,by omega,by omega,hf,mJ (by omega)⟩ ?_ ?_
 ·refine aE ⟨rfl,rfl,?_,trivial⟩ ?_
  ·exact fE 0 12 n n f
  simp[wk]
 rintro⟨k,g,last,neg,b,hk,hv,hl,hb,sgz,slz⟩;simp only;by_cases hm:k<n
 ·have h2k:=jU (k:=k) (by omega);have hbb:b<=67174400:=by omega
  have hvk:detG n k g last neg=if piv g n k k=n then 0 else detG n (k+1) (Kb k last (Ug n k g)) (Ug n k g k k) (neg !=decide (k<piv g n k k)):=by rw[detG,if_pos hm]
  refine aF (aK (k:=aR rfl (aH (aF (aG (bC (k:=?_)))))));refine aF (l7 (S:=⟨(jk::jk::.one (.ptr 2 0 0 0)::.one (.sl 12 0 0 n)::rN n::.one (.ptr 5 0 0 0)::.raw (.bool neg)::rN k::.raw (.int .i64 ((piv g n k k:Nat):Int))::j16 (j16 (j16 (j16 (j16 (j16 (j16 (j4 ([]))))))))),Hm [(2,tn),(5,qx last),(12,gp 12 n n g)]⟩) ?_ ?_)
  ·refine aO (G:=Wt n k g) (fun q=>⟨(jk::jk::.one (.ptr 2 0 0 0)::.one (.sl 12 0 0 n)::rN n::.one (.ptr 5 0 0 0)::.raw (.bool neg)::rN k::rN q.p::j16 (j16 (j16 (j16 (j16 (j16 (j16 (j4 ([]))))))))),Hm [(2,tn),(5,qx last),(12,gp 12 n n g)]⟩) (fun q=>n-q.p) ⟨k,by omega,by omega,rfl⟩ ?_ ?_
   ·refine aE ⟨rfl,rfl,rfl,trivial⟩ ?_;simp[wk]
   rintro⟨p,hkp,hp,hpv⟩;simp only;by_cases hpn:p<n
   ·have g1:=bJ (n:=n) (i:=p) 12 n hpn;have g2:=dU n g hpn;have g3:=aQ (g p) hm;have hSg:=kt (g p k) ((sgz p k hpn hm).mono (by omega));by_cases h0:g p k=0
    ·rw[h0]at hSg g3;refine aF (dr [⟨11,_,_,_,hSg⟩] (aP @uw (aP g1 (aP g2 g3))) (k:=aR rfl (aH (aG (bW (k:=?_))))));refine⟨⟨p+1,by omega,by omega,?_⟩,by simp only;omega,aE ⟨rfl,rfl,rfl,trivial⟩ ?_⟩
     ·rw[<- hpv,Ai hpn h0]
     simp[wk]
    have hs0:=CY h0;refine aF (dr [⟨11,_,_,_,hSg⟩] (aP g1 (aP g2 g3)) (k:=aJ rfl (bz ?_)));show ci _ _;have hpe:piv g n k k=p:=by rw[<- hpv,Ah hpn h0]
    refine aE ⟨rfl,rfl,rfl,trivial⟩ ?_;simp[wk,hpe]
   have hpe:piv g n k k=p:=by rw[<- hpv,uk hpn];omega
   refine aF (aK (k:=aJ rfl (bz ?_)));show ci _ _;refine aE ⟨rfl,rfl,rfl,trivial⟩ ?_;simp[wk,hpe]
  have hpl:=EP (f:=g) (n:=n) (k:=k) (n-k) k rfl;have hpn':=MB (f:=g) (n:=n) (k:=k) (n-k) k rfl;generalize hpp:piv g n k k=p at*
  by_cases hpn:p=n
  ·rw[if_pos hpn]at hvk;refine aF (aK (k:=aR rfl (aK (k:=?_))));refine bL.weak (gR 2) ?_;refine bA ⟨.inr rfl,cd rfl ?_ rfl⟩;rw[<- hv,hvk];simp(disch:=omega) only[kd,Tryz.results9,zH,ab,zO,Dm,Dv,aa,tZ];simp[cx,ls]
  rw[if_neg hpn]at hvk;obtain⟨hkp,hpk0⟩:=hpn' (by omega);refine aF (aK (k:=aJ rfl (aH (aF (bC (k:=?_))))));refine l7 (S:=⟨(jk::jk::.one (.ptr 2 0 0 0)::.one (.sl 12 0 0 n)::rN n::.one (.ptr 5 0 0 0)::.raw (.bool (neg !=decide (k<p)))::rN k::j16 (j16 (j16 (j16 (j16 (j16 (j16 (j4 (jk::[]))))))))),Hm [(2,tn),(5,qx last),(12,gp 12 n n (swp p k g))]⟩) ?_ ?_
  ·by_cases hlt:k<p
   ·have g1:=bJ (n:=n) (i:=p) 12 n (by omega);have g2:=bJ (n:=n) (i:=k) 12 n (by omega);refine bV rfl (fun _=>?_) (fun h=>by simp at h<;>omega);have g4:((gL 12 (ae n n)).set p [.sl 12 (k+1) 0 n])[k]?=some [.sl 12 (k+1) 0 n]:=by
     rw[List.getElem?_set_ne (by omega),g2]
    refine iN (aP g2 (aP g1 g4)) (k:=VH (k:=?_));refine(qn 12 (p+1) (k+1) (gp 12 n n (swp p k g)) (z8 g (by omega) hm (by omega))).trans (aE ⟨rfl,rfl,rfl,trivial⟩ ?_);simp[wk,Fg,kw,pn,sw,hlt]
   have hpk:p=k:=by omega
   subst hpk;refine bV rfl (fun h=>by simp at h<;>omega) (fun _=>aH ?_);show ci _ _;rw[wX];refine aE ⟨rfl,rfl,rfl,trivial⟩ ?_;simp[wk]
  rw[Ug,hpp]at hvk;have hkk:swp p k g k k≠0:=by
   unfold swp;by_cases h:k=p
   ·subst h;rw[if_pos rfl];exact hpk0
   rw[if_neg h,if_pos rfl];exact hpk0
  have hsz: ∀i j,i<n->j<n->Sz (swp p k g i j) b:=fun i j hi hj=>by
   unfold swp;split
   ·exact sgz k j hm hj
   split
   ·exact sgz p j (by omega) hj
   exact sgz i j hi hj
  generalize swp p k g=g' at*
  generalize(neg !=decide (k<p))=neg' at*
  refine aF (aK (k:=?_));refine aO (G:=Vb n k) (fun q=>⟨(jk::jk::.one (.ptr 2 0 0 0)::.one (.sl 12 0 0 n)::rN n::.one (.ptr 5 0 0 0)::.raw (.bool neg')::rN k::jk::rN q.i::j16 (j16 (j16 (j16 (j16 (j16 (j16 (jk::jk::jk::[])))))))),Hm [(2,tn),(5,qx last),(12,gp 12 n n (d9 k last g' q.i (k+1)))]⟩) (fun q=>n-q.i) ⟨k+1,by omega,by omega⟩ ?_ ?_
  ·rw[GS];refine aE ⟨rfl,rfl,rfl,trivial⟩ ?_;simp[wk]
  rintro⟨i,hki,hin⟩;simp only;by_cases hi:i<n
  ·refine aF (aK (k:=aR rfl (aH (aF (aG (aK (k:=?_)))))));refine aO (G:=Vb n k) (fun q=>⟨(jk::jk::.one (.ptr 2 0 0 0)::.one (.sl 12 0 0 n)::rN n::.one (.ptr 5 0 0 0)::.raw (.bool neg')::rN k::jk::rN i::rN q.i::j16 (j16 (j16 (j16 (j16 (j16 (j16 (jk::jk::[])))))))),Hm [(2,tn),(5,qx last),(12,gp 12 n n (d9 k last g' i q.i))]⟩) (fun q=>n-q.i) ⟨k+1,by omega,by omega⟩ ?_ ?_
   ·refine aE ⟨rfl,rfl,rfl,trivial⟩ ?_;simp[wk]
   rintro⟨j,hkj,hjn⟩;simp only;by_cases hj:j<n
   ·have a1:=bJ (n:=n) (i:=i) 12 n hi;have a2:=bJ (n:=n) (i:=k) 12 n hm;have a3:=dU n (d9 k last g' i j) hi;have a4:=dU n (d9 k last g' i j) hm;have a5:(bj n (d9 k last g' i j k))[k]?=some (g' k k):=by rw[aQ _ hm,iY _ _ (by omega)]
    have a6:(bj n (d9 k last g' i j i))[j]?=some (g' i j):=by rw[aQ _ hj,iY _ _ (by omega)]
    have a7:(bj n (d9 k last g' i j i))[k]?=some (g' i k):=by rw[aQ _ hm,iY _ _ (by omega)]
    have a8:(bj n (d9 k last g' i j k))[j]?=some (g' k j):=by rw[aQ _ hj,iY _ _ (by omega)]
    have z1:=hsz k k hm hm;have z2:=hsz i j hi hj;have z3:=hsz i k hi hm;have z4:=hsz k j hm hj;have c1:=ib (g' k k) (g' i j) (z1.mono (by omega)) (z2.mono (by omega));have c2:=ib (g' i k) (g' k j) (z3.mono (by omega)) (z4.mono (by omega));have c3:=xv (g' k k*g' i j) (g' i k*g' k j) ((z1.mul z2).mono (by omega)) ((z3.mul z4).mono (by omega));have c4:=uI (g' k k*g' i j-g' i k*g' k j) last hl (((z1.mul z2).sub (z3.mul z4)).mono (by omega)) (slz.mono (by omega));refine aF (aK (k:=aR rfl (aH (aF (aG (f5 [⟨19,_,_,_,c1⟩,⟨34,_,_,_,c2⟩,⟨35,_,_,_,c3⟩,⟨37,_,_,_,c4⟩] (aP a1 (aP a2 (aP a4 (aP a5 (aP a3 (aP a6 (aP a7 (aP a8 @iB)))))))) (k:=bW (k:=?_))))))));refine⟨⟨j+1,by omega,by omega⟩,by simp only;omega,aE ⟨rfl,rfl,?_,trivial⟩ ?_⟩
    ·show _::_=_::_;rw[b7 fun a b _ _=>GR last g' hki hkj a b]
    simp[wk]
   have hjn':j=n:=by omega
   subst hjn';refine aF (aK (k:=aJ rfl (bz (bW (k:=?_)))));refine⟨⟨i+1,by omega,by omega⟩,by simp only;omega,aE ⟨rfl,rfl,?_,trivial⟩ ?_⟩
   ·show _::_=_::_;rw[b7 fun a b _ hb=>Mm last g' i a b hb]
   simp[wk]
  have hin':i=n:=by omega
  subst hin';have a2:=bJ (n:=i) (i:=k) 12 i hm;have a4:=dU i (d9 k last g' i (k+1)) hm;have a5:(bj i (d9 k last g' i (k+1) k))[k]?=some (g' k k):=by rw[aQ _ hm,iY _ _ (by omega)]
  refine aF (aK (k:=aJ rfl (bz (fc (aP a2 (aP a4 a5)) (k:=bW (k:=?_))))));refine⟨⟨k+1,Kb k last g',g' k k,neg',2*b+1,by omega,by rw[<- hvk,hv],hkk,by rw[Nat.pow_succ];omega,fun x y hx hy=>?_,(hsz k k hm hm).mono (by omega)⟩,by simp only;omega,aE ⟨rfl,rfl,?_,trivial⟩ ?_⟩
  ·unfold Kb;split
   ·exact((((hsz k k hm hm).mul (hsz x y hx hy)).sub ((hsz x k hx hm).mul (hsz k y hm hy))).ediv last).mono (by omega)
   exact(hsz x y hx hy).mono (by omega)
  ·show _::_=_::_;rw[b7 fun a b ha _=>Ml last g' a b ha]
  simp[wk]
 have hkn:k=n:=by omega
 subst hkn;rw[detG,if_neg hm]at hv;have h2k:=jU (k:=k) hn;have hN:=GQ last (slz.mono (by omega));refine aF (aK (k:=aJ rfl (bz (aF (bC (k:=?_))))));cases neg with
 |true=>
  rw[if_pos rfl]at hv;refine aR rfl (bN [⟨1,_,_,_,hN⟩] (k:=?_));rw[<- hv]
  (refine bA ⟨.inr rfl,cd rfl ?_ rfl⟩;simp(disch:=omega) only[kd,Tryz.results9,ab,aa,tZ])
 |false=>
  rw[if_neg (by simp)]at hv;refine aJ rfl (aH (aK (k:=?_)));rw[<- hv]
  (refine bA ⟨.inr rfl,cd rfl ?_ rfl⟩;simp(disch:=omega) only[kd,Tryz.results9,ab,aa,tZ])
theorem k9 {z:Int} {k:Nat} (h:z.natAbs<4294967296) (hk:1<=k):Sz z k:=by
 have:Sz z 1:=by unfold Sz;simpa using h
 exact this.mono hk
theorem pf (k:Nat):Sz 0 k:=by unfold Sz;exact Nat.pow_pos (by omega)
theorem TX {n p k b:Nat} {g:FF} (hp:p<n) (hk:k<n) (h: ∀i j,i<n->j<n->Sz (g i j) b): ∀i j,i<n->j<n->Sz (swp p k g i j) b:=fun i j hi hj=>by
 unfold swp;split
 ·exact h k j hk hj
 split
 ·exact h p j hp hj
 exact h i j hi hj
theorem Tm {n k b:Nat} {g:FF} (last:Int) (hk:k<n) (h: ∀i j,i<n->j<n->Sz (g i j) b): ∀i j,i<n->j<n->Sz (Kb k last g i j) (2*b+1):=fun x y hx hy=>by
 unfold Kb;split
 ·exact((((h k k hk hk).mul (h x y hx hy)).sub ((h x k hx hk).mul (h k y hk hy))).ediv last).mono (by omega)
 exact(h x y hx hy).mono (by omega)
theorem Gi {n:Nat} (hn:n<=16): ∀m k g last neg b,n-k=m->k<=n->(∀i j,i<n->j<n->Sz (g i j) b)->Sz last b->b+1<=1025*2^k->Sz (detG n k g last neg) 67174400
 |0,k,g,last,neg,b,hm,hk,hg,hl,hb=>by
  have h2k:=jU (k:=k) (by omega);rw[detG,if_neg (by omega)];split
  ·exact hl.neg.mono (by omega)
  exact hl.mono (by omega)
 |m+1,k,g,last,neg,b,hm,hk,hg,hl,hb=>by
  rw[detG,if_pos (by omega)];split
  ·exact pf _
  rename_i hp;have hpl:=EP (f:=g) (n:=n) (k:=k) (n-k) k rfl;have hs:=TX (p:=piv g n k k) (k:=k) (by omega) (by omega) hg;exact Gi hn m (k+1) _ _ _ (2*b+1) (by omega) (by omega) (Tm last (by omega) hs) ((hs k k (by omega) (by omega)).mono (by omega)) (by rw[Nat.pow_succ];omega)
theorem oG {n:Nat} {f:FF} (hn:n<=16) (hf: ∀i j,i<n->j<n->Sz (f i j) 1024):Sz (detF n f) 67174400:=
 Gi hn n 0 f 1 false 1024 rfl (by omega) hf (mJ (by omega)) (by omega)
theorem ji {n c:Nat} (f:FF) (h:1<=n):((bi n c f).headD []).length=c:=by
 have:=je (M:=bi n c f) (by rw[aW];omega);rw[bx _ _ (by omega)]at this;injection this with this
 rw[<- this,bf]
theorem mu {n c:Nat} (f:FF) (hn1:1<=n) (hn:n<=16) (hc1:1<=c) (hc:c<=16):Dp (bi n c f):=by
 refine⟨by rw[aW];omega,by rw[aW];omega,fun r hr=>?_⟩;obtain⟨i,hi⟩:=List.mem_iff_getElem?.1 hr;have hin:i<n:=by
  have:=(List.getElem?_eq_some_iff.1 hi).1;rwa[aW]at this
 rw[bx _ _ hin]at hi;injection hi with hi
 rw[<- hi,rOk,bf,ji f hn1];omega
theorem FK {M:List (List Int)} (h:Dp M):M=bi M.length (M.headD []).length (ent M):=zW fun r hr=>(h.2.2 r hr).2.2
theorem Hi {n:Nat} (f:FF) (hn1:1<=n) (hn:n<=16):RN (bi n n f)= .tup [(false,[.p (.raw (.int .i64 (n:Int)))]),(false,[.p (.raw (.bool true))])]:=by
 have h:Ve (bi n n f):=⟨mu f hn1 hn hn1 hn,by rw[aW,ji f hn1]⟩;unfold RN;rw[if_pos h,aW]
theorem TL {n c:Nat} (f:FF) (hn1:1<=n) (h:n≠c):RN (bi n c f)= .tup [(false,[.p (.raw (.int .i64 0))]),(false,[.p (.raw (.bool false))])]:=by
 unfold RN;rw[if_neg];intro hs;have:=hs.2;rw[aW,ji f hn1]at this;exact h this
abbrev vS (n:Nat) (f:FF):List Int:=bj n fun k=>detF (k+1) f
def Tb (n:Nat) (f:FF):TV:= .tup [(false,[.p (.sl (ls fZ (vS n f)))]),(false,[.p (.raw (.bool true))])]
theorem Nk (k:Nat) (f:FF):((List.range (k+1)).map fun i=>(List.range (k+1)).map (f i))=bi (k+1) (k+1) f:=rfl
theorem lE (n:Nat) (f:FF) (hn1:1<=n) (hn:n<=16) (hf: ∀i j,i<n->j<n->Sz (f i j) 1024):CallC Tryz.prog 78 [dV (bi n n f)] ⟨[],Tb n f⟩:=by
 have hSq:=A4 (bi n n f);rw[Hi f hn1 hn]at hSq;refine aS Tryz.func78 rfl Tryz.ntmps78 (aT (k:=cb [⟨1,_,_,_,hSq⟩] (k:=aF (bC (k:=aJ rfl (aH (bC (k:=aF (bC (k:=?_))))))))));refine aO (G:=iJ n) (fun g=>⟨(dV (bi n n f)::jk::.raw (.slice none 0 0)::.raw (.bool false)::rN n::jk::.one (.sl 31 0 0 g.i)::rN g.i::j16 (j4 (j4 (jk::[])))),Hm [(31,[⟨32,2,lc fZ (vS g.i f)⟩])]⟩) (fun g=>n-g.i) ⟨0,by omega⟩ ?_ ?_
 ·refine(dx (k:=6) (d:=31) 32 2 (by omega) rfl rfl).trans (aE ⟨rfl,trivial⟩ ?_);simp[wk]
 rintro⟨k,hk⟩;simp only;by_cases hm:k<n
 ·have c1:=zB k k (by omega) (by omega);rw[<- List.range_succ]at c1;have c2:=uL n n f (List.range (k+1)) (List.range (k+1)) hn hn (fun x hx=>by have:=List.mem_range.1 hx;omega) (fun x hx=>by have:=List.mem_range.1 hx;omega) (by simp;omega) (by simp;omega);rw[Nk]at c2;have c3:=gM (k+1) f (by omega) (by omega) (fun i j hi hj=>hf i j (by omega) (by omega));have e1:lc fZ (vS k f)++[[.p (.raw (.bool (decide (detF (k+1) f<0)))),.p (.sl (ls fU (aL (detF (k+1) f).natAbs)))]]=lc fZ (vS (k+1) f):=by
   rw[nF,vS,vS,o7 k]
  refine aF (aK (k:=aR rfl (aH (aF (aG (yW [⟨4,_,_,_,c1⟩,⟨7,_,_,_,c1⟩,⟨8,_,_,_,c2⟩,⟨9,_,_,_,c3⟩] (aP @bf e1) (k:=bW (k:=?_))))))));refine⟨⟨k+1,by omega⟩,by simp only;omega,aE ⟨rfl,trivial⟩ ?_⟩;simp[wk]
 have hkn:k=n:=by omega
 subst hkn;refine aF (aK (k:=aJ rfl (bz (bC (k:=?_)))));refine bA ⟨.inr rfl,fo 31 (bQ rfl) ?_ rfl⟩;have eT:List.take k (vS k f)=vS k f:=List.take_of_length_le (by rw[bf];omega);simp(disch:=omega) only[kd,Tryz.results78,eT,Tb]
structure VY (n:Nat) (f:FF) where
 i:Nat
 hi:i<=n
 ok: ∀a,a<i-> ∀b,b<a->f a b=f b a
structure VZ (n i:Nat) (f:FF) where
 j:Nat
 hj:j<=i
 ok: ∀b,b<j->f i b=f b i
theorem xS (a:Int):mX a a=0:=by simp[mX]
theorem By {a b:Int} (h:a≠b):mX a b≠0:=by unfold mX;split<;>(try split)<;>omega
theorem nd (n:Nat) (f:FF) (hn:n<=16) (hf: ∀i j,i<n->j<n->Sz (f i j) 1024) (r:Bool) (hr:r=true↔SymF f n):CallC Tryz.prog 76 [dV (bi n n f)] ⟨[],.raw (.bool r)⟩:=by
 have hml:=aW n n f;refine aS Tryz.func76 rfl Tryz.ntmps76 (aT (k:=aF (il hml (k:=?_))));refine aO (G:=VY n f) (fun g=>⟨(dV (bi n n f)::jk::.raw (.bool false)::jk::jk::jk::rN n::rN g.i::j16 (j4 (j4 ([])))),Hm []⟩) (fun g=>n-g.i) ⟨0,by omega,fun a ha=>by omega⟩ ?_ ?_
 ·refine aE trivial ?_;simp[wk]
 rintro⟨i,hi,ok⟩;simp only;by_cases hm:i<n
 ·refine aK (k:=bv rfl (aF (aG (bC (k:=bC (k:=?_))))));refine aO (G:=VZ n i f) (fun g=>⟨(dV (bi n n f)::jk::.raw (.bool false)::rN i::rN g.j::jk::rN n::rN i::j16 (j4 (j4 ([])))),Hm []⟩) (fun g=>i-g.j) ⟨0,by omega,fun a ha=>by omega⟩ ?_ ?_
  ·refine aE trivial ?_;simp[wk]
  rintro⟨j,hj,okj⟩;simp only;by_cases hm2:j<i
  ·have a1:=bx n f hm;have a2:=bx n f (show j<n by omega);have a3:=aQ (f i) (show j<n by omega);have a4:=aQ (f j) hm;have c1:=xu (f i j) (f j i) ((hf i j hm (by omega)).mono (by omega)) ((hf j i (by omega) hm).mono (by omega));by_cases he:f i j=f j i
   ·rw[he,xS]at c1;rw[he]at a3;refine aF (aK (k:=aR rfl (aH (aF (aG (d6 [⟨14,_,_,_,c1⟩] (aP a1 (aP a3 (aP a2 a4))) (k:=aJ rfl (aH (bW (k:=?_))))))))));refine⟨⟨j+1,by omega,fun b hb=>?_⟩,by simp only;omega,aE trivial ?_⟩
    ·by_cases e:b=j
     ·subst e;exact he
     exact okj b (by omega)
    simp[wk]
   have hr0:r=false:=by
    cases r with
    |false=>rfl
    |true=>exact absurd (hr.1 rfl i hm j (by omega)) he
   subst hr0;have hne:=By he;refine aF (aK (k:=aR rfl (aH (aF (aG (d6 [⟨14,_,_,_,c1⟩] (aP a1 (aP a3 (aP a2 a4))) (k:=aR rfl (bC (k:=aV @Tryz.results76)))))))))
  refine aF (aK (k:=aJ rfl (bz (bW (k:=?_)))));refine⟨⟨i+1,by omega,fun a ha b hb=>?_⟩,by simp only;omega,aE trivial ?_⟩
  ·by_cases e:a=i
   ·subst e;exact okj b (by omega)
   exact ok a (by omega) b hb
  simp[wk]
 have hr1:r=true:=hr.2 fun a ha b hb=>by
  rcases Nat.lt_trichotomy a b with h|h|h
  ·exact(ok b (by omega) a h).symm
  ·rw[h]
  exact ok a (by omega) b h
 subst hr1;refine aK (k:=bE rfl (bC (k:=aV @Tryz.results76)))
structure Wg (n:Nat) (f:FF) where
 i:Nat
 hi:i<=n
 ok: ∀a,a<i->0<detF (a+1) f
theorem E5 {z:Int} (h:0<z):sg z=1:=by unfold sg;rw[if_neg (by omega),if_neg (by omega)]
theorem Hc {z:Int} (h: ¬0<z):sg z<=0:=by unfold sg;split<;>(try split)<;>omega
theorem uB (n:Nat) (f:FF) (hn1:1<=n) (hn:n<=16) (hf: ∀i j,i<n->j<n->Sz (f i j) 1024) (hs:SymF f n) (r:Bool) (hr:r=true↔A2 f n):CallC Tryz.prog 77 [dV (bi n n f)] ⟨[],.raw (.bool r)⟩:=by
 have hL:=lE n f hn1 hn hf;have hS:=nd n f hn hf true (by simp[hs]);refine aS Tryz.func77 rfl Tryz.ntmps77 (aT (k:=fw [⟨1,_,_,_,hL⟩] @Tb.eq_1 (k:=aF (bN [⟨4,_,_,_,hS⟩] (k:=aJ rfl (aH (aF (il @bf (k:=?_)))))))));refine aO (G:=Wg n f) (fun g=>⟨(jk::jk::.raw (.bool false)::j16 (.one (.p (.sl (ls fZ (vS n f))))::rN n::rN g.i::j4 (jk::jk::jk::[]))),Hm []⟩) (fun g=>n-g.i) ⟨0,by omega,fun a ha=>by omega⟩ ?_ ?_
 ·refine aE trivial ?_;simp[wk]
 rintro⟨i,hi,ok⟩;simp only;by_cases hm:i<n
 ·have a1:(vS n f)[i]?=some (detF (i+1) f):=aQ _ hm;have hz:=oG (n:=i+1) (f:=f) (by omega) (fun a b ha hb=>hf a b (by omega) (by omega));have c1:=kt (detF (i+1) f) (hz.mono (by omega));refine aK (k:=bv rfl (aF (aG (aX a1 (k:=?_)))));by_cases hp:0<detF (i+1) f
  ·rw[E5 hp]at c1;refine bN [⟨1,_,_,_,c1⟩] (k:=aJ rfl (aH (bW (k:=?_))));refine⟨⟨i+1,by omega,fun a ha=>?_⟩,by simp only;omega,aE trivial ?_⟩
   ·by_cases e:a=i
    ·subst e;exact hp
    exact ok a (by omega)
   simp[wk]
  have hr0:r=false:=by
   cases r with
   |false=>rfl
   |true=>exact absurd (hr.1 rfl i hm) hp
  subst hr0;have hle:=Hc hp;refine bN [⟨1,_,_,_,c1⟩] (k:=aR rfl (bC (k:=aV @Tryz.results77)))
 have hr1:r=true:=hr.2 fun a ha=>ok a (by omega)
 subst hr1;refine aK (k:=bE rfl (bC (k:=aV @Tryz.results77)))
theorem zl (a b:Int):decide (mX a b<=0)=decide (a<=b):=by
 unfold mX;split
 ·simp;omega
 split
 ·simp;omega
 simp;omega
theorem O4 (a b:Int):decide (0<=mX a b)=decide (b<=a):=by
 unfold mX;split
 ·simp;omega
 split
 ·simp;omega
 simp;omega
theorem C2 (n:Nat) (f:FF) (hn1:1<=n) (hn:n<=16) (hf: ∀i j,i<n->j<n->Sz (f i j) 1024):CallC Tryz.prog 40 [dV (bi n n f)] ⟨[],.raw (.bool (decide (detF n f<=10000)))⟩:=by
 have hD:=gM n f hn1 hn hf;have hS:=eA 10000 (by omega) (by omega);have hC:=xu (detF n f) 10000 ((oG hn hf).mono (by omega)) (k9 (by decide) (by omega));have hle:=zl (detF n f) 10000;refine aS Tryz.func40 rfl Tryz.ntmps40 (aT (k:=dr [⟨1,_,_,_,hD⟩,⟨2,_,_,_,hS⟩,⟨3,_,_,_,hC⟩] hle (k:=aV @Tryz.results40)))
theorem pz (n c:Nat) (f:FF) (hn1:1<=n) (hn:n<=16) (hc1:1<=c) (hc:c<=16) (hf: ∀i j,i<n->j<c->Sz (f i j) 1024):
  ∃e:Int,(e=0↔(n=c/\n<=8/\SymF f n/\A2 f n))/\CallC Tryz.prog 39 [dV (bi n c f)] ⟨[],.raw (.int .i64 e)⟩:=by
 have hSq:=A4 (bi n c f);by_cases h1:n=c
 ·subst h1;rw[Hi f hn1 hn]at hSq;by_cases h2:8<n
  ·refine⟨3,by omega,?_⟩;refine aS Tryz.func39 rfl Tryz.ntmps39 (aT (k:=cb [⟨1,_,_,_,hSq⟩] (k:=aF (aG (aK (k:=aR rfl (bC (k:=aV @Tryz.results39))))))))
  by_cases h3:SymF f n
  ·have hS:=nd n f hn hf true (by simp[h3]);by_cases h4:A2 f n
   ·have hD:=uB n f hn1 hn hf h3 true (by simp[h4]);refine⟨0,by simp[h3,h4];omega,?_⟩;refine aS Tryz.func39 rfl Tryz.ntmps39 (aT (k:=cb [⟨1,_,_,_,hSq⟩] (k:=aF (aG (aK (k:=aJ rfl (cb [⟨1,_,_,_,hS⟩] (k:=aJ rfl (cb [⟨1,_,_,_,hD⟩] (k:=aJ rfl (aH (bC (k:=aV @Tryz.results39)))))))))))))
   have hD:=uB n f hn1 hn hf h3 false (by simp[h4]);refine⟨5,by simp[h4],?_⟩;refine aS Tryz.func39 rfl Tryz.ntmps39 (aT (k:=cb [⟨1,_,_,_,hSq⟩] (k:=aF (aG (aK (k:=aJ rfl (cb [⟨1,_,_,_,hS⟩] (k:=aJ rfl (cb [⟨1,_,_,_,hD⟩] (k:=aR rfl (bC (k:=aV @Tryz.results39))))))))))))
  have hS:=nd n f hn hf false (by simp[h3]);refine⟨4,by simp[h3],?_⟩;refine aS Tryz.func39 rfl Tryz.ntmps39 (aT (k:=cb [⟨1,_,_,_,hSq⟩] (k:=aF (aG (aK (k:=aJ rfl (cb [⟨1,_,_,_,hS⟩] (k:=aR rfl (bC (k:=aV @Tryz.results39))))))))))
 rw[TL f hn1 h1]at hSq;refine⟨3,by simp[h1],?_⟩;refine aS Tryz.func39 rfl Tryz.ntmps39 (aT (k:=cb [⟨1,_,_,_,hSq⟩] (k:=aF (aG (aK (k:=aR rfl (bC (k:=aV @Tryz.results39))))))))
theorem Qu (i j:Nat) (f:FF):((List.range j++[i]).map fun r=>(List.range (j+1)).map (f r))=bi (j+1) (j+1) (m0 f i j):=by
 rw[bi,List.range_succ,List.map_append,List.map_append]
 congr 1
 ·refine List.map_congr_left fun r hr=>?_
  have:=List.mem_range.1 hr;rw[<- List.range_succ];exact gn (m:=j+1) fun c _=>by unfold m0;rw[if_pos this]
 simp only[List.map_cons,List.map_nil];rw[<- List.range_succ]
 congr 1
 exact gn (m:=j+1) fun c _=>by unfold m0;rw[if_neg (by omega)]
theorem GC {n i j:Nat} {f:FF} (hi:i<n) (hj:j<n) (hf: ∀i j,i<n->j<n->Sz (f i j) 1024): ∀r c,r<j+1->c<j+1->Sz (m0 f i j r c) 1024:=fun r c hr hc=>by
 unfold m0;split
 ·exact hf r c (by omega) (by omega)
 exact hf i c hi (by omega)
theorem EA {n i j:Nat} {f:FF} (hn:n<=16) (hi:i<n) (hj:j<n) (hf: ∀i j,i<n->j<n->Sz (f i j) 1024):Sz (lam f i j) 67174400:=
 oG (by omega) (GC hi hj hf)
theorem BC {n k:Nat} {f:FF} (hn:n<=16) (hk:k<=n) (hf: ∀i j,i<n->j<n->Sz (f i j) 1024):Sz (dd f k) 67174400:=by
 unfold dd;split
 ·exact mJ (by omega)
 exact oG (by omega) fun i j hi hj=>hf i j (by omega) (by omega)
theorem uF (n:Nat) (f:FF) (i j:Nat) (hn:n<=16) (hi:i<n) (hj:j<n) (hf: ∀i j,i<n->j<n->Sz (f i j) 1024):
  CallC Tryz.prog 82 [dV (bi n n f),.raw (.int .i64 (i:Int)),.raw (.int .i64 (j:Int))] ⟨[],tZ (lam f i j)⟩:=by
 have c2:=uL n n f (List.range j++[i]) (List.range (j+1)) hn hn (fun x hx=>by
  rcases List.mem_append.1 hx with h|h
  ·have:=List.mem_range.1 h;omega
  have:x=i:=by simpa using h
  omega) (fun x hx=>by have:=List.mem_range.1 hx;omega) (by simp;omega) (by simp;omega)
 rw[Qu]at c2;have c3:=gM (j+1) (m0 f i j) (by omega) (by omega) (GC hi hj hf);refine aS Tryz.func82 rfl Tryz.ntmps82 (aT (k:=bC (k:=aF (bC (k:=?_)))));refine aO (G:=iJ j) (fun g=>⟨(dV (bi n n f)::rN i::rN j::jk::jk::jk::.one (.ptr 6 0 0 0)::.one (.sl 18 0 0 g.i)::.one (.sl 22 0 0 g.i)::rN g.i::j16 (j4 (j4 ([])))),Hm [(6,tn),(18,[⟨3,1,lc fN (List.range g.i)⟩]),(22,[⟨3,1,lc fN (List.range g.i)⟩])]⟩) (fun g=>j-g.i) ⟨0,by omega⟩ ?_ ?_
 ·refine(dx (k:=7) (d:=18) 3 1 (by omega) rfl rfl).trans ((dx (k:=8) (d:=22) 3 1 (by omega) rfl rfl).trans (aE ⟨rfl,rfl,rfl,trivial⟩ ?_));simp[wk]
 rintro⟨k,hk⟩;simp only;by_cases hm:k<j
 ·refine aF (aK (k:=aR rfl (aH (aF (aG (aX (aP @List.length_range @nE) (k:=fc (aP @List.length_range @nE) (k:=bW (k:=?_)))))))));refine⟨⟨k+1,by omega⟩,by simp only;omega,aE ⟨rfl,?_,?_,trivial⟩ ?_⟩
  ·rw[List.range_succ];rfl
  ·rw[List.range_succ];rfl
  simp[wk]
 have hkj:k=j:=by omega
 subst hkj;refine aF (aK (k:=aJ rfl (bz ?_)));show bL _ _ _ _;refine xz 9 [⟨9,_,_,_,c2⟩,⟨10,_,_,_,c3⟩] [] (by simp) (by decide) fun _ K=>?_;simp(disch:=omega) only[kd,dV,AB,tZ,aa,Nat.reduceMul,Nat.reduceLeDiff,ab,List.length_range,nE,Nat.reduceBEq];apply K
 refine⟨⟨(j4 (jk::jk::.one (.ptr 6 0 0 0)::j16 (dV (bi n n f)::jk::jk::jk::AB (List.range k++[i])::jk::jk::jk::AB (List.range (k+1))::jk::jk::[]))),Hm [(6,tn)]⟩,(bT 18 (bQ rfl)).trans ((bT 22 (bQ rfl)).trans (aE ⟨rfl,trivial⟩ ?_)),by simp[wk],?_⟩
 ·simp[wk,gX,fX,be,Hm,gS,gN,List.range_succ,List.take_of_length_le]
 intro _ K;simp(disch:=omega) only[kd,dV,AB,tZ,aa,Nat.reduceBEq];apply K;rw[<- lam]
 (refine bA ⟨.inr rfl,cd rfl ?_ rfl⟩;simp(disch:=omega) only[kd,Tryz.results82,aa,tZ])
theorem qU (n:Nat) (f:FF) (k:Nat) (hn:n<=16) (hk:k<=n):
  CallC Tryz.prog 83 [xq (vS n f),.raw (.int .i64 (k:Int))] ⟨[],tZ (dd f k)⟩:=by
 have c1:=eA 1 (by omega) (by omega);by_cases h0:k=0
 ·subst h0;rw[show dd f 0=1 from rfl];refine aS Tryz.func83 rfl Tryz.ntmps83 (aT (k:=aF (aK (k:=aR rfl (bN [⟨0,_,_,_,c1⟩] (k:=aV @Tryz.results83))))))
 rw[show dd f k=detF k f from if_neg h0];have e1:((k:Int)-1).toNat=k-1:=by omega
 have a1:(vS n f)[k-1]?=some (detF k f):=by rw[aQ _ (by omega),show k-1+1=k by omega]
 refine aS Tryz.func83 rfl Tryz.ntmps83 (aT (k:=aF (aK (k:=aJ rfl (aH (aX (aP e1 a1) (k:=aV @Tryz.results83)))))))
theorem FM (n:Nat) (f:FF) (i j:Nat) (hn:n<=16) (hi:i<n) (hj:j<n) (hf: ∀i j,i<n->j<n->Sz (f i j) 1024):
  CallC Tryz.prog 79 [dV (bi n n f),xq (vS n f),.raw (.int .i64 (i:Int)),.raw (.int .i64 (j:Int))] ⟨[],.raw (.bool (decide (2*((lam f i j).natAbs:Int)<=dd f (j+1))))⟩:=by
 have hl:=EA hn hi hj hf;have hd:=BC (k:=j+1) hn (by omega) hf;have hla:Sz ((lam f i j).natAbs:Int) 67174400:=hl.le (by omega);have hm:Sz (2*((lam f i j).natAbs:Int)) (1+67174400):=Sz.mul (k9 (by decide) (by omega)) hla;have c1:=eA 2 (by omega) (by omega);have c2:=uF n f i j hn hi hj hf;have c3:=KG (lam f i j) (hl.mono (by omega));have c4:=ib 2 ((lam f i j).natAbs:Int) (k9 (by decide) (by omega)) (hla.mono (by omega));have c5:=qU n f (j+1) hn (by omega);rw[show((j+1:Nat):Int)=(j:Int)+1 by omega]at c5;have c6:=xu (2*((lam f i j).natAbs:Int)) (dd f (j+1)) (hm.mono (by omega)) (hd.mono (by omega));have hle:=zl (2*((lam f i j).natAbs:Int)) (dd f (j+1));generalize lam f i j=l at*
 generalize dd f (j+1)=d at*
 refine aS Tryz.func79 rfl Tryz.ntmps79 (aT (k:=dr [⟨0,_,_,_,c1⟩,⟨4,_,_,_,c2⟩,⟨5,_,_,_,c3⟩,⟨6,_,_,_,c4⟩,⟨10,_,_,_,c5⟩,⟨11,_,_,_,c6⟩] hle (k:=aV @Tryz.results79)))
theorem A1 (n:Nat) (f:FF) (i:Nat) (hn:n<=16) (hi:i<n) (h0:0<i) (hf: ∀i j,i<n->j<n->Sz (f i j) 1024):
  CallC Tryz.prog 84 [dV (bi n n f),xq (vS n f),.raw (.int .i64 (i:Int))] ⟨[],.raw (.bool (decide (3*(dd f i*dd f i)<=4*(dd f (i-1)*dd f (i+1)+lam f i (i-1)*lam f i (i-1)))))⟩:=by
 have hl:=EA (j:=i-1) hn hi (by omega) hf;have d0:=BC (k:=i-1) hn (by omega) hf;have d1:=BC (k:=i) hn (by omega) hf;have d2:=BC (k:=i+1) hn (by omega) hf;have c0:=uF n f i (i-1) hn hi (by omega) hf;have c1:=qU n f (i-1) hn (by omega);have c2:=qU n f (i+1) hn (by omega);have c3:=qU n f i hn (by omega);rw[show((i+1:Nat):Int)=(i:Int)+1 by omega]at c2;rw[show((i-1:Nat):Int)=(i:Int)-1 by omega]at c0 c1;have s4:=eA 4 (by omega) (by omega);have s3:=eA 3 (by omega) (by omega);generalize lam f i (i-1)=l at*
 generalize dd f (i-1)=a at*
 generalize dd f (i+1)=b at*
 generalize dd f i=d at*
 have z1:Sz (a*b) 134348800:=(d0.mul d2).mono (by omega);have z2:Sz (l*l) 134348800:=(hl.mul hl).mono (by omega);have z3:Sz (a*b+l*l) 134348801:=z1.add z2;have z4:Sz (4*(a*b+l*l)) 134348802:=(Sz.mul (k9 (k:=1) (by decide) (by omega)) z3).mono (by omega);have z5:Sz (d*d) 134348800:=(d1.mul d1).mono (by omega);have z6:Sz (3*(d*d)) 134348802:=(Sz.mul (k9 (k:=1) (by decide) (by omega)) z5).mono (by omega);have m1:=ib a b (d0.mono (by omega)) (d2.mono (by omega));have m2:=ib l l (hl.mono (by omega)) (hl.mono (by omega));have m3:=qj (a*b) (l*l) (z1.mono (by omega)) (z2.mono (by omega));have m4:=ib 4 (a*b+l*l) (k9 (by decide) (by omega)) (z3.mono (by omega));have m5:=ib d d (d1.mono (by omega)) (d1.mono (by omega));have m6:=ib 3 (d*d) (k9 (by decide) (by omega)) (z5.mono (by omega));have m7:=xu (4*(a*b+l*l)) (3*(d*d)) (z4.mono (by omega)) (z6.mono (by omega));have hge:=O4 (4*(a*b+l*l)) (3*(d*d));refine aS Tryz.func84 rfl Tryz.ntmps84 (aT (k:=bN [⟨4,_,_,_,c0⟩] (k:=df [⟨0,_,_,_,s4⟩,⟨4,_,_,_,c1⟩,⟨8,_,_,_,c2⟩,⟨9,_,_,_,m1⟩,⟨12,_,_,_,m2⟩,⟨13,_,_,_,m3⟩,⟨14,_,_,_,m4⟩] (k:=d6 [⟨1,_,_,_,s3⟩,⟨4,_,_,_,c3⟩,⟨7,_,_,_,c3⟩,⟨8,_,_,_,m5⟩,⟨9,_,_,_,m6⟩,⟨10,_,_,_,m7⟩] hge (k:=aV @Tryz.results84)))))
structure Ww (n:Nat) (f:FF) where
 i:Nat
 hi:i<=n
 ok: ∀a,a<i->(∀b,b<a->SizF f a b)/\(0<a->LovF f a)
structure Wx (n i:Nat) (f:FF) where
 j:Nat
 hj:j<=i
 ok: ∀b,b<j->SizF f i b
theorem Jz (n:Nat) (f:FF) (hn1:1<=n) (hn:n<=16) (hf: ∀i j,i<n->j<n->Sz (f i j) 1024) (r:Bool) (hr:r=true↔Sg f n):
  CallC Tryz.prog 66 [dV (bi n n f)] ⟨[],.raw (.bool r)⟩:=by
 have hL:=lE n f hn1 hn hf;have hml:=aW n n f;refine aS Tryz.func66 rfl Tryz.ntmps66 (aT (k:=fw [⟨1,_,_,_,hL⟩] @Tb.eq_1 (k:=aF (il hml (k:=?_)))));refine aO (G:=Ww n f) (fun g=>⟨(dV (bi n n f)::jk::.raw (.bool false)::xq (vS n f)::j4 (j4 (jk::rN n::rN g.i::j16 (j4 (jk::jk::jk::[]))))),Hm []⟩) (fun g=>n-g.i) ⟨0,by omega,fun a ha=>by omega⟩ ?_ ?_
 ·refine aE trivial ?_;simp[wk]
 rintro⟨i,hi,ok⟩;simp only;by_cases hm:i<n
 ·refine aK (k:=bv rfl (aF (aG (bC (k:=aF (bC (k:=?_)))))));refine aO (G:=Wx n i f) (fun g=>⟨(dV (bi n n f)::jk::.raw (.bool false)::xq (vS n f)::jk::rN i::rN g.j::j4 (jk::jk::rN n::rN i::j16 (j4 (jk::jk::jk::[])))),Hm []⟩) (fun g=>i-g.j) ⟨0,by omega,fun a ha=>by omega⟩ ?_ ?_
  ·refine aE trivial ?_;simp[wk]
  rintro⟨j,hj,okj⟩;simp only;by_cases hm2:j<i
  ·have c1:=FM n f i j hn hm (by omega) hf;by_cases hs:SizF f i j
   ·rw[decide_eq_true (show 2*((lam f i j).natAbs:Int)<=dd f (j+1)from hs)]at c1;refine aF (aK (k:=aR rfl (aH (aF (aG (cb [⟨4,_,_,_,c1⟩] (k:=aJ rfl (aH (bW (k:=?_))))))))));refine⟨⟨j+1,by omega,fun b hb=>?_⟩,by simp only;omega,aE trivial ?_⟩
    ·by_cases e:b=j
     ·subst e;exact hs
     exact okj b (by omega)
    simp[wk]
   have hr0:r=false:=by
    cases r with
    |false=>rfl
    |true=>exact absurd ((hr.1 rfl i hm).1 j hm2) hs
   subst hr0;rw[decide_eq_false (show ¬2*((lam f i j).natAbs:Int)<=dd f (j+1)from hs)]at c1;refine aF (aK (k:=aR rfl (aH (aF (aG (cb [⟨4,_,_,_,c1⟩] (k:=aR rfl (bC (k:=aV @Tryz.results66)))))))))
  have hji:j=i:=by omega
  subst hji;refine aF (aK (k:=aJ rfl (bz ?_)));show bL _ _ _ _;by_cases h0:0<j
  ·have c1:=A1 n f j hn hm h0 hf;by_cases hs:LovF f j
   ·rw[decide_eq_true (show 3*(dd f j*dd f j)<=4*(dd f (j-1)*dd f (j+1)+lam f j (j-1)*lam f j (j-1))from hs)]at c1;refine bN [⟨6,_,_,_,c1⟩] (k:=aJ rfl (aH (bW (k:=?_))));refine⟨⟨j+1,by omega,fun a ha=>?_⟩,by simp only;omega,aE trivial ?_⟩
    ·by_cases e:a=j
     ·subst e;exact⟨okj,fun _=>hs⟩
     exact ok a (by omega)
    simp[wk]
   have hr0:r=false:=by
    cases r with
    |false=>rfl
    |true=>exact absurd ((hr.1 rfl j hm).2 h0) hs
   subst hr0;rw[decide_eq_false (show ¬3*(dd f j*dd f j)<=4*(dd f (j-1)*dd f (j+1)+lam f j (j-1)*lam f j (j-1))from hs)]at c1;refine bN [⟨6,_,_,_,c1⟩] (k:=aR rfl (bC (k:=aV @Tryz.results66)))
  have hj0:j=0:=by omega
  subst hj0;refine aK (k:=aJ rfl (aH (bW (k:=?_))));refine⟨⟨1,by omega,fun a ha=>?_⟩,by simp only;omega,aE trivial ?_⟩
  ·have:a=0:=by omega
   subst this;exact⟨fun b hb=>by omega,fun h=>by omega⟩
  simp[wk]
 have hr1:r=true:=hr.2 fun a ha=>ok a (by omega)
 subst hr1;refine aK (k:=bE rfl (bC (k:=aV @Tryz.results66)))
def rI (z:Int):Prop:= -9223372036854775808<=z/\z<=9223372036854775807
theorem rI.sz {z:Int} (h:rI z) {k:Nat} (hk:2<=k):Sz z k:=by
 have:Sz z 2:=by
  unfold Sz;have:=h.1;have:=h.2;rw[show(4294967296:Nat)^2=18446744073709551616 by decide];omega
 exact this.mono hk
def MI (M:List (List Int)):Prop:= ∀r∈M,∀z∈r,rI z
theorem MI.ent {M:List (List Int)} (h:MI M) (i j:Nat):rI (ent M i j):=by
 simp only[Go.Proofs.YtiollbhgpiiodaaGreatDoor.ent,List.getD_eq_getElem?_getD];cases hr:M[i]? with
 |none=>simp[rI]
 |some r=>
  simp only[Option.getD_some];cases hz:r[j]? with
  |none=>simp[rI]
  |some z=>exact h r (aw hr) z (aw hz)
theorem TN {n c:Nat} {f:FF} (hn:1<=n):Sq (bi n c f)↔n=c:=by
 unfold Sq;rw[aW];have e: ∀i,i<n->((bi n c f).getD i []).length=c:=fun i hi=>by
  rw[List.getD_eq_getElem?_getD,bx _ _ hi,Option.getD_some,bf]
 exact⟨fun h=>by rw[<- e 0 (by omega),h 0 (by omega)],fun h i hi=>by rw[e i hi,h]⟩
theorem uK {f g:FF} {n:Nat} (h: ∀i j,i<n->j<n->f i j=g i j) (hf:RedR f n):RedR g n:=by
 obtain⟨h1,h2,h3,h4⟩:=hf;have ed: ∀k,k<=n->dk g k=dk f k:=fun k hk=>iu fun i j hi hj=>(h i j (by omega) (by omega)).symm
 have eb: ∀t i,t<n->i<n->bk g t i t=bk f t i t:=fun t i ht hi=>by
  have e1:dk (m0 g i t) (t+1)=bk g t i t:=D7 (fun r c hr hc=>by unfold m0;rw[if_pos hr]) (fun c hc=>by unfold m0;rw[if_neg (by omega)]);have e2:dk (m0 f i t) (t+1)=bk f t i t:=D7 (fun r c hr hc=>by unfold m0;rw[if_pos hr]) (fun c hc=>by unfold m0;rw[if_neg (by omega)]);rw[<- e1,<- e2];refine iu fun r c hr hc=>?_
  unfold m0;split
  ·exact(h r c (by omega) (by omega)).symm
  exact(h i c hi (by omega)).symm
 refine⟨fun i hi j hj=>by rw[<- h i j hi hj,<- h j i hj hi];exact h1 i hi j hj,fun k hk=>by rw[ed (k+1) (by omega)];exact h2 k hk,by rw[ed n (by omega)];exact h3,fun t ht=>⟨fun i hi hti=>?_,?_⟩⟩
 ·have:=(h4 t ht).1 i hi hti;rw[ed (t+1) (by omega),eb t i (by omega) hi];exact this
 have:=(h4 t ht).2;unfold OF at*
 rw[ed (t+1) (by omega),ed t (by omega),ed (t+1+1) (by omega),eb t (t+1) (by omega) (by omega)];exact this
theorem qm {n c:Nat} {f:FF} (hn1:1<=n):Sf (bi n c f)↔n=c/\n<=8/\RedR f n:=by
 unfold Sf;rw[aW,TN hn1];constructor
 ·rintro⟨_,h8,rfl,hr⟩;exact⟨rfl,h8,uK (fun i j hi hj=>zz f hi hj) hr⟩
 rintro⟨rfl,h8,hr⟩;exact⟨hn1,h8,rfl,uK (fun i j hi hj=>(zz f hi hj).symm) hr⟩
theorem tg (M:List (List Int)) (hM:MI M):CallC Tryz.prog 34 [dj M] ⟨[],.raw (.bool (b8 M))⟩:=by
 have hr:=fk M;generalize b8 M=r at*
 by_cases hS:Dp M
 ·obtain⟨n,c,f,rfl,hn1,hn,hc1,hc,hf⟩: ∃n c f,M=bi n c f/\1<=n/\n<=16/\1<=c/\c<=16/\ ∀i j:Nat,rI (f i j):=by
   have h0:=je (M:=M) hS.1;have hh:=hS.2.2 _ (aw h0);exact⟨M.length,(M.headD []).length,ent M,FK hS,hS.1,hS.2.1,hh.1,hh.2.1,fun i j=>hM.ent i j⟩
  rw[qm hn1]at hr;have hF:=uC n c f hn1 hn hc1 hc (fun i j _ _=>hf i j);obtain⟨e,he,hV⟩:=pz n c f hn1 hn hc1 hc (fun i j _ _=>(hf i j).sz (by omega));by_cases h1:e=0
  ·obtain⟨rfl,h8,hs,hp⟩:=he.1 h1;subst h1;have hD:=C2 n f hn1 hn (fun i j _ _=>(hf i j).sz (by omega));by_cases h2:detF n f<=10000
   ·rw[decide_eq_true h2]at hD;have hR:=Jz n f hn1 hn (fun i j _ _=>(hf i j).sz (by omega)) r (by
     rw[hr,<- un hn1];exact⟨fun h=>h.2.2.2.2.2,fun h=>⟨rfl,h8,hs,hp,h2,h⟩⟩)
    refine aS Tryz.func34 rfl Tryz.ntmps34 (aT (k:=fw [⟨1,_,_,_,hF⟩] @Po.eq_1 (k:=bN [⟨3,_,_,_,hV⟩,⟨8,_,_,_,hD⟩,⟨12,_,_,_,hR⟩] (k:=aV @Tryz.results34))))
   have hr0:r=false:=by
    cases r with
    |false=>rfl
    |true=>exact absurd ((un hn1).2 (hr.1 rfl).2.2).2.2.1 h2
   subst hr0;rw[decide_eq_false h2]at hD;refine aS Tryz.func34 rfl Tryz.ntmps34 (aT (k:=fw [⟨1,_,_,_,hF⟩] @Po.eq_1 (k:=bN [⟨3,_,_,_,hV⟩,⟨8,_,_,_,hD⟩] (k:=aV @Tryz.results34))))
  have hr0:r=false:=by
   cases r with
   |false=>rfl
   |true=>
    obtain⟨g1,g2,g3⟩:=hr.1 rfl;subst g1;obtain⟨g4,g5,_⟩:=(un hn1).2 g3;exact absurd (he.2 ⟨rfl,g2,g4,g5⟩) h1
  subst hr0;refine aS Tryz.func34 rfl Tryz.ntmps34 (aT (k:=fw [⟨1,_,_,_,hF⟩] @Po.eq_1 (k:=bN [⟨3,_,_,_,hV⟩] (k:=aV @Tryz.results34))))
 have hF:=AX M hS;have hr0:r=false:=by
  cases r with
  |false=>rfl
  |true=>
   obtain⟨g1,g2,g3,_⟩:=hr.1 rfl;refine absurd ⟨g1,by omega,fun x hx=>?_⟩ hS;obtain⟨i,hi⟩:=List.mem_iff_getElem?.1 hx;have hl: ∀(i:Nat) x,M[i]?=some x->x.length=M.length:=fun i x hi=>by
    have:=g3 i (List.getElem?_eq_some_iff.1 hi).1;rwa[List.getD_eq_getElem?_getD,hi]at this
   rw[rOk,hl i x hi,hl 0 _ (je g1)];omega
 subst hr0;refine aS Tryz.func34 rfl Tryz.ntmps34 (aT (k:=fw [⟨1,_,_,_,hF⟩] @S1.eq_1 (k:=aK (k:=aV @Tryz.results34))))
structure Wo (x:List Int) where
 i:Nat
 hi:i<=x.length
 ok: ∀j c,j<i->x[j]?=some c-> -1099511627776<=c/\c<=1099511627776
theorem LM (x:List Int):CallC Tryz.prog 106 [jL x] ⟨[],.raw (.bool (uE x))⟩:=by
 refine Ir 0 (ls fI x) rfl (fun hlen=>?_) (by kernel_rfl);rw[fD]at hlen;refine aS Tryz.func106 rfl Tryz.ntmps106 (aT (k:=aF (bC (k:=?_))));refine aO (G:=Wo x) (fun g=>⟨(jk::jk::.raw (.bool false)::jk::jk::jL x::rN x.length::rN g.i::j4 (j4 (jk::jk::[]))),Hm []⟩) (fun g=>x.length-g.i) ⟨0,by omega,fun j c hj=>by omega⟩ ?_ ?_
 ·refine aE trivial ?_;simp[wk]
 rintro⟨i,hi,ok⟩;simp only;by_cases hm:i<x.length
 ·obtain⟨c,hc⟩:=getElem?_of_lt hm;refine aK (k:=bv rfl (aF (aG (aX hc (k:=?_)))));by_cases h1:c< -1099511627776
  ·rw[oq hc (.inl h1)];refine aK (k:=aR rfl (bC (k:=aV @Tryz.results106)))
  by_cases h2:1099511627776<c
  ·rw[oq hc (.inr h2)];refine aK (k:=aR rfl (bC (k:=aV @Tryz.results106)))
  refine aK (k:=aJ rfl (aH (bW (k:=?_))));refine⟨⟨i+1,by omega,yM ok hc (by omega)⟩,by simp only;omega,aE trivial ?_⟩;simp[wk]
 rw[AZ (k:=i) (by omega) ok];refine aK (k:=bE rfl (bC (k:=aV @Tryz.results106)))
theorem AR (x:List Int) (hx:x.length<=16) (hI: ∀z∈x,rI z):CallC Tryz.prog 135 [jL x] ⟨[],xq x⟩:=by
 refine aS Tryz.func135 rfl Tryz.ntmps135 (aT (k:=bC (k:=aF (bC (k:=?_)))));refine aO (G:=Vc x.length) (fun g=>⟨(jk::jk::.raw (.slice none 0 0)::.one (.sl 16 0 0 g.i)::jk::jk::jL x::rN x.length::rN g.i::j4 (j4 (jk::jk::[]))),Hm [(16,[⟨32,2,lc fZ (x.take g.i)⟩])]⟩) (fun g=>x.length-g.i) ⟨0,by omega⟩ ?_ ?_
 ·refine(dx (k:=3) (d:=16) 32 2 (by omega) rfl rfl).trans (aE ⟨rfl,trivial⟩ ?_);simp[wk]
 rintro⟨i,hi⟩;simp only;by_cases hm:i<x.length
 ·obtain⟨c,hc⟩:=getElem?_of_lt hm;have hcI:=hI c (aw hc);have c1:=eA c hcI.1 hcI.2;have eL:(x.take i).length=i:=by simp;omega
  have eS:x.take i++[c]=x.take (i+1):=by rw[List.take_add_one,hc];rfl
  refine aK (k:=bv rfl (aF (aG (aX hc (k:=yW [⟨2,_,_,_,c1⟩] (aP eL (aP @nF eS)) (k:=bW (k:=?_)))))));refine⟨⟨i+1,by omega⟩,by simp only;omega,aE ⟨rfl,trivial⟩ ?_⟩;simp[wk]
 have hin:i=x.length:=by omega
 subst hin;refine aK (k:=bE rfl (bC (k:=?_)));refine bA ⟨.inr rfl,fo 16 (bQ rfl) ?_ rfl⟩;simp(disch:=omega) only[kd,Tryz.results135,List.take_length,xq]
theorem mb {x y:List Int} {b c:Nat} (hx: ∀i,Sz (x.getD i 0) b) (hy: ∀i,Sz (y.getD i 0) c): ∀l,Sz (dE x y l) (b+c+l)
 |0=>pf _
 |l+1=>by
  show Sz (dE x y l+x.getD l 0*y.getD l 0) _;exact(mb hx hy l).add (((hx l).mul (hy l)).mono (by omega))
theorem gu {x:List Int} {b:Nat} (h: ∀z∈x,Sz z b) (i:Nat):Sz (x.getD i 0) b:=by
 rw[List.getD_eq_getElem?_getD];cases hx:x[i]? with
 |none=>exact pf _
 |some z=>exact h z (aw hx)
theorem FH (x y:List Int) (hx:x.length<=16) (hxy:x.length<=y.length) (sx: ∀z∈x,Sz z 16777216) (sy: ∀z∈y,Sz z 67108864):CallC Tryz.prog 117 [xq x,xq y] ⟨[],tZ (dE x y x.length)⟩:=by
 refine aS Tryz.func117 rfl Tryz.ntmps117 (aT (k:=aK (k:=aF (bC (k:=?_)))));refine aO (G:=Vc x.length) (fun g=>⟨(xq x::xq y::jk::jk::.one (.ptr 4 0 0 0)::.one (.ptr 5 0 0 0)::jk::jk::jk::rN x.length::rN g.i::j4 (j4 (j4 (jk::jk::jk::[])))),Hm [(4,tn),(5,qx (dE x y g.i))]⟩) (fun g=>x.length-g.i) ⟨0,by omega⟩ ?_ ?_
 ·refine(gR 5).trans (aE ⟨rfl,?_,trivial⟩ ?_)
  ·show _=qx 0;simp[zH,be,zO,Dm,Dv,qx,tU,cx,ls]
  simp[wk]
 rintro⟨i,hi⟩;simp only;have hs:=mb (gu sx) (gu sy) i;by_cases hm:i<x.length
 ·obtain⟨a,ha⟩:=getElem?_of_lt hm;obtain⟨b,hb⟩:=getElem?_of_lt (l:=y) (k:=i) (by omega);have za:=sx a (aw ha);have zb:=sy b (aw hb);have c1:=ib a b (za.mono (by omega)) (zb.mono (by omega));have c2:=qj (dE x y i) (a*b) (hs.mono (by omega)) ((za.mul zb).mono (by omega));have e1:dE x y i+a*b=dE x y (i+1):=by
   show _=dE x y i+x.getD i 0*y.getD i 0;rw[List.getD_eq_getElem?_getD,List.getD_eq_getElem?_getD,ha,hb];rfl
  rw[e1]at c2;refine aK (k:=bv rfl (aF (aG (bC (k:=f5 [⟨9,_,_,_,c1⟩,⟨10,_,_,_,c2⟩] (aP ha hb) (k:=bW (k:=?_)))))));refine⟨⟨i+1,by omega⟩,by simp only;omega,aE ⟨rfl,rfl,trivial⟩ ?_⟩;simp[wk]
 have hin:i=x.length:=by omega
 subst hin;refine aK (k:=bE rfl (aK (k:=aV @Tryz.results117)))
abbrev Dq (n c:Nat) (f:FF) (y:List Int):List Int:=bj n fun i=>dE (bj c (f i)) y c
theorem Oz (n c:Nat) (f:FF) (y:List Int) (hn1:1<=n) (hn:n<=16) (hc1:1<=c) (hc:c<=16) (hy:y.length=c) (hf: ∀i j:Nat,Sz (f i j) 1024) (sy: ∀z∈y,Sz z 65536):
  CallC Tryz.prog 152 [dV (bi n c f),xq y] ⟨[],.tup [(false,[.p (.sl (ls fZ (Dq n c f y)))]),(false,[.p (.raw (.bool true))])]⟩:=by
 have hS:=ot (bi n c f);rw[iE (mu f hn1 hn hc1 hc),aW,ji f hn1]at hS;have hml:=aW n c f;refine aS Tryz.func152 rfl Tryz.ntmps152 (aT (k:=cb [⟨1,_,_,_,hS⟩] (k:=aF (aK (k:=aJ rfl (aH (bC (k:=aF (il hml (k:=?_))))))))));refine aO (G:=iJ n) (fun g=>⟨(jk::xq y::jk::jk::.raw (.slice none 0 0)::.raw (.bool false)::jk::jk::jk::.one (.sl 37 0 0 g.i)::j16 (dV (bi n c f)::rN n::rN g.i::j4 (j4 (jk::jk::jk::[])))),Hm [(37,[⟨32,2,lc fZ (Dq g.i c f y)⟩])]⟩) (fun g=>n-g.i) ⟨0,by omega⟩ ?_ ?_
 ·refine(dx (k:=9) (d:=37) 32 2 (by omega) rfl rfl).trans (aE ⟨rfl,trivial⟩ ?_);simp[wk]
 rintro⟨i,hi⟩;simp only;by_cases hm:i<n
 ·have hrow:=bx c f hm;have c1:=FH (bj c (f i)) y (by rw[bf];omega) (by rw[bf];omega) (fun z hz=>by
   obtain⟨j,_,rfl⟩:=List.mem_map.1 hz;exact(hf i j).mono (by omega)) (fun z hz=>(sy z hz).mono (by omega))
  rw[bf]at c1;have e1:lc fZ (Dq i c f y)++[[.p (.raw (.bool (decide (dE (bj c (f i)) y c<0)))),.p (.sl (ls fU (aL (dE (bj c (f i)) y c).natAbs)))]]=lc fZ (Dq (i+1) c f y):=by
   rw[nF,Dq,Dq,o7 i]
  refine aK (k:=bv rfl (aF (aG (aX hrow (k:=yW [⟨3,_,_,_,c1⟩] (aP @bf e1) (k:=bW (k:=?_)))))));refine⟨⟨i+1,by omega⟩,by simp only;omega,aE ⟨rfl,trivial⟩ ?_⟩;simp[wk]
 have hin:i=n:=by omega
 subst hin;refine aK (k:=bE rfl (bC (k:=?_)));refine bA ⟨.inr rfl,fo 37 (bQ rfl) ?_ rfl⟩;have eT:List.take i (Dq i c f y)=Dq i c f y:=List.take_of_length_le (by rw[bf];omega);simp(disch:=omega) only[kd,Tryz.results152,eT]
abbrev JT (v:Int) (b:Bool):TV:= .tup [(false,[.p (.raw (.int .i64 v))]),(false,[.p (.raw (.bool b))])]
def Uj (z:Int):TV:=if -4611686018427387904<=z/\z<=4611686018427387904 then JT z true else JT 0 false
def IU (M:List (List Int)) (x y:List Int):TV:=if lC M x=true/\FitB M.length y=true then Uj (dE x (dN M y) x.length)else JT 0 false
theorem DW {n:Nat} {f:FF} {y:List Int} (hr:b8 (bi n n f)=true) (hy:uE y=true):dN (bi n n f) y=Dq n n f y:=by
 have hs:=gy hr;have h8:=hs.2.1;rw[aW]at h8;apply List.ext_getElem?;intro i;rw[dN,az];by_cases hi:i<n
 ·rw[bx _ _ hi,aQ _ hi];simp only[Option.map_some,bf];exact congrArg some (pD (hs.row_bd (bx _ _ hi)) (fun i z hz=>jZ hy hz) n h8).1
 rw[ar (by rw[aW];omega),ar (by rw[bf];omega)];rfl
theorem vH (M:List (List Int)) (x y:List Int): ∃v b,IU M x y=JT v b/\jw M x y= .tuple #[.int .i64 v,.bool b]:=by
 unfold IU jw;split
 ·unfold Uj vq;split
  ·exact⟨_,_,rfl,rfl⟩
  exact⟨_,_,rfl,rfl⟩
 exact⟨_,_,rfl,rfl⟩
theorem Uw (a b:Int) (hb0:b≠0) (ha:Bh a) (hb:Bh b):CallC Tryz.prog 160 [tZ a,tZ b] ⟨[],tZ (a%b)⟩:=by
 have h1:=AU a b hb0 ha hb;refine aS Tryz.func160 rfl Tryz.ntmps160 (aT (k:=bN [⟨2,_,_,_,h1⟩] (k:=aK (k:=aV @Tryz.results160))))
structure Wi (a b:Int) where
 x:Int
 y:Int
 hx:0<=x
 hy:0<=y
 hg:Int.gcd x y=Int.gcd a b
 sx:Bh x
 sy:Bh y
theorem LC {x y:Int} (hx:0<=x) (hy:0<=y):Int.gcd y (x%y)=Int.gcd x y:=by
 obtain⟨m,rfl⟩:=Int.eq_ofNat_of_zero_le hx;obtain⟨n,rfl⟩:=Int.eq_ofNat_of_zero_le hy;show Nat.gcd n (m%n)=Nat.gcd m n;rw[Nat.gcd_comm n,<- Nat.gcd_rec,Nat.gcd_comm]
theorem Up (a b:Int) (ha:Bh a) (hb:Bh b):CallC Tryz.prog 153 [tZ a,tZ b] ⟨[],tZ (Int.gcd a b:Nat)⟩:=by
 have c1:=KG a ha.bg;have c2:=KG b hb.bg;refine aS Tryz.func153 rfl Tryz.ntmps153 (aT (k:=df [⟨1,_,_,_,c1⟩,⟨3,_,_,_,c2⟩] (k:=?_)));refine aF (aO (G:=Wi a b) (fun g=>⟨(j4 (.one (.ptr 4 0 0 0)::.one (.ptr 5 0 0 0)::.one (.ptr 6 0 0 0)::j4 (j4 (j4 ([]))))),Hm [(4,tn),(5,qx g.x),(6,qx g.y)]⟩) (fun g=>g.y.natAbs) ⟨a.natAbs,b.natAbs,by omega,by omega,by simp;rfl,ha.le (by omega),hb.le (by omega)⟩ ?_ ?_)
 ·refine aE ⟨rfl,rfl,rfl,trivial⟩ ?_;simp[wk]
 rintro⟨x,y,hx,hy,hg,sx,sy⟩;simp only;have cs:=kt y sy.bg;by_cases h0:y=0
 ·subst h0;refine aF (dr [⟨1,_,_,_,cs⟩] @uw (k:=aJ rfl (bz ?_)));show bL _ _ _ _;have e:((Int.gcd a b:Nat):Int)=x:=by rw[<- hg,Int.gcd_zero_right];omega
  rw[e];refine aK (k:=aV @Tryz.results153)
 have hs:=CY h0;have cr:=Uw x y h0 sx sy;have hlt:=Int.emod_lt_of_pos x (show 0<y by omega);have hnn:=Int.emod_nonneg x h0;refine aF (bN [⟨1,_,_,_,cs⟩] (k:=aR rfl (aH (aG (Sj [⟨3,_,_,_,cr⟩] (k:=?_))))));refine⟨⟨y,x%y,hy,hnn,by rw[LC hx hy,hg],sy,sy.le (by omega)⟩,by simp only;omega,aE ⟨rfl,by simp[be,Hm,Int.not_lt.2 hy],by simp[be,Hm,Int.not_lt.2 hnn],trivial⟩ ?_⟩;simp[wk]
def cR (n d:Int):List AV:=[.p (.raw (.bool (decide (n<0)))),.p (.sl (ls fU (aL n.natAbs))),.p (.raw (.bool (decide (d<0)))),.p (.sl (ls fU (aL d.natAbs)))]
def nN (n d:Int):Int:=n/(Int.gcd n d:Nat)
def nD (n d:Int):Int:=d/(Int.gcd n d:Nat)
theorem nB {n d:Int} (hd:0<d):0<Int.gcd n d:=Int.gcd_pos_of_ne_zero_right n (by omega)
theorem EK {n d:Int}:nN n d*(Int.gcd n d:Nat)=n:=Int.ediv_mul_cancel (Int.gcd_dvd_left n d)
theorem Aa {n d:Int}:nD n d*(Int.gcd n d:Nat)=d:=Int.ediv_mul_cancel (Int.gcd_dvd_right n d)
theorem pU {n d:Int} (hd:0<d):0<nD n d:=by
 have h:=Aa (n:=n) (d:=d);have hg:=nB (n:=n) hd;rcases Int.lt_or_le 0 (nD n d)with h'|h'
 ·exact h'
 have:=Int.mul_nonpos_of_nonpos_of_nonneg h' (show(0:Int)<=(Int.gcd n d:Nat) by omega);omega
theorem GP {n d:Int} (hd:0<d):nN n d/nD n d=n/d:=by
 have hg:=nB (n:=n) hd;have:nN n d*(Int.gcd n d:Nat)/(nD n d*(Int.gcd n d:Nat))=nN n d/nD n d:=Int.mul_ediv_mul_of_pos_left _ _ (by omega);rw[EK,Aa]at this;exact this.symm
theorem yh {n d:Int} {k:Nat} (h:Sz n k):Sz (nN n d) k:=h.ediv _
theorem yg {n d:Int} {k:Nat} (h:Sz d k):Sz (nD n d) k:=h.ediv _
theorem Rq (n d:Int) (hd0:0<d) (hn:Bh n) (hd:Bh d):CallC Tryz.prog 139 [tZ n,tZ d] ⟨[],.tup [(true,cR (nN n d) (nD n d)),(false,[.p (.raw (.bool true))])]⟩:=by
 have c1:=kt d hd.bg;rw[E5 hd0]at c1;have c2:=Up n d hn hd;have hg:=nB (n:=n) hd0;have sg:Bh (Int.gcd n d:Nat):=hd.le (by
  have:=Nat.le_of_dvd (by omega) (Int.gcd_dvd_natAbs_right n d);omega)
 have c3:=uI n (Int.gcd n d:Nat) (by omega) hn sg;have c4:=uI d (Int.gcd n d:Nat) (by omega) hd sg;rw[show n/(Int.gcd n d:Nat)=nN n d from rfl]at c3;rw[show d/(Int.gcd n d:Nat)=nD n d from rfl]at c4;generalize((Int.gcd n d:Nat):Int)=g at*
 generalize nN n d=n' at*
 generalize nD n d=d' at*
 refine aS Tryz.func139 rfl Tryz.ntmps139 (aT (k:=aF (bN [⟨1,_,_,_,c1⟩] (k:=aJ rfl (aH (aF (bN [⟨1,_,_,_,c1⟩] (k:=aJ rfl (aH (bN [⟨2,_,_,_,c2⟩] (k:=df [⟨2,_,_,_,c3⟩,⟨5,_,_,_,c4⟩] (k:=aV (aP @Tryz.results139 @cR.eq_1)))))))))))))
theorem jF (n d:Int) (hd0:0<d) (hn:Bh n) (hd:Bh d):CallC Tryz.prog 115 [tR n d] ⟨[],tR (nN n d) (nD n d)⟩:=by
 have c1:=Rq n d hd0 hn hd;generalize nN n d=n' at*
 generalize nD n d=d' at*
 refine aS Tryz.func115 rfl Tryz.ntmps115 (aT (k:=dr [⟨4,_,_,_,c1⟩] @cR.eq_1 (k:=aF (bC (k:=aJ rfl (aH (aK (k:=aV @Tryz.results115))))))))
theorem R9:CallC Tryz.prog 114 [] ⟨[],tR 1 2⟩:=by
 have c1:=eA 1 (by omega) (by omega);have c2:=eA 2 (by omega) (by omega);refine aS Tryz.func114 rfl Tryz.ntmps114 (aT (k:=bN [⟨0,_,_,_,c1⟩,⟨1,_,_,_,c2⟩] (k:=aV @Tryz.results114)))
theorem OA (n d:Int) (hd0:0<d) (hn:Bh n) (hd:Bh d):CallC Tryz.prog 112 [tR n d] ⟨[],tZ (n/d)⟩:=by
 have c1:=jF n d hd0 hn hd;have c2:=uI (nN n d) (nD n d) (by have:=pU (n:=n) hd0;omega) (yh hn) (yg hd);rw[GP hd0]at c2;generalize nN n d=n' at*
 generalize nD n d=d' at*
 refine aS Tryz.func112 rfl Tryz.ntmps112 (aT (k:=bN [⟨1,_,_,_,c1⟩] (k:=bN [⟨4,_,_,_,c2⟩] (k:=aV @Tryz.results112))))
abbrev VL:List OObj:=[⟨122,4,[[.raw (.bool false),.raw (.slice none 0 0),.raw (.bool false),.raw (.slice none 0 0)]]⟩]
abbrev Wc (n d:Int):List OObj:=[⟨122,4,[[.p (.raw (.bool (decide (n<0)))),.p (.sl (ls fU (aL n.natAbs))),.p (.raw (.bool false)),.p (.sl (ls fU (aL d.natAbs)))]]⟩]
theorem RV (a b c d:Int) (hb0:0<b) (hd0:0<d) (ha:Sz a 100000000) (hb:Sz b 100000000) (hc:Sz c 100000000) (hd:Sz d 100000000):
  CallC Tryz.prog 113 [tR a b,tR c d] ⟨[],tR (nN (nN a b*nD c d+nN c d*nD a b) (nD a b*nD c d)) (nD (nN a b*nD c d+nN c d*nD a b) (nD a b*nD c d))⟩:=by
 have c1:=jF a b hb0 (ha.mono (by omega)) (hb.mono (by omega));have c2:=jF c d hd0 (hc.mono (by omega)) (hd.mono (by omega));have sx:Sz (nN a b) 100000000:=yh ha;have sy:Sz (nD a b) 100000000:=yg hb;have su:Sz (nN c d) 100000000:=yh hc;have sv:Sz (nD c d) 100000000:=yg hd;have py:=pU (n:=a) hb0;have pv:=pU (n:=c) hd0;generalize nN a b=x at*
 generalize nD a b=y at*
 generalize nN c d=u at*
 generalize nD c d=v at*
 have z1:Sz (x*v) 200000000:=(sx.mul sv).mono (by omega);have z2:Sz (u*y) 200000000:=(su.mul sy).mono (by omega);have z3:Sz (x*v+u*y) 200000001:=z1.add z2;have z4:Sz (y*v) 200000000:=(sy.mul sv).mono (by omega);have m1:=ib x v (sx.mono (by omega)) (sv.mono (by omega));have m2:=ib u y (su.mono (by omega)) (sy.mono (by omega));have m3:=qj (x*v) (u*y) (z1.mono (by omega)) (z2.mono (by omega));have m4:=ib y v (sy.mono (by omega)) (sv.mono (by omega));have m5:=Rq (x*v+u*y) (y*v) (Int.mul_pos py pv) (z3.mono (by omega)) (z4.mono (by omega));generalize nN (x*v+u*y) (y*v)=rn at*
 generalize nD (x*v+u*y) (y*v)=rd at*
 refine aS Tryz.func113 rfl Tryz.ntmps113 (aT (k:=df [⟨1,_,_,_,c1⟩,⟨3,_,_,_,c2⟩] (k:=?_)));refine bL.weak (aE (tm:=(j4 (.one (.ptr 4 0 0 0)::.one (.ptr 5 0 0 0)::.one (.ptr 6 0 0 0)::j16 (j4 (j4 (jk::jk::jk::[])))))) (l:=[(4,VL),(5,Wc x y),(6,Wc u v)]) ⟨rfl,rfl,rfl,trivial⟩ (by simp[wk])) ?_;refine d6 [⟨4,_,_,_,m1⟩,⟨9,_,_,_,m2⟩,⟨10,_,_,_,m3⟩,⟨15,_,_,_,m4⟩,⟨16,_,_,_,m5⟩] @cR.eq_1 (k:=aK (k:=aV @Tryz.results113))
theorem PR {p q:Int} (hq:0<q):nN (nN p q*nD 1 2+nN 1 2*nD p q) (nD p q*nD 1 2)/nD (nN p q*nD 1 2+nN 1 2*nD p q) (nD p q*nD 1 2)=(2*p+q)/(2*q):=by
 have e1:nN 1 2=1:=by decide
 have e2:nD 1 2=2:=by decide
 have hp:=pU (n:=p) hq;rw[e1,e2,GP (by omega)];have hg:=nB (n:=p) hq;have a1:=EK (n:=p) (d:=q);have a2:=Aa (n:=p) (d:=q);have:(nN p q*2+1*nD p q)*(Int.gcd p q:Nat)/((nD p q*2)*(Int.gcd p q:Nat))=(nN p q*2+1*nD p q)/(nD p q*2):=Int.mul_ediv_mul_of_pos_left _ _ (by omega);rw[<- this]
 congr 1
 ·rw[Int.add_mul,Int.one_mul,Int.mul_right_comm,a1,a2];omega
 rw[Int.mul_right_comm,a2];omega
theorem HW (p q:Int) (hq0:0<q) (hp:Sz p 100000000) (hq:Sz q 100000000):CallC Tryz.prog 80 [tR p q] ⟨[],tZ ((2*p+q)/(2*q))⟩:=by
 have c2:=RV p q 1 2 hq0 (by omega) hp hq (mJ (by omega)) (k9 (by decide) (by omega));have hx:Sz (nN p q) 100000000:=yh hp;have hy:Sz (nD p q) 100000000:=yg hq;have hyp:=pU (n:=p) hq0;have e1:nN 1 2=1:=by decide
 have e2:nD 1 2=2:=by decide
 have z2:Sz (2:Int) 1:=k9 (by decide) (by omega);have zn:Sz (nN p q*nD 1 2+nN 1 2*nD p q) 100000002:=by
  rw[e1,e2];refine Sz.add (k:=100000001) ((hx.mul z2).mono (by omega)) ?_;rw[Int.one_mul];exact hy.mono (by omega)
 have zd:Sz (nD p q*nD 1 2) 100000001:=by rw[e2];exact(hy.mul z2).mono (by omega)
 have c3:=OA (nN (nN p q*nD 1 2+nN 1 2*nD p q) (nD p q*nD 1 2)) (nD (nN p q*nD 1 2+nN 1 2*nD p q) (nD p q*nD 1 2)) (pU (by rw[e2];omega)) ((yh zn).mono (by omega)) ((yg zd).mono (by omega));rw[PR hq0]at c3;generalize nN (nN p q*nD 1 2+nN 1 2*nD p q) (nD p q*nD 1 2)=rn at*
 generalize nD (nN p q*nD 1 2+nN 1 2*nD p q) (nD p q*nD 1 2)=rd at*
 have c1:=R9;refine aS Tryz.func80 rfl Tryz.ntmps80 (aT (k:=df [⟨1,_,_,_,c1⟩,⟨2,_,_,_,c2⟩,⟨3,_,_,_,c3⟩] (k:=aV @Tryz.results80)))
theorem uJ (p q:Int) (hq0:0<q) (hp:Bh p) (hq:Bh q):CallC Tryz.prog 81 [tZ p,tZ q] ⟨[],tR (nN p q) (nD p q)⟩:=by
 have c1:=jF p q hq0 hp hq;generalize nN p q=n' at*
 generalize nD p q=d' at*
 refine aS Tryz.func81 rfl Tryz.ntmps81 (aT (k:=bN [⟨3,_,_,_,c1⟩] (k:=aV @Tryz.results81)))
def qF (l d:Int):Int:=(2*l+d)/(2*d)
theorem VS {l d:Int} (hd:0<d):(2*nN l d+nD l d)/(2*nD l d)=qF l d:=by
 have hg:=nB (n:=l) hd;have a1:=EK (n:=l) (d:=d);have a2:=Aa (n:=l) (d:=d);have:(2*nN l d+nD l d)*(Int.gcd l d:Nat)/((2*nD l d)*(Int.gcd l d:Nat))=(2*nN l d+nD l d)/(2*nD l d):=Int.mul_ediv_mul_of_pos_left _ _ (by omega);rw[<- this,qF]
 congr 1
 ·rw[Int.add_mul,Int.mul_assoc,a1,a2]
 rw[Int.mul_assoc,a2]
end Go.Proofs.YtiollbhgpiiodaaGreatDoor
