/-
  Part 14 of a proof (walks and plain facts).
-/
import Derived.Test.YtiollbhgpiiodaaGreatDoorP12
set_option linter.all false
set_option maxRecDepth 100000
set_option maxHeartbeats 64000000
open Nat renaming reduceAdd → aa
open Nat renaming reduceEqDiff → ae
open List renaming replicate → ag
open Nat renaming reduceBEq → ah
open Nat renaming reduceLeDiff → aj
open List renaming mem_of_getElem? → ax
namespace Go.Proofs.YtiollbhgpiiodaaGreatDoor
open Go.RowKit
theorem jv {z:Int} {k:Nat} (h:z.natAbs<4294967296) (hk:1<=k):Sz z k:=by
 have:Sz z 1:=by unfold Sz;simpa using h
 exact this.mono hk
theorem x8 (k:Nat):Sz 0 k:=by unfold Sz;exact Nat.pow_pos (by omega)
theorem OD {n p k b:Nat} {g:FF} (hp:p<n) (hk:k<n) (h: ∀i j,i<n->j<n->Sz (g i j) b): ∀i j,i<n->j<n->Sz (swp p k g i j) b:=fun i j hi hj=>by
 unfold swp;split
 ·exact h k j hk hj
 split
 ·exact h p j hp hj
 exact h i j hi hj
theorem Ob {n k b:Nat} {g:FF} (last:Int) (hk:k<n) (h: ∀i j,i<n->j<n->Sz (g i j) b): ∀i j,i<n->j<n->Sz (MP k last g i j) (2*b+1):=fun x y hx hy=>by
 unfold MP;split
 ·exact((((h k k hk hk).mul (h x y hx hy)).sub ((h x k hx hk).mul (h k y hk hy))).ediv last).mono (by omega)
 exact(h x y hx hy).mono (by omega)
theorem C3 {n:Nat} (hn:n<=16): ∀m k g last neg b,n-k=m->k<=n->(∀i j,i<n->j<n->Sz (g i j) b)->Sz last b->b+1<=1025*2^k->Sz (detG n k g last neg) 67174400
 |0,k,g,last,neg,b,hm,hk,hg,hl,hb=>by
  have h2k:=kB (k:=k) (by omega);rw[detG,if_neg (by omega)];split
  ·exact hl.neg.mono (by omega)
  exact hl.mono (by omega)
 |m+1,k,g,last,neg,b,hm,hk,hg,hl,hb=>by
  rw[detG,if_pos (by omega)];split
  ·exact x8 _
  rename_i hp;have hpl:=BU (f:=g) (n:=n) (k:=k) (n-k) k rfl;have hs:=OD (p:=piv g n k k) (k:=k) (by omega) (by omega) hg;exact C3 hn m (k+1) _ _ _ (2*b+1) (by omega) (by omega) (Ob last (by omega) hs) ((hs k k (by omega) (by omega)).mono (by omega)) (by rw[Nat.pow_succ];omega)
theorem o7 {n:Nat} {f:FF} (hn:n<=16) (hf: ∀i j,i<n->j<n->Sz (f i j) 1024):Sz (detF n f) 67174400:=
 C3 hn n 0 f 1 false 1024 rfl (by omega) hf (oN (by omega)) (by omega)
theorem jm {n c:Nat} (f:FF) (h:1<=n):((bx n c f).headD []).length=c:=by
 have:=ms (M:=bx n c f) (by rw[bi];omega);rw[bD _ _ (by omega)]at this;injection this with this
 rw[<- this,bE]
theorem pf {n c:Nat} (f:FF) (hn1:1<=n) (hn:n<=16) (hc1:1<=c) (hc:c<=16):CI (bx n c f):=by
 refine⟨by rw[bi];omega,by rw[bi];omega,fun r hr=>?_⟩;obtain⟨i,hi⟩:=List.mem_iff_getElem?.1 hr;have hin:i<n:=by
  have:=(List.getElem?_eq_some_iff.1 hi).1;rwa[bi]at this
 rw[bD _ _ hin]at hi;injection hi with hi
 rw[<- hi,rOk,bE,jm f hn1];omega
theorem Ki {M:List (List Int)} (h:CI M):M=bx M.length (M.headD []).length (ent M):=xA fun r hr=>(h.2.2 r hr).2.2
theorem DQ {n:Nat} (f:FF) (hn1:1<=n) (hn:n<=16):MW (bx n n f)= .tup [(false,[.p (.raw (.int .i64 (n:Int)))]),(false,[.p (.raw (.bool true))])]:=by
 have h:PL (bx n n f):=⟨pf f hn1 hn hn1 hn,by rw[bi,jm f hn1]⟩;unfold MW;rw[if_pos h,bi]
theorem Ov {n c:Nat} (f:FF) (hn1:1<=n) (h:n≠c):MW (bx n c f)= .tup [(false,[.p (.raw (.int .i64 0))]),(false,[.p (.raw (.bool false))])]:=by
 unfold MW;rw[if_neg];intro hs;have:=hs.2;rw[bi,jm f hn1]at this;exact h this
abbrev Au (n:Nat) (f:FF):List Int:=bT n fun k=>detF (k+1) f
def PQ (n:Nat) (f:FF):TV:= .tup [(false,[.p (.sl (ls fZ (Au n f)))]),(false,[.p (.raw (.bool true))])]
theorem IV (k:Nat) (f:FF):((List.range (k+1)).map fun i=>(List.range (k+1)).map (f i))=bx (k+1) (k+1) f:=rfl
theorem vg (n:Nat) (f:FF) (hn1:1<=n) (hn:n<=16) (hf: ∀i j,i<n->j<n->Sz (f i j) 1024):CallC Tryz.prog 78 [bJ (bx n n f)] ⟨[],PQ n f⟩:=by
 have hSq:=yr (bx n n f);rw[DQ f hn1 hn]at hSq;refine aJ Tryz.func78 rfl (by kernel_rfl) ?_;rw[Tryz.ntmps78];refine aF fun _ K=>?_;simp only[kd,bJ,ag];apply K
 refine aI [⟨1,_,_,_,hSq⟩] [] fun _ K=>?_;simp only[kd,bJ,aa];apply K
 refine aH (aF fun _ K=>?_);simp only[kd];apply K;refine aU rfl (aO ?_);show bu _ _ _ _;refine aF fun _ K=>?_;simp only[kd];apply K
 refine aH (aF fun _ K=>?_);simp only[kd];apply K;refine aZ (G:=kK n) (fun g=>⟨(bJ (bx n n f)::jk::.raw (.slice none 0 0)::.raw (.bool false)::rN n::jk::.one (.sl 31 0 0 g.i)::rN g.i::j16 (j4 (j4 (jk::[])))),Hm [(31,[⟨32,2,lc fZ (Au g.i f)⟩])]⟩) (fun g=>n-g.i) ⟨0,by omega⟩ ?_ ?_
 ·refine(eK (k:=6) (d:=31) 32 2 (by omega) rfl rfl).trans (aG ⟨rfl,trivial⟩ ?_);simp[wk]
 rintro⟨k,hk⟩;simp only;by_cases hm:k<n
 ·have c1:=KO k k (by omega) (by omega);rw[<- List.range_succ]at c1;have c2:=yp n n f (List.range (k+1)) (List.range (k+1)) hn hn (fun x hx=>by have:=List.mem_range.1 hx;omega) (fun x hx=>by have:=List.mem_range.1 hx;omega) (by simp;omega) (by simp;omega);rw[IV]at c2;have c3:=fF (k+1) f (by omega) (by omega) (fun i j hi hj=>hf i j (by omega) (by omega));have e1:lc fZ (Au k f)++[[.p (.raw (.bool (decide (detF (k+1) f<0)))),.p (.sl (ls fU (aR (detF (k+1) f).natAbs)))]]=lc fZ (Au (k+1) f):=by
   rw[tz,Au,Au,qB k]
  refine aH (aF fun _ K=>?_);simp(disch:=omega) only[kd,aa,bJ];apply K;refine bf rfl (aO ?_);refine aH (aM ?_);refine ma [⟨4,_,_,_,c1⟩,⟨7,_,_,_,c1⟩,⟨8,_,_,_,c2⟩,⟨9,_,_,_,c3⟩] [] fun _ K=>?_;simp(disch:=omega) only[kd,ru,bJ,tZ,aa,ah,Nat.reduceMul,aj,bE,e1];apply K
  show bu _ _ _ _;refine aN fun _ K=>?_;simp(disch:=omega) only[kd,aa,aT];apply K
  refine⟨⟨k+1,by omega⟩,by simp only;omega,aG ⟨rfl,trivial⟩ ?_⟩;simp[wk]
 have hkn:k=n:=by omega
 subst hkn;refine aH (aF fun _ K=>?_);simp(disch:=omega) only[kd,aa,bJ];apply K;refine aU rfl (bK ?_);show bu _ _ _ _;refine aF fun _ K=>?_;simp only[kd,aa];apply K
 refine aK ⟨.inr rfl,lI 31 (cJ rfl) ?_ rfl⟩;have eT:List.take k (Au k f)=Au k f:=List.take_of_length_le (by rw[bE];omega);simp(disch:=omega) only[kd,Tryz.results78,eT,PQ]
structure Qu (n:Nat) (f:FF) where
 i:Nat
 hi:i<=n
 ok: ∀a,a<i-> ∀b,b<a->f a b=f b a
structure Qv (n i:Nat) (f:FF) where
 j:Nat
 hj:j<=i
 ok: ∀b,b<j->f i b=f b i
theorem vC (a:Int):km a a=0:=by simp[km]
theorem yO {a b:Int} (h:a≠b):km a b≠0:=by unfold km;split<;>(try split)<;>omega
theorem l8 (n:Nat) (f:FF) (hn:n<=16) (hf: ∀i j,i<n->j<n->Sz (f i j) 1024) (r:Bool) (hr:r=true↔SymF f n):CallC Tryz.prog 76 [bJ (bx n n f)] ⟨[],.raw (.bool r)⟩:=by
 have hml:=bi n n f;refine aJ Tryz.func76 rfl (by kernel_rfl) ?_;rw[Tryz.ntmps76];refine aF fun _ K=>?_;simp only[kd,bJ,ag];apply K
 refine aH (aF fun _ K=>?_);simp only[kd,aa,hml];apply K;refine aZ (G:=Qu n f) (fun g=>⟨(bJ (bx n n f)::jk::.raw (.bool false)::jk::jk::jk::rN n::rN g.i::j16 (j4 (j4 ([])))),Hm []⟩) (fun g=>n-g.i) ⟨0,by omega,fun a ha=>by omega⟩ ?_ ?_
 ·refine aG trivial ?_;simp[wk]
 rintro⟨i,hi,ok⟩;simp only;by_cases hm:i<n
 ·refine aF fun _ K=>?_;simp(disch:=omega) only[kd,bJ];apply K
  refine bM rfl ?_;refine aH (aM ?_);refine aF fun _ K=>?_;simp only[kd];apply K
  refine aF fun _ K=>?_;simp only[kd];apply K
  refine aZ (G:=Qv n i f) (fun g=>⟨(bJ (bx n n f)::jk::.raw (.bool false)::rN i::rN g.j::jk::rN n::rN i::j16 (j4 (j4 ([])))),Hm []⟩) (fun g=>i-g.j) ⟨0,by omega,fun a ha=>by omega⟩ ?_ ?_
  ·refine aG trivial ?_;simp[wk]
  rintro⟨j,hj,okj⟩;simp only;by_cases hm2:j<i
  ·have a1:=bD n f hm;have a2:=bD n f (show j<n by omega);have a3:=aY (f i) (show j<n by omega);have a4:=aY (f j) hm;have c1:=r9 (f i j) (f j i) ((hf i j hm (by omega)).mono (by omega)) ((hf j i (by omega) hm).mono (by omega));by_cases he:f i j=f j i
   ·rw[he,vC]at c1;rw[he]at a3;refine aH (aF fun _ K=>?_);simp(disch:=omega) only[kd,aa,bJ];apply K;refine bf rfl (aO ?_);refine aH (aM ?_);refine bz bj [⟨14,_,_,_,c1⟩] [] (by kernel_rfl) fun _ K=>?_;simp(disch:=omega) only[kd,tZ,aa,a1,fR,a3,fZ,a2,a4];apply K
    refine aU rfl (aO ?_);show bu _ _ _ _;refine aN fun _ K=>?_;simp(disch:=omega) only[kd,aa,aT];apply K
    refine⟨⟨j+1,by omega,fun b hb=>?_⟩,by simp only;omega,aG trivial ?_⟩
    ·by_cases e:b=j
     ·subst e;exact he
     exact okj b (by omega)
    simp[wk]
   have hr0:r=false:=by
    cases r with
    |false=>rfl
    |true=>exact absurd (hr.1 rfl i hm j (by omega)) he
   subst hr0;have hne:=yO he;refine aH (aF fun _ K=>?_);simp(disch:=omega) only[kd,aa,bJ];apply K;refine bf rfl (aO ?_);refine aH (aM ?_);refine bz bj [⟨14,_,_,_,c1⟩] [] (by kernel_rfl) fun _ K=>?_;simp(disch:=omega) only[kd,tZ,aa,a1,fR,a3,fZ,a2,a4];apply K
   refine bf rfl ?_;refine aF fun _ K=>?_;simp only[kd];apply K
   (refine aK ⟨.inr rfl,aL rfl ?_ rfl⟩;simp(disch:=omega) only[kd,Tryz.results76])
  refine aH (aF fun _ K=>?_);simp(disch:=omega) only[kd,aa,bJ];apply K;refine aU rfl (bK ?_);show bu _ _ _ _;refine aN fun _ K=>?_;simp(disch:=omega) only[kd,aT];apply K
  refine⟨⟨i+1,by omega,fun a ha b hb=>?_⟩,by simp only;omega,aG trivial ?_⟩
  ·by_cases e:a=i
   ·subst e;exact okj b (by omega)
   exact ok a (by omega) b hb
  simp[wk]
 have hr1:r=true:=hr.2 fun a ha b hb=>by
  rcases Nat.lt_trichotomy a b with h|h|h
  ·exact(ok b (by omega) a h).symm
  ·rw[h]
  exact ok a (by omega) b h
 subst hr1;refine aF fun _ K=>?_;simp(disch:=omega) only[kd,bJ];apply K
 refine bV rfl ?_;show bu _ _ _ _;refine aF fun _ K=>?_;simp only[kd];apply K
 (refine aK ⟨.inr rfl,aL rfl ?_ rfl⟩;simp(disch:=omega) only[kd,Tryz.results76])
structure QB (n:Nat) (f:FF) where
 i:Nat
 hi:i<=n
 ok: ∀a,a<i->0<detF (a+1) f
theorem Cd {z:Int} (h:0<z):sg z=1:=by unfold sg;rw[if_neg (by omega),if_neg (by omega)]
theorem DL {z:Int} (h: ¬0<z):sg z<=0:=by unfold sg;split<;>(try split)<;>omega
theorem sc (n:Nat) (f:FF) (hn1:1<=n) (hn:n<=16) (hf: ∀i j,i<n->j<n->Sz (f i j) 1024) (hs:SymF f n) (r:Bool) (hr:r=true↔yn f n):CallC Tryz.prog 77 [bJ (bx n n f)] ⟨[],.raw (.bool r)⟩:=by
 have hL:=vg n f hn1 hn hf;have hS:=l8 n f hn hf true (by simp[hs]);refine aJ Tryz.func77 rfl (by kernel_rfl) ?_;rw[Tryz.ntmps77];refine aF fun _ K=>?_;simp only[kd,bJ,ag];apply K
 refine aI [⟨1,_,_,_,hL⟩] [] fun _ K=>?_;simp only[kd,bJ,PQ,aa];apply K
 refine aH (aI [⟨4,_,_,_,hS⟩] [] fun _ K=>?_);simp(disch:=omega) only[kd,bJ,aa];apply K;refine aU rfl (aO ?_);show bu _ _ _ _;refine aH (aF fun _ K=>?_);simp only[kd,aa,bE];apply K;refine aZ (G:=QB n f) (fun g=>⟨(jk::jk::.raw (.bool false)::j16 (.one (.p (.sl (ls fZ (Au n f))))::rN n::rN g.i::j4 (jk::jk::jk::[]))),Hm []⟩) (fun g=>n-g.i) ⟨0,by omega,fun a ha=>by omega⟩ ?_ ?_
 ·refine aG trivial ?_;simp[wk]
 rintro⟨i,hi,ok⟩;simp only;by_cases hm:i<n
 ·have a1:(Au n f)[i]?=some (detF (i+1) f):=aY _ hm;have hz:=o7 (n:=i+1) (f:=f) (by omega) (fun a b ha hb=>hf a b (by omega) (by omega));have c1:=mQ (detF (i+1) f) (hz.mono (by omega));refine aF fun _ K=>?_;simp(disch:=omega) only[kd];apply K
  refine bM rfl ?_;refine aH (aM ?_);refine aF fun _ K=>?_;simp(disch:=omega) only[kd,aa,a1,fZ];apply K
  by_cases hp:0<detF (i+1) f
  ·rw[Cd hp]at c1;refine aI [⟨1,_,_,_,c1⟩] [] fun _ K=>?_;simp(disch:=omega) only[kd,tZ,aa,Int.reduceLE];apply K
   refine aU rfl (aO ?_);show bu _ _ _ _;refine aN fun _ K=>?_;simp(disch:=omega) only[kd,aT];apply K
   refine⟨⟨i+1,by omega,fun a ha=>?_⟩,by simp only;omega,aG trivial ?_⟩
   ·by_cases e:a=i
    ·subst e;exact hp
    exact ok a (by omega)
   simp[wk]
  have hr0:r=false:=by
   cases r with
   |false=>rfl
   |true=>exact absurd (hr.1 rfl i hm) hp
  subst hr0;have hle:=DL hp;refine aI [⟨1,_,_,_,c1⟩] [] fun _ K=>?_;simp(disch:=omega) only[kd,tZ,aa];apply K
  refine bf rfl ?_;refine aF fun _ K=>?_;simp only[kd];apply K
  (refine aK ⟨.inr rfl,aL rfl ?_ rfl⟩;simp(disch:=omega) only[kd,Tryz.results77])
 have hr1:r=true:=hr.2 fun a ha=>ok a (by omega)
 subst hr1;refine aF fun _ K=>?_;simp(disch:=omega) only[kd];apply K
 refine bV rfl ?_;show bu _ _ _ _;refine aF fun _ K=>?_;simp only[kd];apply K
 (refine aK ⟨.inr rfl,aL rfl ?_ rfl⟩;simp(disch:=omega) only[kd,Tryz.results77])
theorem xa (a b:Int):decide (km a b<=0)=decide (a<=b):=by
 unfold km;split
 ·simp;omega
 split
 ·simp;omega
 simp;omega
theorem KB (a b:Int):decide (0<=km a b)=decide (b<=a):=by
 unfold km;split
 ·simp;omega
 split
 ·simp;omega
 simp;omega
theorem Jb (n:Nat) (f:FF) (hn1:1<=n) (hn:n<=16) (hf: ∀i j,i<n->j<n->Sz (f i j) 1024):CallC Tryz.prog 40 [bJ (bx n n f)] ⟨[],.raw (.bool (decide (detF n f<=10000)))⟩:=by
 have hD:=fF n f hn1 hn hf;have hS:=ee 10000 (by omega) (by omega);have hC:=r9 (detF n f) 10000 ((o7 hn hf).mono (by omega)) (jv (by decide) (by omega));have hle:=xa (detF n f) 10000;refine aJ Tryz.func40 rfl (by kernel_rfl) ?_;rw[Tryz.ntmps40];refine aF fun _ K=>?_;simp only[kd,bJ,ag];apply K
 refine aI [⟨1,_,_,_,hD⟩,⟨2,_,_,_,hS⟩,⟨3,_,_,_,hC⟩] [] fun _ K=>?_;simp(disch:=omega) only[kd,bJ,tZ,aa,ah,hle];apply K
 (refine aK ⟨.inr rfl,aL rfl ?_ rfl⟩;simp(disch:=omega) only[kd,Tryz.results40])
theorem sj (n c:Nat) (f:FF) (hn1:1<=n) (hn:n<=16) (hc1:1<=c) (hc:c<=16) (hf: ∀i j,i<n->j<c->Sz (f i j) 1024):
  ∃e:Int,(e=0↔(n=c/\n<=8/\SymF f n/\yn f n))/\CallC Tryz.prog 39 [bJ (bx n c f)] ⟨[],.raw (.int .i64 e)⟩:=by
 have hSq:=yr (bx n c f);by_cases h1:n=c
 ·subst h1;rw[DQ f hn1 hn]at hSq;by_cases h2:8<n
  ·refine⟨3,by omega,?_⟩;refine aJ Tryz.func39 rfl (by kernel_rfl) ?_;rw[Tryz.ntmps39];refine aF fun _ K=>?_;simp only[kd,bJ,ag];apply K
   refine aI [⟨1,_,_,_,hSq⟩] [] fun _ K=>?_;simp only[kd,bJ,aa];apply K
   refine aH (aM ?_);refine aF fun _ K=>?_;simp(disch:=omega) only[kd,aa];apply K
   refine bf rfl ?_;refine aF fun _ K=>?_;simp only[kd];apply K
   (refine aK ⟨.inr rfl,aL rfl ?_ rfl⟩;simp(disch:=omega) only[kd,Tryz.results39])
  by_cases h3:SymF f n
  ·have hS:=l8 n f hn hf true (by simp[h3]);by_cases h4:yn f n
   ·have hD:=sc n f hn1 hn hf h3 true (by simp[h4]);refine⟨0,by simp[h3,h4];omega,?_⟩;refine aJ Tryz.func39 rfl (by kernel_rfl) ?_;rw[Tryz.ntmps39];refine aF fun _ K=>?_;simp only[kd,bJ,ag];apply K
    refine aI [⟨1,_,_,_,hSq⟩] [] fun _ K=>?_;simp only[kd,bJ,aa];apply K
    refine aH (aM ?_);refine aF fun _ K=>?_;simp(disch:=omega) only[kd,aa];apply K
    refine aU rfl ?_;refine aI [⟨1,_,_,_,hS⟩] [] fun _ K=>?_;simp only[kd,bJ,aa];apply K
    refine aU rfl ?_;refine aI [⟨1,_,_,_,hD⟩] [] fun _ K=>?_;simp only[kd,bJ,aa];apply K
    refine aU rfl (aO ?_);show bu _ _ _ _;refine aF fun _ K=>?_;simp only[kd];apply K
    (refine aK ⟨.inr rfl,aL rfl ?_ rfl⟩;simp(disch:=omega) only[kd,Tryz.results39])
   have hD:=sc n f hn1 hn hf h3 false (by simp[h4]);refine⟨5,by simp[h4],?_⟩;refine aJ Tryz.func39 rfl (by kernel_rfl) ?_;rw[Tryz.ntmps39];refine aF fun _ K=>?_;simp only[kd,bJ,ag];apply K
   refine aI [⟨1,_,_,_,hSq⟩] [] fun _ K=>?_;simp only[kd,bJ,aa];apply K
   refine aH (aM ?_);refine aF fun _ K=>?_;simp(disch:=omega) only[kd,aa];apply K
   refine aU rfl ?_;refine aI [⟨1,_,_,_,hS⟩] [] fun _ K=>?_;simp only[kd,bJ,aa];apply K
   refine aU rfl ?_;refine aI [⟨1,_,_,_,hD⟩] [] fun _ K=>?_;simp only[kd,bJ,aa];apply K
   refine bf rfl ?_;refine aF fun _ K=>?_;simp only[kd];apply K
   (refine aK ⟨.inr rfl,aL rfl ?_ rfl⟩;simp(disch:=omega) only[kd,Tryz.results39])
  have hS:=l8 n f hn hf false (by simp[h3]);refine⟨4,by simp[h3],?_⟩;refine aJ Tryz.func39 rfl (by kernel_rfl) ?_;rw[Tryz.ntmps39];refine aF fun _ K=>?_;simp only[kd,bJ,ag];apply K
  refine aI [⟨1,_,_,_,hSq⟩] [] fun _ K=>?_;simp only[kd,bJ,aa];apply K
  refine aH (aM ?_);refine aF fun _ K=>?_;simp(disch:=omega) only[kd,aa];apply K
  refine aU rfl ?_;refine aI [⟨1,_,_,_,hS⟩] [] fun _ K=>?_;simp only[kd,bJ,aa];apply K
  refine bf rfl ?_;refine aF fun _ K=>?_;simp only[kd];apply K
  (refine aK ⟨.inr rfl,aL rfl ?_ rfl⟩;simp(disch:=omega) only[kd,Tryz.results39])
 rw[Ov f hn1 h1]at hSq;refine⟨3,by simp[h1],?_⟩;refine aJ Tryz.func39 rfl (by kernel_rfl) ?_;rw[Tryz.ntmps39];refine aF fun _ K=>?_;simp only[kd,bJ,ag];apply K
 refine aI [⟨1,_,_,_,hSq⟩] [] fun _ K=>?_;simp only[kd,bJ,aa];apply K
 refine aH (aM ?_);refine aF fun _ K=>?_;simp(disch:=omega) only[kd,aa,reduceCtorEq];apply K
 refine bf rfl ?_;refine aF fun _ K=>?_;simp only[kd];apply K
 (refine aK ⟨.inr rfl,aL rfl ?_ rfl⟩;simp(disch:=omega) only[kd,Tryz.results39])
abbrev oR (l:List Int):TV:= .one (.p (.sl (ls fZ l)))
theorem LL (i j:Nat) (f:FF):((List.range j++[i]).map fun r=>(List.range (j+1)).map (f r))=bx (j+1) (j+1) (l6 f i j):=by
 rw[bx,List.range_succ,List.map_append,List.map_append]
 congr 1
 ·refine List.map_congr_left fun r hr=>?_
  have:=List.mem_range.1 hr;rw[<- List.range_succ];exact f7 (m:=j+1) fun c _=>by unfold l6;rw[if_pos this]
 simp only[List.map_cons,List.map_nil];rw[<- List.range_succ]
 congr 1
 exact f7 (m:=j+1) fun c _=>by unfold l6;rw[if_neg (by omega)]
theorem Dl {n i j:Nat} {f:FF} (hi:i<n) (hj:j<n) (hf: ∀i j,i<n->j<n->Sz (f i j) 1024): ∀r c,r<j+1->c<j+1->Sz (l6 f i j r c) 1024:=fun r c hr hc=>by
 unfold l6;split
 ·exact hf r c (by omega) (by omega)
 exact hf i c hi (by omega)
theorem Bz {n i j:Nat} {f:FF} (hn:n<=16) (hi:i<n) (hj:j<n) (hf: ∀i j,i<n->j<n->Sz (f i j) 1024):Sz (lam f i j) 67174400:=
 o7 (by omega) (Dl hi hj hf)
theorem yR {n k:Nat} {f:FF} (hn:n<=16) (hk:k<=n) (hf: ∀i j,i<n->j<n->Sz (f i j) 1024):Sz (dd f k) 67174400:=by
 unfold dd;split
 ·exact oN (by omega)
 exact o7 (by omega) fun i j hi hj=>hf i j (by omega) (by omega)
theorem sf (n:Nat) (f:FF) (i j:Nat) (hn:n<=16) (hi:i<n) (hj:j<n) (hf: ∀i j,i<n->j<n->Sz (f i j) 1024):
  CallC Tryz.prog 82 [bJ (bx n n f),.raw (.int .i64 (i:Int)),.raw (.int .i64 (j:Int))] ⟨[],tZ (lam f i j)⟩:=by
 have c2:=yp n n f (List.range j++[i]) (List.range (j+1)) hn hn (fun x hx=>by
  rcases List.mem_append.1 hx with h|h
  ·have:=List.mem_range.1 h;omega
  have:x=i:=by simpa using h
  omega) (fun x hx=>by have:=List.mem_range.1 hx;omega) (by simp;omega) (by simp;omega)
 rw[LL]at c2;have c3:=fF (j+1) (l6 f i j) (by omega) (by omega) (Dl hi hj hf);refine aJ Tryz.func82 rfl (by kernel_rfl) ?_;rw[Tryz.ntmps82];refine aF fun _ K=>?_;simp(disch:=omega) only[kd,bJ,aa,ag];apply K
 refine aF fun _ K=>?_;simp only[kd];apply K
 refine aH (aF fun _ K=>?_);simp only[kd];apply K;refine aZ (G:=kK j) (fun g=>⟨(bJ (bx n n f)::rN i::rN j::jk::jk::jk::.one (.ptr 6 0 0 0)::.one (.sl 18 0 0 g.i)::.one (.sl 22 0 0 g.i)::rN g.i::j16 (j4 (j4 ([])))),Hm [(6,w7),(18,[⟨3,1,lc fN (List.range g.i)⟩]),(22,[⟨3,1,lc fN (List.range g.i)⟩])]⟩) (fun g=>j-g.i) ⟨0,by omega⟩ ?_ ?_
 ·refine(eK (k:=7) (d:=18) 3 1 (by omega) rfl rfl).trans ((eK (k:=8) (d:=22) 3 1 (by omega) rfl rfl).trans (aG ⟨rfl,rfl,rfl,trivial⟩ ?_));simp[wk]
 rintro⟨k,hk⟩;simp only;by_cases hm:k<j
 ·refine aH (aF fun _ K=>?_);simp(disch:=omega) only[kd,aa,bJ];apply K;refine bf rfl (aO ?_);refine aH (aM ?_);refine aF fun _ K=>?_;simp(disch:=omega) only[kd,aa,Nat.reduceMul,aj,ae,List.length_range,mt,ah];apply K
  refine aN fun _ K=>?_;simp(disch:=omega) only[kd,aa,Nat.reduceMul,aj,ae,List.length_range,mt,ah];apply K
  show bu _ _ _ _;refine aN fun _ K=>?_;simp(disch:=omega) only[kd,aa,aT];apply K
  refine⟨⟨k+1,by omega⟩,by simp only;omega,aG ⟨rfl,?_,?_,trivial⟩ ?_⟩
  ·rw[List.range_succ];rfl
  ·rw[List.range_succ];rfl
  simp[wk]
 have hkj:k=j:=by omega
 subst hkj;refine aH (aF fun _ K=>?_);simp(disch:=omega) only[kd,aa,bJ];apply K;refine aU rfl (bK ?_);show bu _ _ _ _;refine Ef 9 [⟨9,_,_,_,c2⟩,⟨10,_,_,_,c3⟩] [] (by simp) (by decide) fun _ K=>?_;simp(disch:=omega) only[kd,bJ,ru,tZ,aa,Nat.reduceMul,aj,ae,List.length_range,mt,ah];apply K
 refine⟨⟨(j4 (jk::jk::.one (.ptr 6 0 0 0)::j16 (bJ (bx n n f)::jk::jk::jk::ru (List.range k++[i])::jk::jk::jk::ru (List.range (k+1))::jk::jk::[]))),Hm [(6,w7)]⟩,(bX 18 (cJ rfl)).trans ((bX 22 (cJ rfl)).trans (aG ⟨rfl,trivial⟩ ?_)),by simp[wk],?_⟩
 ·simp[wk,gO,fj,bs,Hm,fP,gG,List.range_succ,List.take_of_length_le]
 intro _ K;simp(disch:=omega) only[kd,bJ,ru,tZ,aa,ah];apply K;rw[<- lam]
 (refine aK ⟨.inr rfl,aL rfl ?_ rfl⟩;simp(disch:=omega) only[kd,Tryz.results82,aa,tZ])
theorem pk (n:Nat) (f:FF) (k:Nat) (hn:n<=16) (hk:k<=n):
  CallC Tryz.prog 83 [oR (Au n f),.raw (.int .i64 (k:Int))] ⟨[],tZ (dd f k)⟩:=by
 have c1:=ee 1 (by omega) (by omega);by_cases h0:k=0
 ·subst h0;rw[show dd f 0=1 from rfl];refine aJ Tryz.func83 rfl (by kernel_rfl) ?_;rw[Tryz.ntmps83];refine aF fun _ K=>?_;simp(disch:=omega) only[kd,oR,aa,ag];apply K
  refine aH (aF fun _ K=>?_);simp(disch:=omega) only[kd];apply K;refine bf rfl ?_;refine aI [⟨0,_,_,_,c1⟩] [] fun _ K=>?_;simp(disch:=omega) only[kd,tZ,aa];apply K
  (refine aK ⟨.inr rfl,aL rfl ?_ rfl⟩;simp(disch:=omega) only[kd,Tryz.results83,aa,tZ])
 rw[show dd f k=detF k f from if_neg h0];have e1:((k:Int)-1).toNat=k-1:=by omega
 have a1:(Au n f)[k-1]?=some (detF k f):=by rw[aY _ (by omega),show k-1+1=k by omega]
 refine aJ Tryz.func83 rfl (by kernel_rfl) ?_;rw[Tryz.ntmps83];refine aF fun _ K=>?_;simp(disch:=omega) only[kd,oR,aa,ag];apply K
 refine aH (aF fun _ K=>?_);simp(disch:=omega) only[kd];apply K;refine aU rfl (aO ?_);show bu _ _ _ _;refine aF fun _ K=>?_;simp(disch:=omega) only[kd,aa,aT,e1,a1,fZ];apply K
 (refine aK ⟨.inr rfl,aL rfl ?_ rfl⟩;simp(disch:=omega) only[kd,Tryz.results83,aa,tZ])
theorem Kj (n:Nat) (f:FF) (i j:Nat) (hn:n<=16) (hi:i<n) (hj:j<n) (hf: ∀i j,i<n->j<n->Sz (f i j) 1024):
  CallC Tryz.prog 79 [bJ (bx n n f),oR (Au n f),.raw (.int .i64 (i:Int)),.raw (.int .i64 (j:Int))] ⟨[],.raw (.bool (decide (2*((lam f i j).natAbs:Int)<=dd f (j+1))))⟩:=by
 have hl:=Bz hn hi hj hf;have hd:=yR (k:=j+1) hn (by omega) hf;have hla:Sz ((lam f i j).natAbs:Int) 67174400:=hl.le (by omega);have hm:Sz (2*((lam f i j).natAbs:Int)) (1+67174400):=Sz.mul (jv (by decide) (by omega)) hla;have c1:=ee 2 (by omega) (by omega);have c2:=sf n f i j hn hi hj hf;have c3:=Gu (lam f i j) (hl.mono (by omega));have c4:=ja 2 ((lam f i j).natAbs:Int) (jv (by decide) (by omega)) (hla.mono (by omega));have c5:=pk n f (j+1) hn (by omega);rw[show((j+1:Nat):Int)=(j:Int)+1 by omega]at c5;have c6:=r9 (2*((lam f i j).natAbs:Int)) (dd f (j+1)) (hm.mono (by omega)) (hd.mono (by omega));have hle:=xa (2*((lam f i j).natAbs:Int)) (dd f (j+1));generalize lam f i j=l at*
 generalize dd f (j+1)=d at*
 refine aJ Tryz.func79 rfl (by kernel_rfl) ?_;rw[Tryz.ntmps79];refine aF fun _ K=>?_;simp only[kd,bJ,oR,aa,ag];apply K
 refine aI [⟨0,_,_,_,c1⟩,⟨4,_,_,_,c2⟩,⟨5,_,_,_,c3⟩,⟨6,_,_,_,c4⟩,⟨10,_,_,_,c5⟩,⟨11,_,_,_,c6⟩] [] fun _ K=>?_;simp(disch:=omega) only[kd,tZ,bJ,oR,aa,ah,aT,hle];apply K
 (refine aK ⟨.inr rfl,aL rfl ?_ rfl⟩;simp(disch:=omega) only[kd,Tryz.results79])
theorem Gb (n:Nat) (f:FF) (i:Nat) (hn:n<=16) (hi:i<n) (h0:0<i) (hf: ∀i j,i<n->j<n->Sz (f i j) 1024):
  CallC Tryz.prog 84 [bJ (bx n n f),oR (Au n f),.raw (.int .i64 (i:Int))] ⟨[],.raw (.bool (decide (3*(dd f i*dd f i)<=4*(dd f (i-1)*dd f (i+1)+lam f i (i-1)*lam f i (i-1)))))⟩:=by
 have hl:=Bz (j:=i-1) hn hi (by omega) hf;have d0:=yR (k:=i-1) hn (by omega) hf;have d1:=yR (k:=i) hn (by omega) hf;have d2:=yR (k:=i+1) hn (by omega) hf;have c0:=sf n f i (i-1) hn hi (by omega) hf;have c1:=pk n f (i-1) hn (by omega);have c2:=pk n f (i+1) hn (by omega);have c3:=pk n f i hn (by omega);rw[show((i+1:Nat):Int)=(i:Int)+1 by omega]at c2;rw[show((i-1:Nat):Int)=(i:Int)-1 by omega]at c0 c1;have s4:=ee 4 (by omega) (by omega);have s3:=ee 3 (by omega) (by omega);generalize lam f i (i-1)=l at*
 generalize dd f (i-1)=a at*
 generalize dd f (i+1)=b at*
 generalize dd f i=d at*
 have z1:Sz (a*b) 134348800:=(d0.mul d2).mono (by omega);have z2:Sz (l*l) 134348800:=(hl.mul hl).mono (by omega);have z3:Sz (a*b+l*l) 134348801:=z1.add z2;have z4:Sz (4*(a*b+l*l)) 134348802:=(Sz.mul (jv (k:=1) (by decide) (by omega)) z3).mono (by omega);have z5:Sz (d*d) 134348800:=(d1.mul d1).mono (by omega);have z6:Sz (3*(d*d)) 134348802:=(Sz.mul (jv (k:=1) (by decide) (by omega)) z5).mono (by omega);have m1:=ja a b (d0.mono (by omega)) (d2.mono (by omega));have m2:=ja l l (hl.mono (by omega)) (hl.mono (by omega));have m3:=ve (a*b) (l*l) (z1.mono (by omega)) (z2.mono (by omega));have m4:=ja 4 (a*b+l*l) (jv (by decide) (by omega)) (z3.mono (by omega));have m5:=ja d d (d1.mono (by omega)) (d1.mono (by omega));have m6:=ja 3 (d*d) (jv (by decide) (by omega)) (z5.mono (by omega));have m7:=r9 (4*(a*b+l*l)) (3*(d*d)) (z4.mono (by omega)) (z6.mono (by omega));have hge:=KB (4*(a*b+l*l)) (3*(d*d));refine aJ Tryz.func84 rfl (by kernel_rfl) ?_;rw[Tryz.ntmps84];refine aF fun _ K=>?_;simp only[kd,bJ,oR,aa,ag];apply K
 refine aI [⟨4,_,_,_,c0⟩] [] fun _ K=>?_;simp(disch:=omega) only[kd,bJ,tZ,aa,aT];apply K
 refine bz bj [⟨0,_,_,_,s4⟩,⟨4,_,_,_,c1⟩,⟨8,_,_,_,c2⟩,⟨9,_,_,_,m1⟩,⟨12,_,_,_,m2⟩,⟨13,_,_,_,m3⟩,⟨14,_,_,_,m4⟩] [] (by kernel_rfl) fun _ K=>?_;simp(disch:=omega) only[kd,tZ,oR,aa,aT,ah,ae];apply K
 refine bz bj [⟨1,_,_,_,s3⟩,⟨4,_,_,_,c3⟩,⟨7,_,_,_,c3⟩,⟨8,_,_,_,m5⟩,⟨9,_,_,_,m6⟩,⟨10,_,_,_,m7⟩] [] (by kernel_rfl) fun _ K=>?_;simp(disch:=omega) only[kd,tZ,oR,aa,ae,ah,hge];apply K
 (refine aK ⟨.inr rfl,aL rfl ?_ rfl⟩;simp(disch:=omega) only[kd,Tryz.results84])
def Ka (z:Int):Prop:= -9223372036854775808<=z/\z<=9223372036854775807
theorem Ka.sz {z:Int} (h:Ka z) {k:Nat} (hk:2<=k):Sz z k:=by
 have:Sz z 2:=by
  unfold Sz;have:=h.1;have:=h.2;rw[show(4294967296:Nat)^2=18446744073709551616 by decide];omega
 exact this.mono hk
def MI (M:List (List Int)):Prop:= ∀r∈M,∀z∈r,Ka z
theorem MI.ent {M:List (List Int)} (h:MI M) (i j:Nat):Ka (ent M i j):=by
 simp only[Go.Proofs.YtiollbhgpiiodaaGreatDoor.ent,List.getD_eq_getElem?_getD];cases hr:M[i]? with
 |none=>simp[Ka]
 |some r=>
  simp only[Option.getD_some];cases hz:r[j]? with
  |none=>simp[Ka]
  |some z=>exact h r (ax hr) z (ax hz)
theorem Ow {n c:Nat} {f:FF} (hn:1<=n):Sq (bx n c f)↔n=c:=by
 unfold Sq;rw[bi];have e: ∀i,i<n->((bx n c f).getD i []).length=c:=fun i hi=>by
  rw[List.getD_eq_getElem?_getD,bD _ _ hi,Option.getD_some,bE]
 exact⟨fun h=>by rw[<- e 0 (by omega),h 0 (by omega)],fun h i hi=>by rw[e i hi,h]⟩
theorem si {f g:FF} {n:Nat} (h: ∀i j,i<n->j<n->f i j=g i j) (hf:RedR f n):RedR g n:=by
 obtain⟨h1,h2,h3,h4⟩:=hf;have ed: ∀k,k<=n->dk g k=dk f k:=fun k hk=>eg fun i j hi hj=>(h i j (by omega) (by omega)).symm
 have eb: ∀t i,t<n->i<n->bk g t i t=bk f t i t:=fun t i ht hi=>by
  have e1:dk (l6 g i t) (t+1)=bk g t i t:=A4 (fun r c hr hc=>by unfold l6;rw[if_pos hr]) (fun c hc=>by unfold l6;rw[if_neg (by omega)]);have e2:dk (l6 f i t) (t+1)=bk f t i t:=A4 (fun r c hr hc=>by unfold l6;rw[if_pos hr]) (fun c hc=>by unfold l6;rw[if_neg (by omega)]);rw[<- e1,<- e2];refine eg fun r c hr hc=>?_
  unfold l6;split
  ·exact(h r c (by omega) (by omega)).symm
  exact(h i c hi (by omega)).symm
 refine⟨fun i hi j hj=>by rw[<- h i j hi hj,<- h j i hj hi];exact h1 i hi j hj,fun k hk=>by rw[ed (k+1) (by omega)];exact h2 k hk,by rw[ed n (by omega)];exact h3,fun t ht=>⟨fun i hi hti=>?_,?_⟩⟩
 ·have:=(h4 t ht).1 i hi hti;rw[ed (t+1) (by omega),eb t i (by omega) hi];exact this
 have:=(h4 t ht).2;unfold Kd at*
 rw[ed (t+1) (by omega),ed t (by omega),ed (t+1+1) (by omega),eb t (t+1) (by omega) (by omega)];exact this
theorem yo {n c:Nat} {f:FF} (hn1:1<=n):Ni (bx n c f)↔n=c/\n<=8/\RedR f n:=by
 unfold Ni;rw[bi,Ow hn1];constructor
 ·rintro⟨_,h8,rfl,hr⟩;exact⟨rfl,h8,si (fun i j hi hj=>xh f hi hj) hr⟩
 rintro⟨rfl,h8,hr⟩;exact⟨hn1,h8,rfl,si (fun i j hi hj=>(xh f hi hj).symm) hr⟩
abbrev pO (l:List Int):TV:= .one (.p (.sl (ls fI l)))
theorem wT {x y:List Int} {b c:Nat} (hx: ∀i,Sz (x.getD i 0) b) (hy: ∀i,Sz (y.getD i 0) c): ∀l,Sz (ew x y l) (b+c+l)
 |0=>x8 _
 |l+1=>by
  show Sz (ew x y l+x.getD l 0*y.getD l 0) _;exact(wT hx hy l).add (((hx l).mul (hy l)).mono (by omega))
theorem rH {x:List Int} {b:Nat} (h: ∀z∈x,Sz z b) (i:Nat):Sz (x.getD i 0) b:=by
 rw[List.getD_eq_getElem?_getD];cases hx:x[i]? with
 |none=>exact x8 _
 |some z=>exact h z (ax hx)
theorem O0 (x y:List Int) (hx:x.length<=16) (hxy:x.length<=y.length) (sx: ∀z∈x,Sz z 16777216) (sy: ∀z∈y,Sz z 67108864):CallC Tryz.prog 117 [oR x,oR y] ⟨[],tZ (ew x y x.length)⟩:=by
 refine aJ Tryz.func117 rfl (by kernel_rfl) ?_;rw[Tryz.ntmps117];refine aF fun _ K=>?_;simp(disch:=omega) only[kd,oR,aa,ag];apply K
 refine aF fun _ K=>?_;simp(disch:=omega) only[kd,aa,ae];apply K
 refine aH (aF fun _ K=>?_);simp only[kd,aa];apply K;refine aZ (G:=P9 x.length) (fun g=>⟨(oR x::oR y::jk::jk::.one (.ptr 4 0 0 0)::.one (.ptr 5 0 0 0)::jk::jk::jk::rN x.length::rN g.i::j4 (j4 (j4 (jk::jk::jk::[])))),Hm [(4,w7),(5,uO (ew x y g.i))]⟩) (fun g=>x.length-g.i) ⟨0,by omega⟩ ?_ ?_
 ·refine(gy 5).trans (aG ⟨rfl,?_,trivial⟩ ?_)
  ·show _=uO 0;simp[zH,bs,zO,Ax,CC,uO,yg,cw,ls]
  simp[wk]
 rintro⟨i,hi⟩;simp only;have hs:=wT (rH sx) (rH sy) i;by_cases hm:i<x.length
 ·obtain⟨a,ha⟩:=getElem?_of_lt hm;obtain⟨b,hb⟩:=getElem?_of_lt (l:=y) (k:=i) (by omega);have za:=sx a (ax ha);have zb:=sy b (ax hb);have c1:=ja a b (za.mono (by omega)) (zb.mono (by omega));have c2:=ve (ew x y i) (a*b) (hs.mono (by omega)) ((za.mul zb).mono (by omega));have e1:ew x y i+a*b=ew x y (i+1):=by
   show _=ew x y i+x.getD i 0*y.getD i 0;rw[List.getD_eq_getElem?_getD,List.getD_eq_getElem?_getD,ha,hb];rfl
  rw[e1]at c2;refine aF fun _ K=>?_;simp(disch:=omega) only[kd,oR];apply K
  refine bM rfl ?_;refine aH (aM ?_);refine aF fun _ K=>?_;simp only[kd];apply K
  refine dT bj [⟨9,_,_,_,c1⟩,⟨10,_,_,_,c2⟩] [] (by kernel_rfl) fun _ K=>?_;simp(disch:=omega) only[kd,tZ,aa,ae,ha,fZ,hb,ah];apply K
  show bu _ _ _ _;refine aN fun _ K=>?_;simp(disch:=omega) only[kd,aT];apply K
  refine⟨⟨i+1,by omega⟩,by simp only;omega,aG ⟨rfl,rfl,trivial⟩ ?_⟩;simp[wk]
 have hin:i=x.length:=by omega
 subst hin;refine aF fun _ K=>?_;simp(disch:=omega) only[kd,oR];apply K
 refine bV rfl ?_;show bu _ _ _ _;refine aF fun _ K=>?_;simp(disch:=omega) only[kd,ae,aa];apply K
 (refine aK ⟨.inr rfl,aL rfl ?_ rfl⟩;simp(disch:=omega) only[kd,Tryz.results117,ae,aa,tZ])
abbrev Qe (n c:Nat) (f:FF) (y:List Int):List Int:=bT n fun i=>ew (bT c (f i)) y c
abbrev FL (v:Int) (b:Bool):TV:= .tup [(false,[.p (.raw (.int .i64 v))]),(false,[.p (.raw (.bool b))])]
def OW (z:Int):TV:=if -4611686018427387904<=z/\z<=4611686018427387904 then FL z true else FL 0 false
def EQ (M:List (List Int)) (x y:List Int):TV:=if j9 M x=true/\FitB M.length y=true then OW (ew x (dy M y) x.length)else FL 0 false
theorem AR {n:Nat} {f:FF} {y:List Int} (hr:cb (bx n n f)=true) (hy:FY y=true):dy (bx n n f) y=Qe n n f y:=by
 have hs:=fp hr;have h8:=hs.2.1;rw[bi]at h8;apply List.ext_getElem?;intro i;rw[dy,List.getElem?_map];by_cases hi:i<n
 ·rw[bD _ _ hi,aY _ hi];simp only[Option.map_some,bE];exact congrArg some (n5 (hs.row_bd (bD _ _ hi)) (fun i z hz=>kL hy hz) n h8).1
 rw[List.getElem?_eq_none (by rw[bi];omega),List.getElem?_eq_none (by rw[bE];omega)];rfl
theorem tl (M:List (List Int)) (x y:List Int): ∃v b,EQ M x y=FL v b/\iJ M x y= .tuple #[.int .i64 v,.bool b]:=by
 unfold EQ iJ;split
 ·unfold OW s8;split
  ·exact⟨_,_,rfl,rfl⟩
  exact⟨_,_,rfl,rfl⟩
 exact⟨_,_,rfl,rfl⟩
theorem O8 (a b:Int) (hb0:b≠0) (ha:Bh a) (hb:Bh b):CallC Tryz.prog 160 [tZ a,tZ b] ⟨[],tZ (a%b)⟩:=by
 have h1:=yj a b hb0 ha hb;refine aJ Tryz.func160 rfl (by kernel_rfl) ?_;rw[Tryz.ntmps160];refine aF fun _ K=>?_;simp(disch:=omega) only[kd,aa,tZ,ag,ae];apply K
 refine aI [⟨2,_,_,_,h1⟩] [] fun _ K=>?_;simp(disch:=omega) only[kd,tZ,cZ,aa,ae];apply K
 refine aF fun _ K=>?_;simp(disch:=omega) only[kd,ae,aa];apply K
 (refine aK ⟨.inr rfl,aL rfl ?_ rfl⟩;simp(disch:=omega) only[kd,Tryz.results160,ae,aa,tZ])
structure QC (a b:Int) where
 x:Int
 y:Int
 hx:0<=x
 hy:0<=y
 hg:Int.gcd x y=Int.gcd a b
 sx:Bh x
 sy:Bh y
theorem Hf {x y:Int} (hx:0<=x) (hy:0<=y):Int.gcd y (x%y)=Int.gcd x y:=by
 obtain⟨m,rfl⟩:=Int.eq_ofNat_of_zero_le hx;obtain⟨n,rfl⟩:=Int.eq_ofNat_of_zero_le hy;show Nat.gcd n (m%n)=Nat.gcd m n;rw[Nat.gcd_comm n,<- Nat.gcd_rec,Nat.gcd_comm]
theorem O1 (a b:Int) (ha:Bh a) (hb:Bh b):CallC Tryz.prog 153 [tZ a,tZ b] ⟨[],tZ (Int.gcd a b:Nat)⟩:=by
 have c1:=Gu a ha.bg;have c2:=Gu b hb.bg;refine aJ Tryz.func153 rfl (by kernel_rfl) ?_;rw[Tryz.ntmps153];refine aF fun _ K=>?_;simp(disch:=omega) only[kd,aa,tZ,ag,ae];apply K
 refine bz bj [⟨1,_,_,_,c1⟩,⟨3,_,_,_,c2⟩] [] (by kernel_rfl) fun _ K=>?_;simp(disch:=omega) only[kd,tZ,aa,ae,ah];apply K
 refine aH (aZ (G:=QC a b) (fun g=>⟨(j4 (.one (.ptr 4 0 0 0)::.one (.ptr 5 0 0 0)::.one (.ptr 6 0 0 0)::j4 (j4 (j4 ([]))))),Hm [(4,w7),(5,uO g.x),(6,uO g.y)]⟩) (fun g=>g.y.natAbs) ⟨a.natAbs,b.natAbs,by omega,by omega,by simp;rfl,ha.le (by omega),hb.le (by omega)⟩ ?_ ?_)
 ·refine aG ⟨rfl,rfl,rfl,trivial⟩ ?_;simp[wk]
 rintro⟨x,y,hx,hy,hg,sx,sy⟩;simp only;have cs:=mQ y sy.bg;by_cases h0:y=0
 ·subst h0;refine aH (aI [⟨1,_,_,_,cs⟩] [] fun _ K=>?_);simp(disch:=omega) only[kd,tZ,xV,aa,ae];apply K;refine aU rfl (bK ?_);show bu _ _ _ _;have e:((Int.gcd a b:Nat):Int)=x:=by rw[<- hg,Int.gcd_zero_right];omega
  rw[e];refine aF fun _ K=>?_;simp(disch:=omega) only[kd,ae,aa];apply K
  (refine aK ⟨.inr rfl,aL rfl ?_ rfl⟩;simp(disch:=omega) only[kd,Tryz.results153,ae,aa,tZ])
 have hs:=I3 h0;have cr:=O8 x y h0 sx sy;have hlt:=Int.emod_lt_of_pos x (show 0<y by omega);have hnn:=Int.emod_nonneg x h0;refine aH (aI [⟨1,_,_,_,cs⟩] [] fun _ K=>?_);simp(disch:=omega) only[kd,tZ,aa,ae];apply K;refine bf rfl (aO ?_);refine aM ?_;refine dT bj [⟨3,_,_,_,cr⟩] [] (by kernel_rfl) fun _ K=>?_;simp(disch:=omega) only[kd,tZ,aa,ae];apply K
 refine⟨⟨y,x%y,hy,hnn,by rw[Hf hx hy,hg],sy,sy.le (by omega)⟩,by simp only;omega,aG ⟨rfl,by simp[bs,Hm,Int.not_lt.2 hy],by simp[bs,Hm,Int.not_lt.2 hnn],trivial⟩ ?_⟩;simp[wk]
abbrev tR (n d:Int):TV:= .agg [.p (.raw (.bool (decide (n<0)))),.p (.sl (ls fU (aR n.natAbs))),.p (.raw (.bool (decide (d<0)))),.p (.sl (ls fU (aR d.natAbs)))]
def cR (n d:Int):List AV:=[.p (.raw (.bool (decide (n<0)))),.p (.sl (ls fU (aR n.natAbs))),.p (.raw (.bool (decide (d<0)))),.p (.sl (ls fU (aR d.natAbs)))]
def nN (n d:Int):Int:=n/(Int.gcd n d:Nat)
def nD (n d:Int):Int:=d/(Int.gcd n d:Nat)
theorem mq {n d:Int} (hd:0<d):0<Int.gcd n d:=Int.gcd_pos_of_ne_zero_right n (by omega)
theorem BM {n d:Int}:nN n d*(Int.gcd n d:Nat)=n:=Int.ediv_mul_cancel (Int.gcd_dvd_left n d)
theorem xC {n d:Int}:nD n d*(Int.gcd n d:Nat)=d:=Int.ediv_mul_cancel (Int.gcd_dvd_right n d)
theorem oD {n d:Int} (hd:0<d):0<nD n d:=by
 have h:=xC (n:=n) (d:=d);have hg:=mq (n:=n) hd;rcases Int.lt_or_le 0 (nD n d)with h'|h'
 ·exact h'
 have:=Int.mul_nonpos_of_nonpos_of_nonneg h' (show(0:Int)<=(Int.gcd n d:Nat) by omega);omega
theorem Dz {n d:Int} (hd:0<d):nN n d/nD n d=n/d:=by
 have hg:=mq (n:=n) hd;have:nN n d*(Int.gcd n d:Nat)/(nD n d*(Int.gcd n d:Nat))=nN n d/nD n d:=Int.mul_ediv_mul_of_pos_left _ _ (by omega);rw[BM,xC]at this;exact this.symm
theorem vX {n d:Int} {k:Nat} (h:Sz n k):Sz (nN n d) k:=h.ediv _
theorem vW {n d:Int} {k:Nat} (h:Sz d k):Sz (nD n d) k:=h.ediv _
theorem Mz (n d:Int) (hd0:0<d) (hn:Bh n) (hd:Bh d):CallC Tryz.prog 139 [tZ n,tZ d] ⟨[],.tup [(true,cR (nN n d) (nD n d)),(false,[.p (.raw (.bool true))])]⟩:=by
 have c1:=mQ d hd.bg;rw[Cd hd0]at c1;have c2:=O1 n d hn hd;have hg:=mq (n:=n) hd0;have sg:Bh (Int.gcd n d:Nat):=hd.le (by
  have:=Nat.le_of_dvd (by omega) (Int.gcd_dvd_natAbs_right n d);omega)
 have c3:=CH n (Int.gcd n d:Nat) (by omega) hn sg;have c4:=CH d (Int.gcd n d:Nat) (by omega) hd sg;rw[show n/(Int.gcd n d:Nat)=nN n d from rfl]at c3;rw[show d/(Int.gcd n d:Nat)=nD n d from rfl]at c4;generalize((Int.gcd n d:Nat):Int)=g at*
 generalize nN n d=n' at*
 generalize nD n d=d' at*
 refine aJ Tryz.func139 rfl (by kernel_rfl) ?_;rw[Tryz.ntmps139];refine aF fun _ K=>?_;simp(disch:=omega) only[kd,aa,tZ,ag,ae];apply K
 refine aH (aI [⟨1,_,_,_,c1⟩] [] fun _ K=>?_);simp(disch:=omega) only[kd,tZ,aa,ae];apply K;refine aU rfl (aO ?_);show bu _ _ _ _;refine aH (aI [⟨1,_,_,_,c1⟩] [] fun _ K=>?_);simp(disch:=omega) only[kd,tZ,aa,ae];apply K;refine aU rfl (aO ?_);show bu _ _ _ _;refine aI [⟨2,_,_,_,c2⟩] [] fun _ K=>?_;simp(disch:=omega) only[kd,tZ,aa,ae];apply K
 refine bz bj [⟨2,_,_,_,c3⟩,⟨5,_,_,_,c4⟩] [] (by kernel_rfl) fun _ K=>?_;simp(disch:=omega) only[kd,tZ,aa,ae,ah,aj];apply K
 (refine aK ⟨.inr rfl,aL rfl ?_ rfl⟩;simp(disch:=omega) only[kd,Tryz.results139,ae,aa,cR])
theorem iO (n d:Int) (hd0:0<d) (hn:Bh n) (hd:Bh d):CallC Tryz.prog 115 [tR n d] ⟨[],tR (nN n d) (nD n d)⟩:=by
 have c1:=Mz n d hd0 hn hd;generalize nN n d=n' at*
 generalize nD n d=d' at*
 refine aJ Tryz.func115 rfl (by kernel_rfl) ?_;rw[Tryz.ntmps115];refine aF fun _ K=>?_;simp(disch:=omega) only[kd,tR,ag,aa,ae];apply K
 refine aI [⟨4,_,_,_,c1⟩] [] fun _ K=>?_;simp(disch:=omega) only[kd,tZ,cR,aa,ae,aj];apply K
 refine aH (aF fun _ K=>?_);simp only[kd];apply K;refine aU rfl (aO ?_);show bu _ _ _ _;refine aF fun _ K=>?_;simp(disch:=omega) only[kd,ae,aa];apply K
 (refine aK ⟨.inr rfl,aL rfl ?_ rfl⟩;simp(disch:=omega) only[kd,Tryz.results115,ae,aa,tR])
theorem Nc:CallC Tryz.prog 114 [] ⟨[],tR 1 2⟩:=by
 have c1:=ee 1 (by omega) (by omega);have c2:=ee 2 (by omega) (by omega);refine aJ Tryz.func114 rfl (by kernel_rfl) ?_;rw[Tryz.ntmps114];refine aF fun _ K=>?_;simp(disch:=omega) only[kd,ag,aa];apply K
 refine aI [⟨0,_,_,_,c1⟩,⟨1,_,_,_,c2⟩] [] fun _ K=>?_;simp(disch:=omega) only[kd,tZ,aa,ah,aj];apply K
 (refine aK ⟨.inr rfl,aL rfl ?_ rfl⟩;simp(disch:=omega) only[kd,Tryz.results114,aa,tR])
theorem J7 (n d:Int) (hd0:0<d) (hn:Bh n) (hd:Bh d):CallC Tryz.prog 112 [tR n d] ⟨[],tZ (n/d)⟩:=by
 have c1:=iO n d hd0 hn hd;have c2:=CH (nN n d) (nD n d) (by have:=oD (n:=n) hd0;omega) (vX hn) (vW hd);rw[Dz hd0]at c2;generalize nN n d=n' at*
 generalize nD n d=d' at*
 refine aJ Tryz.func112 rfl (by kernel_rfl) ?_;rw[Tryz.ntmps112];refine aF fun _ K=>?_;simp(disch:=omega) only[kd,tR,ag,aa,ae];apply K
 refine aI [⟨1,_,_,_,c1⟩] [] fun _ K=>?_;simp(disch:=omega) only[kd,tR,aa,ae];apply K
 refine aI [⟨4,_,_,_,c2⟩] [] fun _ K=>?_;simp(disch:=omega) only[kd,tZ,aa,ae,aj];apply K
 (refine aK ⟨.inr rfl,aL rfl ?_ rfl⟩;simp(disch:=omega) only[kd,Tryz.results112,ae,aa,tZ])
abbrev Qi:List OObj:=[⟨122,4,[[.raw (.bool false),.raw (.slice none 0 0),.raw (.bool false),.raw (.slice none 0 0)]]⟩]
abbrev Qy (n d:Int):List OObj:=[⟨122,4,[[.p (.raw (.bool (decide (n<0)))),.p (.sl (ls fU (aR n.natAbs))),.p (.raw (.bool false)),.p (.sl (ls fU (aR d.natAbs)))]]⟩]
theorem M3 (a b c d:Int) (hb0:0<b) (hd0:0<d) (ha:Sz a 100000000) (hb:Sz b 100000000) (hc:Sz c 100000000) (hd:Sz d 100000000):
  CallC Tryz.prog 113 [tR a b,tR c d] ⟨[],tR (nN (nN a b*nD c d+nN c d*nD a b) (nD a b*nD c d)) (nD (nN a b*nD c d+nN c d*nD a b) (nD a b*nD c d))⟩:=by
 have c1:=iO a b hb0 (ha.mono (by omega)) (hb.mono (by omega));have c2:=iO c d hd0 (hc.mono (by omega)) (hd.mono (by omega));have sx:Sz (nN a b) 100000000:=vX ha;have sy:Sz (nD a b) 100000000:=vW hb;have su:Sz (nN c d) 100000000:=vX hc;have sv:Sz (nD c d) 100000000:=vW hd;have py:=oD (n:=a) hb0;have pv:=oD (n:=c) hd0;generalize nN a b=x at*
 generalize nD a b=y at*
 generalize nN c d=u at*
 generalize nD c d=v at*
 have z1:Sz (x*v) 200000000:=(sx.mul sv).mono (by omega);have z2:Sz (u*y) 200000000:=(su.mul sy).mono (by omega);have z3:Sz (x*v+u*y) 200000001:=z1.add z2;have z4:Sz (y*v) 200000000:=(sy.mul sv).mono (by omega);have m1:=ja x v (sx.mono (by omega)) (sv.mono (by omega));have m2:=ja u y (su.mono (by omega)) (sy.mono (by omega));have m3:=ve (x*v) (u*y) (z1.mono (by omega)) (z2.mono (by omega));have m4:=ja y v (sy.mono (by omega)) (sv.mono (by omega));have m5:=Mz (x*v+u*y) (y*v) (Int.mul_pos py pv) (z3.mono (by omega)) (z4.mono (by omega));generalize nN (x*v+u*y) (y*v)=rn at*
 generalize nD (x*v+u*y) (y*v)=rd at*
 refine aJ Tryz.func113 rfl (by kernel_rfl) ?_;rw[Tryz.ntmps113];refine aF fun _ K=>?_;simp(disch:=omega) only[kd,aa,tR,ag,ae];apply K
 refine bz bj [⟨1,_,_,_,c1⟩,⟨3,_,_,_,c2⟩] [] (by kernel_rfl) fun _ K=>?_;simp(disch:=omega) only[kd,tR,aa,ae,ah];apply K
 refine bu.weak (aG (tm:=(j4 (.one (.ptr 4 0 0 0)::.one (.ptr 5 0 0 0)::.one (.ptr 6 0 0 0)::j16 (j4 (j4 (jk::jk::jk::[])))))) (l:=[(4,Qi),(5,Qy x y),(6,Qy u v)]) ⟨rfl,rfl,rfl,trivial⟩ (by simp[wk])) ?_;refine bz bj [⟨4,_,_,_,m1⟩,⟨9,_,_,_,m2⟩,⟨10,_,_,_,m3⟩,⟨15,_,_,_,m4⟩,⟨16,_,_,_,m5⟩] [] (by kernel_rfl) fun _ K=>?_;simp(disch:=omega) only[kd,tZ,cR,aa,ae,aj,ah];apply K
 refine aF fun _ K=>?_;simp(disch:=omega) only[kd,ae,aa];apply K
 (refine aK ⟨.inr rfl,aL rfl ?_ rfl⟩;simp(disch:=omega) only[kd,Tryz.results113,ae,aa,tR])
theorem K8 {p q:Int} (hq:0<q):nN (nN p q*nD 1 2+nN 1 2*nD p q) (nD p q*nD 1 2)/nD (nN p q*nD 1 2+nN 1 2*nD p q) (nD p q*nD 1 2)=(2*p+q)/(2*q):=by
 have e1:nN 1 2=1:=by decide
 have e2:nD 1 2=2:=by decide
 have hp:=oD (n:=p) hq;rw[e1,e2,Dz (by omega)];have hg:=mq (n:=p) hq;have a1:=BM (n:=p) (d:=q);have a2:=xC (n:=p) (d:=q);have:(nN p q*2+1*nD p q)*(Int.gcd p q:Nat)/((nD p q*2)*(Int.gcd p q:Nat))=(nN p q*2+1*nD p q)/(nD p q*2):=Int.mul_ediv_mul_of_pos_left _ _ (by omega);rw[<- this]
 congr 1
 ·rw[Int.add_mul,Int.one_mul,Int.mul_right_comm,a1,a2];omega
 rw[Int.mul_right_comm,a2];omega
theorem D8 (p q:Int) (hq0:0<q) (hp:Sz p 100000000) (hq:Sz q 100000000):CallC Tryz.prog 80 [tR p q] ⟨[],tZ ((2*p+q)/(2*q))⟩:=by
 have c2:=M3 p q 1 2 hq0 (by omega) hp hq (oN (by omega)) (jv (by decide) (by omega));have hx:Sz (nN p q) 100000000:=vX hp;have hy:Sz (nD p q) 100000000:=vW hq;have hyp:=oD (n:=p) hq0;have e1:nN 1 2=1:=by decide
 have e2:nD 1 2=2:=by decide
 have z2:Sz (2:Int) 1:=jv (by decide) (by omega);have zn:Sz (nN p q*nD 1 2+nN 1 2*nD p q) 100000002:=by
  rw[e1,e2];refine Sz.add (k:=100000001) ((hx.mul z2).mono (by omega)) ?_;rw[Int.one_mul];exact hy.mono (by omega)
 have zd:Sz (nD p q*nD 1 2) 100000001:=by rw[e2];exact(hy.mul z2).mono (by omega)
 have c3:=J7 (nN (nN p q*nD 1 2+nN 1 2*nD p q) (nD p q*nD 1 2)) (nD (nN p q*nD 1 2+nN 1 2*nD p q) (nD p q*nD 1 2)) (oD (by rw[e2];omega)) ((vX zn).mono (by omega)) ((vW zd).mono (by omega));rw[K8 hq0]at c3;generalize nN (nN p q*nD 1 2+nN 1 2*nD p q) (nD p q*nD 1 2)=rn at*
 generalize nD (nN p q*nD 1 2+nN 1 2*nD p q) (nD p q*nD 1 2)=rd at*
 have c1:=Nc;refine aJ Tryz.func80 rfl (by kernel_rfl) ?_;rw[Tryz.ntmps80];refine aF fun _ K=>?_;simp(disch:=omega) only[kd,tR,ag,aa,ae];apply K
 refine bz bj [⟨1,_,_,_,c1⟩,⟨2,_,_,_,c2⟩,⟨3,_,_,_,c3⟩] [] (by kernel_rfl) fun _ K=>?_;simp(disch:=omega) only[kd,tR,tZ,aa,ae,ah];apply K
 (refine aK ⟨.inr rfl,aL rfl ?_ rfl⟩;simp(disch:=omega) only[kd,Tryz.results80,ae,aa,tZ])
theorem AD (p q:Int) (hq0:0<q) (hp:Bh p) (hq:Bh q):CallC Tryz.prog 81 [tZ p,tZ q] ⟨[],tR (nN p q) (nD p q)⟩:=by
 have c1:=iO p q hq0 hp hq;generalize nN p q=n' at*
 generalize nD p q=d' at*
 refine aJ Tryz.func81 rfl (by kernel_rfl) ?_;rw[Tryz.ntmps81];refine aF fun _ K=>?_;simp(disch:=omega) only[kd,aa,tZ,ag,ae];apply K
 refine aI [⟨3,_,_,_,c1⟩] [] fun _ K=>?_;simp(disch:=omega) only[kd,tR,aa,ae,aj];apply K
 (refine aK ⟨.inr rfl,aL rfl ?_ rfl⟩;simp(disch:=omega) only[kd,Tryz.results81,ae,aa,tR])
def qF (l d:Int):Int:=(2*l+d)/(2*d)
theorem Qp {l d:Int} (hd:0<d):(2*nN l d+nD l d)/(2*nD l d)=qF l d:=by
 have hg:=mq (n:=l) hd;have a1:=BM (n:=l) (d:=d);have a2:=xC (n:=l) (d:=d);have:(2*nN l d+nD l d)*(Int.gcd l d:Nat)/((2*nD l d)*(Int.gcd l d:Nat))=(2*nN l d+nD l d)/(2*nD l d):=Int.mul_ediv_mul_of_pos_left _ _ (by omega);rw[<- this,qF]
 congr 1
 ·rw[Int.add_mul,Int.mul_assoc,a1,a2]
 rw[Int.mul_assoc,a2]
def trF (f:FF):Nat->Nat->Int:=fun a b=>f b a
def BV (f:FF) (i j:Nat):Nat->Nat->Int:=fun a b=>if b<i\/(b=i/\a<j)then f b a else 0
theorem Iv (f:FF) (i j a b:Nat):upd (BV f i j) j i (f i j) a b=BV f i (j+1) a b:=by
 unfold upd BV;by_cases h1:a=j
 ·subst h1;by_cases h2:b=i
  ·subst h2;simp
  simp[h2]
 have:a<j+1↔a<j:=by omega
 simp[h1,this]
theorem Lr {c:Nat} (f:FF) (i a b:Nat) (ha:a<c):BV f i c a b=BV f (i+1) 0 a b:=by
 unfold BV;have:(b<i\/b=i/\a<c)↔(b<i+1\/b=i+1/\a<0):=by omega
 simp only[this]
theorem Lq {n:Nat} (f:FF) (a b:Nat) (hb:b<n):BV f n 0 a b=trF f a b:=by
 unfold BV trF;rw[if_pos (.inl hb)]
theorem Iw (f:FF):BV f 0 0=fun _ _=>0:=by
 funext a b;unfold BV;rw[if_neg (by omega)]
theorem qV (n c:Nat) (f:FF) (hn1:1<=n) (hn:n<=16) (hc1:1<=c) (hc:c<=16) (hf: ∀i j:Nat,i<n->j<c->Bg (f i j)):
  CallC Tryz.prog 87 [bJ (bx n c f)] ⟨[],.tup [(false,[.p (.sl (ls (fR fZ) (bx c n (trF f))))]),(false,[.p (.raw (.bool true))])]⟩:=by
 have hS:=rB (bx n c f);rw[iS (pf f hn1 hn hc1 hc),bi,jm f hn1]at hS;have hml:=bi n c f;have hZ:=wP c n hc hn;rw[rL,qu]at hZ;refine aJ Tryz.func87 rfl (by kernel_rfl) ?_;rw[Tryz.ntmps87];refine aF fun _ K=>?_;simp only[kd,bJ,ag];apply K
 refine aI [⟨1,_,_,_,hS⟩] [] fun _ K=>?_;simp only[kd,bJ,aa];apply K
 refine aH (aF fun _ K=>?_);simp only[kd];apply K;refine aU rfl (aO ?_);show bu _ _ _ _;refine aI [⟨2,_,_,_,hZ⟩] [] fun _ K=>?_;simp only[kd,aa];apply K
 refine aH (aF fun _ K=>?_);simp only[kd,aa,hml];apply K;refine aZ (G:=kK n) (fun g=>⟨(bJ (bx n c f)::j4 (jk::jk::.one (.sl 20 0 0 c)::j4 (j4 (j4 (jk::jk::rN n::rN g.i::j16 (j4 (j4 (jk::jk::jk::[])))))))),Hm [(20,iv 20 c n (BV f g.i 0))]⟩) (fun g=>n-g.i) ⟨0,by omega⟩ ?_ ?_
 ·refine aG ⟨?_,trivial⟩ ?_
  ·rw[Iw];exact fQ 0 20 c n _
  simp[wk]
 rintro⟨i,hi⟩;simp only;by_cases hm:i<n
 ·have hr:=bD c f hm;refine aF fun _ K=>?_;simp(disch:=omega) only[kd,bJ];apply K
  refine bM rfl ?_;refine aH (aM ?_);refine aF fun _ K=>?_;simp only[kd];apply K
  refine aF fun _ K=>?_;simp(disch:=omega) only[kd,aa,hr,fR,bE];apply K
  refine aZ (G:=kK c) (fun g=>⟨(bJ (bx n c f)::j4 (jk::jk::.one (.sl 20 0 0 c)::rN i::j4 (j4 (j4 (jk::rN n::rN i::j4 (jk::jk::rN c::rN g.i::j16 (jk::jk::jk::[]))))))),Hm [(20,iv 20 c n (BV f i g.i))]⟩) (fun g=>c-g.i) ⟨0,by omega⟩ ?_ ?_
  ·refine aG ⟨rfl,trivial⟩ ?_;simp[wk]
  rintro⟨j,hj⟩;simp only;by_cases hm3:j<c
  ·have hjr:=aY (f i) hm3;have hS:=H9 (f i j) (hf i j hm hm3);have g1:=bZ (n:=c) (i:=j) 20 n hm3;have g2:=fV n (BV f i j) hm3;have g3:=aY (BV f i j j) hm;refine aF fun _ K=>?_;simp(disch:=omega) only[kd,bJ];apply K
   refine bM rfl ?_;refine aH (aM ?_);refine aF fun _ K=>?_;simp only[kd];apply K
   refine dT bj [⟨12,_,_,_,hS⟩] [] (by kernel_rfl) fun _ K=>?_;simp(disch:=omega) only[kd,tZ,aa,g1,hr,fR,hjr,fZ,g2,g3,lE];apply K
   show bu _ _ _ _;refine aN fun _ K=>?_;simp(disch:=omega) only[kd,aT];apply K
   refine⟨⟨j+1,by omega⟩,by simp only;omega,aG ⟨?_,trivial⟩ ?_⟩
   ·show _::_=_::_;rw[cU fun a b _ _=>Iv f i j a b]
   simp[wk]
  have hjc:j=c:=by omega
  subst hjc;refine aF fun _ K=>?_;simp(disch:=omega) only[kd,bJ];apply K
  refine bV rfl ?_;show bu _ _ _ _;refine aN fun _ K=>?_;simp(disch:=omega) only[kd,aT];apply K
  refine⟨⟨i+1,by omega⟩,by simp only;omega,aG ⟨?_,trivial⟩ ?_⟩
  ·show _::_=_::_;rw[cU fun a b ha _=>Lr f i a b ha]
  simp[wk]
 have hin:i=n:=by omega
 subst hin;refine aF fun _ K=>?_;simp(disch:=omega) only[kd,bJ];apply K
 refine bV rfl ?_;show bu _ _ _ _;have e:iv 20 c i (BV f i 0)=iv 20 c i (trF f):=by
  show _::_=_::_;rw[cU fun a b _ hb=>Lq f a b hb]
 rw[e];refine bu.weak ((bX 20 (jF rfl)).trans (aG (tm:=(j4 (jk::jk::jk::bJ (bx c i (trF f))::j16 (j16 (j4 (j4 (jk::jk::jk::[]))))))) (l:=[]) trivial (by simp[wk];exact(MK (H:=Hm [(20,iv 20 c i (trF f))]) (d:=20) (n:=c) (c:=i) (f:=trF f) rfl).symm))) ?_;refine aF fun _ K=>?_;simp only[kd,aa,bJ];apply K
 (refine aK ⟨.inr rfl,aL rfl ?_ rfl⟩;simp(disch:=omega) only[kd,Tryz.results87])
def idF:Nat->Nat->Int:=fun a b=>if a=b then 1 else 0
def p8 (i:Nat):Nat->Nat->Int:=fun a b=>if a<i/\a=b then 1 else 0
theorem tY (i a b:Nat):upd (p8 i) i i 1 a b=p8 (i+1) a b:=by
 unfold upd p8;by_cases h1:a=i
 ·subst h1;by_cases h2:b=a
  ·subst h2;simp
  simp[h2,Ne.symm h2]
 have:a<i+1↔a<i:=by omega
 simp[h1,this]
theorem xK {n:Nat} (a b:Nat) (ha:a<n):p8 n a b=idF a b:=by unfold p8 idF;simp[ha]
theorem Iu:p8 0=fun _ _=>0:=by funext a b;unfold p8;rw[if_neg (by omega)]
theorem se (n:Nat) (hn1:1<=n) (hn:n<=16):
  CallC Tryz.prog 41 [.raw (.int .i64 (n:Int))] ⟨iv 0 n n idF,.tup [(false,[.sl 0 0 0 n]),(false,[.p (.raw (.bool true))])]⟩:=by
 have hZ:=wP n n hn hn;rw[rL,qu]at hZ;have hS:=ee 1 (by omega) (by omega);refine aJ Tryz.func41 rfl (by kernel_rfl) ?_;rw[Tryz.ntmps41];refine aF fun _ K=>?_;simp only[kd,ag];apply K
 refine aH (aF fun _ K=>?_);simp(disch:=omega) only[kd,aa];apply K;refine aU rfl (aO ?_);show bu _ _ _ _;refine aI [⟨2,_,_,_,hZ⟩] [] fun _ K=>?_;simp only[kd,aa];apply K
 refine aH (aF fun _ K=>?_);simp only[kd,aa];apply K;refine aZ (G:=kK n) (fun g=>⟨(j4 (.one (.sl 14 0 0 n)::j4 (j4 (jk::jk::jk::rN n::rN g.i::j4 (j4 (jk::jk::jk::[])))))),Hm [(14,iv 14 n n (p8 g.i))]⟩) (fun g=>n-g.i) ⟨0,by omega⟩ ?_ ?_
 ·refine aG ⟨?_,trivial⟩ ?_
  ·rw[Iu];exact fQ 0 14 n n _
  simp[wk]
 rintro⟨i,hi⟩;simp only;by_cases hm:i<n
 ·have g1:=bZ (n:=n) (i:=i) 14 n hm;have g2:=fV n (p8 i) hm;have g3:=aY (p8 i i) hm;have e1:=lE (n:=n) (i:=i) (j:=i) n (p8 i) 1;refine aF fun _ K=>?_;simp(disch:=omega) only[kd];apply K
  refine bM rfl ?_;refine aH (aM ?_);refine aF fun _ K=>?_;simp only[kd];apply K
  refine dT bj [⟨5,_,_,_,hS⟩] [] (by kernel_rfl) fun _ K=>?_;simp(disch:=omega) only[kd,tZ,aa,g1,g2,fZ,g3];apply K
  show bu _ _ _ _;refine aN fun _ K=>?_;simp(disch:=omega) only[kd,aT];apply K
  refine⟨⟨i+1,by omega⟩,by simp only;omega,aG ⟨?_,trivial⟩ ?_⟩
  ·show _::_=_::_;rw[<- cU fun a b _ _=>tY i a b]
   congr 1
  simp[wk]
 have hin:i=n:=by omega
 subst hin;refine aF fun _ K=>?_;simp(disch:=omega) only[kd];apply K
 refine bV rfl ?_;show bu _ _ _ _;have e:iv 14 i i (p8 i)=iv 14 i i idF:=by
  show _::_=_::_;rw[cU fun a b ha _=>xK a b ha]
 rw[e];refine aF fun _ K=>?_;simp only[kd,aa];apply K
 refine aK ⟨.inr rfl,_,cj.refl _,?_⟩;refine⟨.tup [(false,[.sl 14 0 0 i]),(false,[.p (.raw (.bool true))])],14,?_,?_,?_,rfl⟩
 ·simp(disch:=omega) only[kd,Tryz.results41]
 ·intro t ht x hx;simp at ht;rcases ht with rfl|rfl<;>(simp at hx;subst hx)<;>first|rfl|trivial
 exact(fQ 14 0 _ _ _).symm
def em (k:Nat) (f g:FF):Nat->Nat->Int:=fun i j=>ew (bT k (f i)) (bT k (trF g j)) k
theorem O5 (n k m:Nat) (f g:FF) (hn1:1<=n) (hn:n<=16) (hk1:1<=k) (hk:k<=16) (hm1:1<=m) (hmm:m<=16) (hf: ∀i j:Nat,i<n->j<k->Sz (f i j) 16777216) (hg: ∀i j:Nat,i<k->j<m->Sz (g i j) 16777216):
  CallC Tryz.prog 88 [bJ (bx n k f),bJ (bx k m g)] ⟨[],.tup [(false,[.p (.sl (ls (fR fZ) (bx n m (em k f g))))]),(false,[.p (.raw (.bool true))])]⟩:=by
 have hS:=rB (bx n k f);rw[iS (pf f hn1 hn hk1 hk),bi,jm f hn1]at hS;have hT:=qV k m g hk1 hk hm1 hmm (fun i j hi hj=>(hg i j hi hj).mono (by omega));have hml:=bi n k f;have hml2:=bi k m g;have hml3:=bi m k (trF g);have hZ:=wP n m hn hmm;rw[rL,qu]at hZ;refine aJ Tryz.func88 rfl (by kernel_rfl) ?_;rw[Tryz.ntmps88];refine aF fun _ K=>?_;simp only[kd,bJ,aa,ag];apply K
 refine aI [⟨1,_,_,_,hS⟩] [] fun _ K=>?_;simp only[kd,bJ,aa];apply K
 refine aI [⟨1,_,_,_,hT⟩] [] fun _ K=>?_;simp only[kd,bJ,aa];apply K
 refine aH (aF fun _ K=>?_);simp(disch:=omega) only[kd,aa,hml2];apply K;refine aU rfl (aO ?_);show bu _ _ _ _;refine aI [⟨4,_,_,_,hZ⟩] [] fun _ K=>?_;simp only[kd,aa,hml,hml3];apply K
 refine aH (aF fun _ K=>?_);simp only[kd,aa,hml];apply K;refine aZ (G:=kK n) (fun q=>⟨(bJ (bx n k f)::j4 (j4 (bJ (bx m k (trF g))::jk::.one (.sl 41 0 0 n)::j16 (j4 (j4 (j4 (jk::jk::jk::rN n::rN q.i::j16 (j4 (j4 (jk::[])))))))))),Hm [(41,iv 41 n m (part (em k f g) q.i 0))]⟩) (fun q=>n-q.i) ⟨0,by omega⟩ ?_ ?_
 ·refine aG ⟨?_,trivial⟩ ?_
  ·rw[wj];exact fQ 0 41 n m _
  simp[wk]
 rintro⟨i,hi⟩;simp only;by_cases him:i<n
 ·have hr:=bD k f him;refine aF fun _ K=>?_;simp(disch:=omega) only[kd,bJ];apply K
  refine bM rfl ?_;refine aH (aM ?_);refine aF fun _ K=>?_;simp only[kd];apply K
  refine aF fun _ K=>?_;simp only[kd,aa,hml3];apply K
  refine aZ (G:=kK m) (fun q=>⟨(bJ (bx n k f)::j4 (j4 (bJ (bx m k (trF g))::jk::.one (.sl 41 0 0 n)::rN i::j16 (j4 (j4 (j4 (jk::jk::rN n::rN i::jk::jk::jk::rN m::rN q.i::j16 (j4 ([]))))))))),Hm [(41,iv 41 n m (part (em k f g) i q.i))]⟩) (fun q=>m-q.i) ⟨0,by omega⟩ ?_ ?_
  ·refine aG ⟨rfl,trivial⟩ ?_;simp[wk]
  rintro⟨j,hj⟩;simp only;by_cases hm3:j<m
  ·have hr2:=bD k (trF g) hm3;have hD:=O0 (bT k (f i)) (bT k (trF g j)) (by rw[bE];omega) (by rw[bE,bE];omega) (fun z hz=>by
    obtain⟨p,hp,rfl⟩:=List.mem_map.1 hz;exact hf i p him (List.mem_range.1 hp)) (fun z hz=>by
    obtain⟨p,hp,rfl⟩:=List.mem_map.1 hz;exact(hg p j (List.mem_range.1 hp) hm3).mono (by omega))
   rw[bE,show ew (bT k (f i)) (bT k (trF g j)) k=em k f g i j from rfl]at hD;have g1:=bZ (n:=n) (i:=i) 41 m him;have g2:=fV m (part (em k f g) i j) him;have g3:=aY (part (em k f g) i j i) hm3;refine aF fun _ K=>?_;simp(disch:=omega) only[kd,bJ];apply K
   refine bM rfl ?_;refine aH (aM ?_);refine aF fun _ K=>?_;simp only[kd];apply K
   refine dT bj [⟨13,_,_,_,hD⟩] [] (by kernel_rfl) fun _ K=>?_;simp(disch:=omega) only[kd,oR,tZ,aa,g1,hr,fR,hr2,g2,fZ,g3,lE];apply K
   show bu _ _ _ _;refine aN fun _ K=>?_;simp(disch:=omega) only[kd,aT];apply K
   refine⟨⟨j+1,by omega⟩,by simp only;omega,aG ⟨?_,trivial⟩ ?_⟩
   ·show _::_=_::_;rw[cU fun a b _ _=>i5 (em k f g) i j a b]
   simp[wk]
  have hjc:j=m:=by omega
  subst hjc;refine aF fun _ K=>?_;simp(disch:=omega) only[kd,bJ];apply K
  refine bV rfl ?_;show bu _ _ _ _;refine aN fun _ K=>?_;simp(disch:=omega) only[kd,aT];apply K
  refine⟨⟨i+1,by omega⟩,by simp only;omega,aG ⟨?_,trivial⟩ ?_⟩
  ·show _::_=_::_;rw[cU fun a b _ hb=>kA (em k f g) i a b hb]
  simp[wk]
 have hin:i=n:=by omega
 subst hin;refine aF fun _ K=>?_;simp(disch:=omega) only[kd,bJ];apply K
 refine bV rfl ?_;show bu _ _ _ _;have e:iv 41 i m (part (em k f g) i 0)=iv 41 i m (em k f g):=by
  show _::_=_::_;rw[cU fun a b ha _=>kx (em k f g) a b ha]
 rw[e];refine bu.weak ((bX 41 (jF rfl)).trans (aG (tm:=(j4 (j4 (jk::jk::jk::bJ (bx i m (em k f g))::j16 (j16 (j16 (j4 (j4 (jk::jk::[]))))))))) (l:=[]) trivial (by simp[wk];exact(MK (H:=Hm [(41,iv 41 i m (em k f g))]) (d:=41) (n:=i) (c:=m) (f:=em k f g) rfl).symm))) ?_;refine aF fun _ K=>?_;simp only[kd,aa,bJ];apply K
 (refine aK ⟨.inr rfl,aL rfl ?_ rfl⟩;simp(disch:=omega) only[kd,Tryz.results88])
theorem qb (n k m:Nat) (f g:FF) (hn1:1<=n) (hn:n<=16) (hk1:1<=k) (hk:k<=16) (hm1:1<=m) (hmm:m<=16) (hf: ∀i j:Nat,i<n->j<k->Sz (f i j) 16777216) (hg: ∀i j:Nat,i<k->j<m->Sz (g i j) 16777216):
  CallC Tryz.prog 45 [bJ (bx n k f),bJ (bx k m g)] ⟨[],bJ (bx n m (em k f g))⟩:=by
 have hM:=O5 n k m f g hn1 hn hk1 hk hm1 hmm hf hg;refine aJ Tryz.func45 rfl (by kernel_rfl) ?_;rw[Tryz.ntmps45];refine aF fun _ K=>?_;simp only[kd,bJ,aa,ag];apply K
 refine aI [⟨2,_,_,_,hM⟩] [] fun _ K=>?_;simp only[kd,bJ,aa];apply K
 refine aF fun _ K=>?_;simp only[kd];apply K
 (refine aK ⟨.inr rfl,aL rfl ?_ rfl⟩;simp(disch:=omega) only[kd,Tryz.results45,bJ])
theorem K7 {k:Nat} {f g:FF} {b c i j:Nat} (hf: ∀p,p<k->Sz (f i p) b) (hg: ∀p,p<k->Sz (g p j) c):Sz (em k f g i j) (b+c+k):=by
 refine wT (rH fun z hz=>?_) (rH fun z hz=>?_) k
 ·obtain⟨p,hp,rfl⟩:=List.mem_map.1 hz;exact hf p (List.mem_range.1 hp)
 obtain⟨p,hp,rfl⟩:=List.mem_map.1 hz;exact hg p (List.mem_range.1 hp)
def cngF (n:Nat) (h t:FF):Nat->Nat->Int:=em n (em n (trF t) h) t
theorem yi (n:Nat) (h t:FF) (hn1:1<=n) (hn:n<=16) (hh: ∀i j:Nat,i<n->j<n->Sz (h i j) 500) (ht: ∀i j:Nat,i<n->j<n->Sz (t i j) 500):
  CallC Tryz.prog 44 [bJ (bx n n h),bJ (bx n n t)] ⟨[],bJ (bx n n (cngF n h t))⟩:=by
 have c1:=qV n n t hn1 hn hn1 hn (fun i j hi hj=>(ht i j hi hj).mono (by omega));have c2:=qb n n n (trF t) h hn1 hn hn1 hn hn1 hn (fun i j hi hj=>(ht j i hj hi).mono (by omega)) (fun i j hi hj=>(hh i j hi hj).mono (by omega));have c3:=qb n n n (em n (trF t) h) t hn1 hn hn1 hn hn1 hn (fun i j hi hj=>(K7 (b:=500) (c:=500) (fun p hp=>ht p i hp hi) (fun p hp=>hh p j hp hj)).mono (by omega)) (fun i j hi hj=>(ht i j hi hj).mono (by omega));refine aJ Tryz.func44 rfl (by kernel_rfl) ?_;rw[Tryz.ntmps44];refine aF fun _ K=>?_;simp only[kd,bJ,aa,ag];apply K
 refine aI [⟨1,_,_,_,c1⟩] [] fun _ K=>?_;simp only[kd,bJ,aa];apply K
 refine aI [⟨2,_,_,_,c2⟩,⟨4,_,_,_,c3⟩] [] fun _ K=>?_;simp only[kd,bJ,aa,ah];apply K
 (refine aK ⟨.inr rfl,aL rfl ?_ rfl⟩;simp(disch:=omega) only[kd,Tryz.results44,bJ,cngF])
end Go.Proofs.YtiollbhgpiiodaaGreatDoor
