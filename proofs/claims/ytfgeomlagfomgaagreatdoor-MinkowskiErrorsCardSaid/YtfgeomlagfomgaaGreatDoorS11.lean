/-
  Part 12 of a proof (walks and plain facts).
-/
import Derived.Test.YtfgeomlagfomgaaGreatDoorS10
set_option linter.all false
set_option maxRecDepth 100000
set_option maxHeartbeats 64000000
open Nat renaming reduceAdd → aa
open Nat renaming reduceEqDiff → ab
open List renaming replicate → ae
open Nat renaming reduceBEq → af
open Nat renaming reduceLeDiff → ah
open Int renaming reduceToNat → am
namespace Go.Proofs.YtfgeomlagfomgaaGreatDoor
open Go.RowKit
theorem nF {n:Nat} (h: ¬n=0):n/4294967296<n:=Nat.div_lt_self (by omega) (by omega)
def aR (n:Nat):List Nat:=if n=0 then[]else n%4294967296::aR (n/4294967296)
termination_by n
decreasing_by exact nF (by assumption)
theorem cj:aR 0=[]:=by rw[aR];simp
theorem nG {n:Nat} (h:n≠0):aR n=n%4294967296::aR (n/4294967296):=by rw[aR];simp[h]
theorem aQ (n:Nat):natV (aR n)=n:=by
 induction n using Nat.strongRecOn with
 |_ n ih=>
  by_cases h:n=0
  ·subst h;rw[cj];rfl
  rw[nG h,natV,ih _ (nF h)];omega
theorem aW (n:Nat):Lmb (aR n):=by
 induction n using Nat.strongRecOn with
 |_ n ih=>
  by_cases h:n=0
  ·subst h;rw[cj];intro a ha;simp at ha
  rw[nG h];intro a ha;rcases List.mem_cons.1 ha with rfl|ha
  ·omega
  exact ih _ (nF h) a ha
theorem cd (n:Nat):ov (aR n):=by
 induction n using Nat.strongRecOn with
 |_ n ih=>
  by_cases h:n=0
  ·subst h;rw[cj];simp[ov]
  rw[nG h];by_cases h2:n/4294967296=0
  ·rw[h2,cj];simp[ov];omega
  have:=ih _ (nF h);rw[nG h2]at this⊢;unfold ov at*
  rw[List.getLast?_cons_cons];exact this
theorem Ij {l:List Nat} (h1:Lmb l) (h2:ov l):l=aR (natV l):=
 Ld h1 (aW _) h2 (cd _) (aQ _).symm
theorem eB {l:List Nat} (h1:Lmb l):dR l=aR (natV l):=by
 rw[Ij (Kk h1) (Ki l),FQ]
theorem fV (n:Nat):dR (aR n)=aR n:=rR (cd n)
theorem xR {n:Nat}:aR n=[]↔n=0:=⟨fun h=>by rw[<- aQ n,h];rfl,fun h=>by rw[h,cj]⟩
theorem jb {n k:Nat} (h:n<4294967296^k):(aR n).length<=k:=Bu (cd n) (by rw[aQ];exact h)
theorem fE {n:Nat}:(aR n).length=0↔n=0:=by rw[List.length_eq_zero_iff,xR]
def Sz (z:Int) (k:Nat):Prop:=z.natAbs<4294967296^k
theorem Sz.len {z:Int} {k:Nat} (h:Sz z k):(aR z.natAbs).length<=k:=jb h
theorem Sz.mono {z:Int} {k l:Nat} (h:Sz z k) (hl:k<=l):Sz z l:=Nat.lt_of_lt_of_le h (Nat.pow_le_pow_right (by omega) hl)
def fZ (z:Int):List PV:=[.raw (.bool (decide (z<0))),.sl (ls fU (aR z.natAbs))]
def cZ (z:Int):List AV:=[.p (.raw (.bool (decide (z<0)))),.p (.sl (ls fU (aR z.natAbs)))]
abbrev tZ (z:Int):TV:= .agg [.p (.raw (.bool (decide (z<0)))),.p (.sl (ls fU (aR z.natAbs)))]
theorem mU (neg:Bool) (n:Nat):(f4 neg n).natAbs=n:=by unfold f4;split<;>simp
theorem yo (neg:Bool) (n:Nat):decide (f4 neg n<0)=(neg&&decide (0<n)):=by
 unfold f4;cases neg with
 |true=>simp
 |false=>simp
theorem ju (neg:Bool) (l:List Nat) (h:Lmb l) (hb:l.length<=1073741824):CallC Tryz.prog 53 [.raw (.bool neg),bF l] ⟨[],tZ (f4 neg (natV l))⟩:=by
 have ht:=iS l hb;rw[eB h]at ht;have hlen:(aR (natV l)).length<=1073741824:=by rw[<- eB h];exact Nat.le_trans (Kj l) hb
 refine aJ Tryz.func53 rfl (by kernel_rfl) ?_;rw[Tryz.ntmps53];refine aD fun _ K=>?_;simp(disch:=omega) only[kd,bF,aa,ae];apply K
 refine aG [⟨1,_,_,_,ht⟩] [] fun _ K=>?_;simp only[kd,bF,aa];apply K
 cases neg with
 |false=>
  refine aD fun _ K=>?_;simp(disch:=omega) only[kd,aa,ah];apply K
  refine aI ⟨.inr rfl,aH rfl ?_ rfl⟩;simp(disch:=omega) only[kd,Tryz.results53,aa,tZ];simp[tZ,mU,yo]
 |true=>
  refine aD fun _ K=>?_;simp(disch:=omega) only[kd,aa,ah];apply K
  refine aI ⟨.inr rfl,aH rfl ?_ rfl⟩;simp(disch:=omega) only[kd,Tryz.results53,aa,tZ];have:(0<(aR (natV l)).length)↔0<natV l:=by
   have:=fE (n:=natV l);omega
  simp[tZ,mU,yo,this]
abbrev Bg (z:Int):Prop:=Sz z 1073741824
theorem Bg.len {z:Int} (h:Bg z):(aR z.natAbs).length<=1073741824:=jb h
theorem Ci (z:Int):f4 (!decide (z<0)) z.natAbs= -z:=by unfold f4;by_cases h:z<0<;>simp[h]<;>omega
theorem xV (z:Int):f4 (decide (z<0)) z.natAbs=z:=by unfold f4;by_cases h:z<0<;>simp[h]<;>omega
theorem IX (z:Int) (h:Bg z):CallC Tryz.prog 58 [tZ z] ⟨[],tZ (-z)⟩:=by
 have ht:=ju (!decide (z<0)) (aR z.natAbs) (aW _) h.len;rw[aQ,Ci]at ht;refine aJ Tryz.func58 rfl (by kernel_rfl) ?_;rw[Tryz.ntmps58];refine aD fun _ K=>?_;simp(disch:=omega) only[kd,tZ,ae,aa,ab];apply K
 refine aG [⟨5,_,_,_,ht⟩] [] fun _ K=>?_;simp(disch:=omega) only[kd,bF,tZ,aa,ab];apply K
 (refine aI ⟨.inr rfl,aH rfl ?_ rfl⟩;simp(disch:=omega) only[kd,Tryz.results58,ab,aa,tZ])
theorem Df (z:Int) (h:Bg z):CallC Tryz.prog 128 [tZ z] ⟨[],tZ z.natAbs⟩:=by
 have ht:=ju false (aR z.natAbs) (aW _) h.len;rw[aQ,show f4 false z.natAbs=z.natAbs from rfl]at ht;refine aJ Tryz.func128 rfl (by kernel_rfl) ?_;rw[Tryz.ntmps128];refine aD fun _ K=>?_;simp(disch:=omega) only[kd,tZ,ae,aa,ab];apply K
 refine aG [⟨2,_,_,_,ht⟩] [] fun _ K=>?_;simp(disch:=omega) only[kd,bF,tZ,aa,ab];apply K
 (refine aI ⟨.inr rfl,aH rfl ?_ rfl⟩;simp(disch:=omega) only[kd,Tryz.results128,ab,aa,tZ])
theorem IY (z:Int) (h:Bg z):CallC Tryz.prog 99 [tZ z] ⟨[],tZ z⟩:=by
 have ht:=ju (decide (z<0)) (aR z.natAbs) (aW _) h.len;rw[aQ,xV]at ht;refine aJ Tryz.func99 rfl (by kernel_rfl) ?_;rw[Tryz.ntmps99];refine aD fun _ K=>?_;simp(disch:=omega) only[kd,tZ,ae,aa,ab];apply K
 refine aG [⟨4,_,_,_,ht⟩] [] fun _ K=>?_;simp(disch:=omega) only[kd,bF,tZ,aa,ab];apply K
 (refine aI ⟨.inr rfl,aH rfl ?_ rfl⟩;simp(disch:=omega) only[kd,Tryz.results99,ab,aa,tZ])
theorem yG (neg:Bool) (u:Nat) (hu:u<18446744073709551616):CallC Tryz.prog 52 [.raw (.bool neg),.raw (.int .u64 u)] ⟨[],tZ (f4 neg u)⟩:=by
 have ht:=ju neg [u%4294967296,u/4294967296] (by intro a ha;simp at ha;omega) (by simp);rw[w8]at ht;have e1:IntKind.u32.wrap (u:Int)=((u%4294967296:Nat):Int):=by rw[IntKind.wrap_u32];omega
 have e2:IntKind.u32.wrap ((u:Int).fdiv (2^(min (32:Int).toNat IntKind.u64.bits)))=((u/4294967296:Nat):Int):=by
  rw[IntKind.wrap_u32];show(Int.fdiv (u:Int) 4294967296)%4294967296=_;rw[Int.fdiv_eq_ediv_of_nonneg _ (by omega)];omega
 simp only[am]at e2;refine aJ Tryz.func52 rfl (by kernel_rfl) ?_;rw[Tryz.ntmps52];refine aD fun _ K=>?_;simp(disch:=omega) only[kd,aa,ae];apply K
 refine aG [⟨7,_,_,_,ht⟩] [] fun _ K=>?_;simp(disch:=omega) only[kd,bF,D2,tZ,aa,e1,Int.reduceLE,am,e2,Nat.reduceMul,ah];apply K
 (refine aI ⟨.inr rfl,aH rfl ?_ rfl⟩;simp(disch:=omega) only[kd,Tryz.results52,aa,tZ])
theorem fQ (n:Int) (h1: -9223372036854775808<=n) (h2:n<=9223372036854775807):CallC Tryz.prog 20 [.raw (.int .i64 n)] ⟨[],tZ n⟩:=by
 by_cases hn:n<0
 ·have ht:=yG true n.natAbs (by omega);have e1:IntKind.u64.wrap (0-IntKind.u64.wrap n)=((n.natAbs:Nat):Int):=by rw[IntKind.wrap_u64,IntKind.wrap_u64];omega
  rw[show f4 true n.natAbs=n by unfold f4;simp;omega]at ht;refine aJ Tryz.func20 rfl (by kernel_rfl) ?_;rw[Tryz.ntmps20];refine aD fun _ K=>?_;simp(disch:=omega) only[kd,ae,aa];apply K
  refine aE (aD fun _ K=>?_);simp(disch:=omega) only[kd];apply K;refine aS rfl ?_;refine aG [⟨3,_,_,_,ht⟩] [] fun _ K=>?_;simp(disch:=omega) only[kd,tZ,aa,e1];apply K
  (refine aI ⟨.inr rfl,aH rfl ?_ rfl⟩;simp(disch:=omega) only[kd,Tryz.results20,aa,tZ])
 have ht:=yG false n.natAbs (by omega);have e1:IntKind.u64.wrap n=((n.natAbs:Nat):Int):=by rw[IntKind.wrap_u64];omega
 rw[show f4 false n.natAbs=n by unfold f4;simp;omega]at ht;refine aJ Tryz.func20 rfl (by kernel_rfl) ?_;rw[Tryz.ntmps20];refine aD fun _ K=>?_;simp(disch:=omega) only[kd,ae,aa];apply K
 refine aE (aD fun _ K=>?_);simp(disch:=omega) only[kd];apply K;refine aO rfl (aL ?_);show bs _ _ _ _;refine aG [⟨2,_,_,_,ht⟩] [] fun _ K=>?_;simp(disch:=omega) only[kd,tZ,aa,e1];apply K
 (refine aI ⟨.inr rfl,aH rfl ?_ rfl⟩;simp(disch:=omega) only[kd,Tryz.results20,aa,tZ])
theorem mW (z:Int) (h:Bg z):CallC Tryz.prog 55 [tZ z] ⟨[],.raw (.int .i64 (sg z))⟩:=by
 have ht:=iS (aR z.natAbs) h.len;rw[fV]at ht;have hl:=fE (n:=z.natAbs);rcases Int.lt_trichotomy z 0 with hz|hz|hz
 ·have e:sg z= -1:=by simp[sg,hz]
  have hl':(aR z.natAbs).length≠0:=by omega
  rw[e];refine aJ Tryz.func55 rfl (by kernel_rfl) ?_;rw[Tryz.ntmps55];refine aD fun _ K=>?_;simp(disch:=omega) only[kd,tZ,ae,aa];apply K
  refine aE (aK ?_);refine aG [⟨2,_,_,_,ht⟩] [] fun _ K=>?_;simp(disch:=omega) only[kd,bF,aa];apply K
  refine aO rfl ?_;refine aD fun _ K=>?_;simp only[kd,aa];apply K
  refine aS rfl ?_;refine aD fun _ K=>?_;simp only[kd];apply K
  (refine aI ⟨.inr rfl,aH rfl ?_ rfl⟩;simp(disch:=omega) only[kd,Tryz.results55])
 ·subst hz;rw[show sg 0=0 from rfl];rw[Int.natAbs_zero,cj]at ht;rw[show tZ 0= .agg [.p (.raw (.bool false)),.p (.sl (ls fU []))]from by simp[tZ,cj]];refine aJ Tryz.func55 rfl (by kernel_rfl) ?_;rw[Tryz.ntmps55];refine aD fun _ K=>?_;simp(disch:=omega) only[kd,ae,aa];apply K
  refine aE (aK ?_);refine aG [⟨2,_,_,_,ht⟩] [] fun _ K=>?_;simp(disch:=omega) only[kd,bF,aa];apply K
  refine aS rfl ?_;refine aD fun _ K=>?_;simp only[kd];apply K
  (refine aI ⟨.inr rfl,aH rfl ?_ rfl⟩;simp(disch:=omega) only[kd,Tryz.results55])
 have e:sg z=1:=by unfold sg;rw[if_neg (by omega),if_neg (by omega)]
 have hl':(aR z.natAbs).length≠0:=by omega
 rw[e];refine aJ Tryz.func55 rfl (by kernel_rfl) ?_;rw[Tryz.ntmps55];refine aD fun _ K=>?_;simp(disch:=omega) only[kd,tZ,ae,aa];apply K
 refine aE (aK ?_);refine aG [⟨2,_,_,_,ht⟩] [] fun _ K=>?_;simp(disch:=omega) only[kd,bF,aa];apply K
 refine aO rfl ?_;refine aD fun _ K=>?_;simp only[kd,aa];apply K
 refine aO rfl (aL ?_);show bs _ _ _ _;refine aD fun _ K=>?_;simp only[kd];apply K
 (refine aI ⟨.inr rfl,aH rfl ?_ rfl⟩;simp(disch:=omega) only[kd,Tryz.results55])
theorem Dw (l m:List Nat) (ll:Lmb l) (lm:Lmb m) (cl:ov l) (cm:ov m) (bl:l.length<=1073741824) (bm:m.length<=1073741824):
  CallC Tryz.prog 60 [bF l,bF m] ⟨[],.raw (.int .i64 (fX (natV l) (natV m)))⟩:=by
 rcases Nat.lt_trichotomy l.length m.length with hlt|heq|hgt
 ·rw[nt (iH ll cm hlt)];refine aJ Tryz.func60 rfl (by kernel_rfl) ?_;rw[Tryz.ntmps60];refine aD fun _ K=>?_;simp only[kd,bF,aa,ae];apply K
  refine aE (aD fun _ K=>?_);simp(disch:=omega) only[kd,aa];apply K;refine aS rfl ?_;refine aE (aD fun _ K=>?_);simp(disch:=omega) only[kd,aa];apply K;refine aS rfl ?_;refine aD fun _ K=>?_;simp only[kd];apply K
  (refine aI ⟨.inr rfl,aH rfl ?_ rfl⟩;simp(disch:=omega) only[kd,Tryz.results60])
 ·refine aJ Tryz.func60 rfl (by kernel_rfl) ?_;rw[Tryz.ntmps60];refine aD fun _ K=>?_;simp only[kd,bF,aa,ae];apply K
  refine aE (aD fun _ K=>?_);simp(disch:=omega) only[kd,aa];apply K;refine aO rfl (aL ?_);show bs _ _ _ _;refine aE (aD fun _ K=>?_);simp(disch:=omega) only[kd,aa,aP];apply K;refine aT (G:={k:Nat//k<=l.length/\l.drop k=m.drop k}) (fun k=>⟨(bF l::bF m::jk::jk::.raw (.int .i64 0)::.raw (.int .i64 ((k.1:Int)-1))::j16 (j16 (jk::jk::jk::[]))),Hm []⟩) (fun k=>k.1) ⟨l.length,Nat.le_refl _,by rw[List.drop_length,heq,List.drop_length]⟩ ?_ ?_
  ·refine aF trivial ?_;simp[wk]
  rintro⟨k,hk,hd⟩;simp only;by_cases h0:0<k
  ·obtain⟨a,ha⟩:=getElem?_of_lt (l:=l) (k:=k-1) (by omega);obtain⟨b,hb⟩:=getElem?_of_lt (l:=m) (k:=k-1) (by omega);have e1:((k:Int)-1).toNat=k-1:=by omega
   have hd':l.drop (k-1+1)=m.drop (k-1+1):=by rw[show k-1+1=k by omega];exact hd
   refine aE (aD fun _ K=>?_);simp(disch:=omega) only[kd,bF];apply K;refine aS rfl (aL ?_);refine aE (aK ?_);refine cK aZ (by kernel_rfl) fun _ K=>?_;simp(disch:=omega) only[kd,aa,e1,ha,hb];apply K
   rcases Nat.lt_trichotomy a b with hab|hab|hab
   ·rw[nt (lP ll ha hb hd' hab)];refine bT rfl (fun _=>?_) (fun h=>by simp at h<;>omega);refine aE (cK aZ (by kernel_rfl) fun _ K=>?_);simp(disch:=omega) only[kd,aa,e1,ha,hb];apply K;refine aS rfl ?_;refine aD fun _ K=>?_;simp only[kd];apply K
    (refine aI ⟨.inr rfl,aH rfl ?_ rfl⟩;simp(disch:=omega) only[kd,Tryz.results60])
   ·subst hab;refine bT rfl (fun h=>by simp at h<;>omega) (fun _=>aL ?_);show bs _ _ _ _;refine aM fun _ K=>?_;simp(disch:=omega) only[kd,aa,aP];apply K
    refine⟨⟨k-1,by omega,wh ha hb hd'⟩,by simp only;omega,aF trivial ?_⟩;have e2:((k-1:Nat):Int)=(k:Int)-1:=by omega
    simp[wk,e2]
   rw[r6 (lP lm hb ha hd'.symm hab)];refine bT rfl (fun _=>?_) (fun h=>by simp at h<;>omega);refine aE (cK aZ (by kernel_rfl) fun _ K=>?_);simp(disch:=omega) only[kd,aa,e1,ha,hb];apply K;refine aO rfl (aL ?_);show bs _ _ _ _;refine aD fun _ K=>?_;simp only[kd];apply K
   (refine aI ⟨.inr rfl,aH rfl ?_ rfl⟩;simp(disch:=omega) only[kd,Tryz.results60])
  have hk0:k=0:=by omega
  subst hk0;have hlm:l=m:=by simpa using hd
  rw[show fX (natV l) (natV m)=0 by rw[hlm];simp[fX]];refine aE (aD fun _ K=>?_);simp(disch:=omega) only[kd,bF];apply K;refine aO rfl (bK ?_);show bs _ _ _ _;refine aD fun _ K=>?_;simp only[kd];apply K
  (refine aI ⟨.inr rfl,aH rfl ?_ rfl⟩;simp(disch:=omega) only[kd,Tryz.results60])
 rw[r6 (iH lm cl hgt)];refine aJ Tryz.func60 rfl (by kernel_rfl) ?_;rw[Tryz.ntmps60];refine aD fun _ K=>?_;simp only[kd,bF,aa,ae];apply K
 refine aE (aD fun _ K=>?_);simp(disch:=omega) only[kd,aa];apply K;refine aS rfl ?_;refine aE (aD fun _ K=>?_);simp(disch:=omega) only[kd,aa];apply K;refine aO rfl (aL ?_);show bs _ _ _ _;refine aD fun _ K=>?_;simp only[kd];apply K
 (refine aI ⟨.inr rfl,aH rfl ?_ rfl⟩;simp(disch:=omega) only[kd,Tryz.results60])
def oh (a b:Int):Int:=if a<b then -1 else if a=b then 0 else 1
theorem p9 (z:Int): -1<=sg z/\sg z<=1:=by unfold sg;split<;>(try split)<;>omega
theorem th (a b:Nat): -1<=fX a b/\fX a b<=1:=by unfold fX;split<;>(try split)<;>omega
theorem Dv {a b:Int} (h:sg a≠sg b):oh a b=if sg a<sg b then -1 else 1:=by
 unfold sg oh at*
 (repeat' split at*)<;>omega
theorem Du {a b:Int} (h:sg a=sg b):oh a b=sg a*fX a.natAbs b.natAbs:=by
 unfold sg oh fX at*
 (repeat' split at*)<;>omega
theorem sI (a b:Int) (ha:Bg a) (hb:Bg b):CallC Tryz.prog 24 [tZ a,tZ b] ⟨[],.raw (.int .i64 (oh a b))⟩:=by
 have h1:=mW a ha;have h2:=mW b hb;have t1:=iS (aR a.natAbs) ha.len;have t2:=iS (aR b.natAbs) hb.len;rw[fV]at t1 t2;have h3:=Dw (aR a.natAbs) (aR b.natAbs) (aW _) (aW _) (cd _) (cd _) ha.len hb.len;rw[aQ,aQ]at h3;have r1:=p9 a;have r2:=p9 b;have r3:=th a.natAbs b.natAbs;have r4: -1<=sg a*fX a.natAbs b.natAbs/\sg a*fX a.natAbs b.natAbs<=1:=by
  have:sg a= -1\/sg a=0\/sg a=1:=by omega
  rcases this with h|h|h<;>rw[h]<;>omega
 by_cases hs:sg a=sg b
 ·rw[Du hs];refine aJ Tryz.func24 rfl (by kernel_rfl) ?_;rw[Tryz.ntmps24];refine aD fun _ K=>?_;simp(disch:=omega) only[kd,aa,tZ,ae,ab];apply K
  refine bv aZ [⟨1,_,_,_,h1⟩,⟨3,_,_,_,h2⟩] [] (by kernel_rfl) fun _ K=>?_;simp only[kd,tZ,aa,ab,af];apply K
  refine aE (aD fun _ K=>?_);simp(disch:=omega) only[kd,aa];apply K;refine aO rfl (aL ?_);show bs _ _ _ _;refine bv aZ [⟨3,_,_,_,t1⟩,⟨6,_,_,_,t2⟩,⟨7,_,_,_,h3⟩] [] (by kernel_rfl) fun _ K=>?_;simp(disch:=omega) only[kd,bF,aa,ab,af,aP];apply K
  (refine aI ⟨.inr rfl,aH rfl ?_ rfl⟩;simp(disch:=omega) only[kd,Tryz.results24])
 rw[Dv hs];refine aJ Tryz.func24 rfl (by kernel_rfl) ?_;rw[Tryz.ntmps24];refine aD fun _ K=>?_;simp(disch:=omega) only[kd,aa,tZ,ae,ab];apply K
 refine bv aZ [⟨1,_,_,_,h1⟩,⟨3,_,_,_,h2⟩] [] (by kernel_rfl) fun _ K=>?_;simp only[kd,tZ,aa,ab,af];apply K
 refine aE (aD fun _ K=>?_);simp(disch:=omega) only[kd,aa];apply K;refine aS rfl ?_;refine aE (aD fun _ K=>?_);simp only[kd,aa];apply K;by_cases hlt:sg a<sg b
 ·rw[if_pos hlt];refine bT rfl (fun _=>?_) (fun h=>by simp at h<;>omega);refine aD fun _ K=>?_;simp(disch:=omega) only[kd];apply K
  (refine aI ⟨.inr rfl,aH rfl ?_ rfl⟩;simp(disch:=omega) only[kd,Tryz.results24])
 rw[if_neg hlt];refine bT rfl (fun h=>by simp at h<;>omega) (fun _=>aL ?_);show bs _ _ _ _;refine aD fun _ K=>?_;simp(disch:=omega) only[kd];apply K
 (refine aI ⟨.inr rfl,aH rfl ?_ rfl⟩;simp(disch:=omega) only[kd,Tryz.results24])
def sumL:List Nat->List Nat->Nat->List Nat
 |[],[],c=>[c]
 |a::m,[],c=>(c+a)%4294967296::sumL m [] ((c+a)/4294967296)
 |[],b::n,c=>(c+b)%4294967296::sumL [] n ((c+b)/4294967296)
 |a::m,b::n,c=>(c+a+b)%4294967296::sumL m n ((c+a+b)/4294967296)
theorem kF: ∀(m n:List Nat) (c:Nat),natV (sumL m n c)=natV m+natV n+c
 |[],[],c=>by simp[sumL,natV]
 |a::m,[],c=>by simp only[sumL,natV,kF m []];omega
 |[],b::n,c=>by simp only[sumL,natV,kF [] n];omega
 |a::m,b::n,c=>by simp only[sumL,natV,kF m n];omega
theorem dM {a:Nat} {l:List Nat}:Lmb (a::l)↔a<4294967296/\Lmb l:=by simp[Lmb]
theorem mL: ∀(m n:List Nat) (c:Nat),Lmb m->Lmb n->c<=1->Lmb (sumL m n c)
 |[],[],c,_,_,hc=>by simp[sumL,Lmb];omega
 |a::m,[],c,hm,hn,hc=>by
  rw[dM]at hm;rw[sumL,dM];exact⟨Nat.mod_lt _ (by omega),mL m [] _ hm.2 hn (by omega)⟩
 |[],b::n,c,hm,hn,hc=>by
  rw[dM]at hn;rw[sumL,dM];exact⟨Nat.mod_lt _ (by omega),mL [] n _ hm hn.2 (by omega)⟩
 |a::m,b::n,c,hm,hn,hc=>by
  rw[dM]at hm hn;rw[sumL,dM];exact⟨Nat.mod_lt _ (by omega),mL m n _ hm.2 hn.2 (by omega)⟩
theorem mY: ∀(m n:List Nat) (c:Nat),(sumL m n c).length=max m.length n.length+1
 |[],[],c=>by simp[sumL]
 |a::m,[],c=>by simp[sumL,mY m []]
 |[],b::n,c=>by simp[sumL,mY [] n]
 |a::m,b::n,c=>by simp[sumL,mY m n]
theorem ea {l:List Nat} {i a:Nat} (h:l[i]?=some a):l.drop i=a::l.drop (i+1):=by
 obtain⟨h1,rfl⟩:=List.getElem?_eq_some_iff.1 h;exact List.drop_eq_getElem_cons h1
theorem dL {l:List Nat} {i:Nat} (h:l.length<=i):l.drop i=[]:=List.drop_eq_nil_iff.2 h
theorem cn {l:List Nat} {i a:Nat} (hl:Lmb l) (h:l[i]?=some a):a<4294967296:=hl a (List.mem_of_getElem? h)
theorem sH (x:Nat):IntKind.u32.wrap (x:Int)=((x%4294967296:Nat):Int):=by rw[IntKind.wrap_u32];omega
theorem GL (x:Nat):(x:Int).fdiv (2^(min 32 IntKind.u64.bits))=((x/4294967296:Nat):Int):=by
 show Int.fdiv (x:Int) 4294967296=_;rw[Int.fdiv_eq_ediv_of_nonneg _ (by omega)];omega
structure Qy (m n:List Nat) where
 i:Nat
 o:List Nat
 c:Nat
 hi:i<=max m.length n.length
 hc:c<=1
 ho:o.length=i
 h:o++sumL (m.drop i) (n.drop i) c=sumL m n 0
theorem P6 (m n:List Nat) (lm:Lmb m) (ln:Lmb n) (bm:m.length<=1073741824) (bn:n.length<=1073741824):
  CallC Tryz.prog 130 [bF m,bF n] ⟨[],bF (sumL m n 0)⟩:=by
 refine aJ Tryz.func130 rfl (by kernel_rfl) ?_;rw[Tryz.ntmps130];refine aD fun _ K=>?_;simp only[kd,bF,aa,ae];apply K
 refine aD fun _ K=>?_;simp only[kd];apply K
 refine aD fun _ K=>?_;simp only[kd];apply K
 refine aE (aD fun _ K=>?_);simp only[kd];apply K;refine aT (G:=Qy m n) (fun g=>⟨(bF m::bF n::jk::jk::.raw (.slice none 0 0)::.one (.sl 46 0 0 g.o.length)::.raw (.int .u64 (g.c:Int))::rN g.i::j16 (j16 (j4 (j4 (j4 (jk::jk::[])))))),Hm [(46,[⟨79,1,lc fU g.o⟩])]⟩) (fun g=>max m.length n.length-g.i) ⟨0,[],0,by omega,by omega,rfl,rfl⟩ ?_ ?_
 ·refine(fg (k:=5) (d:=46) 79 1 (by omega) rfl rfl).trans (aF ⟨rfl,trivial⟩ ?_);simp[wk]
 rintro⟨i,o,c,hi,hc,ho,h⟩;simp only;have hmx:max m.length n.length<=1073741824:=by omega
 by_cases hm:i<m.length
 ·obtain⟨a,ha⟩:=getElem?_of_lt hm;have ha':=cn lm ha;refine aE (aD fun _ K=>?_);simp(disch:=omega) only[kd,aa,bF,reduceCtorEq];apply K;refine aS rfl (aL ?_);refine aE (aK ?_);refine aE (aD fun _ K=>?_);simp(disch:=omega) only[kd,aa];apply K;refine aS rfl ?_;refine aM fun _ K=>?_;simp(disch:=omega) only[kd,aa,ha,dn];apply K
  show bs _ _ _ _;refine aE (aD fun _ K=>?_);simp only[kd,aa];apply K;by_cases hn:i<n.length
  ·obtain⟨b,hb⟩:=getElem?_of_lt hn;have hb':=cn ln hb;refine bT rfl (fun _=>?_) (fun h=>by simp at h<;>omega);refine aM fun _ K=>?_;simp(disch:=omega) only[kd,aa,hb,dn];apply K
   show bs _ _ _ _;have e1:IntKind.u32.wrap ((c:Int)+(a:Int)+(b:Int))=(((c+a+b)%4294967296:Nat):Int):=by rw[<- sH];congr 1<;>omega
   have e2:Int.fdiv ((c:Int)+(a:Int)+(b:Int)) (2^(min 32 IntKind.u64.bits))=(((c+a+b)/4294967296:Nat):Int):=by rw[<- GL];congr 1<;>omega
   refine aD fun _ K=>?_;simp(disch:=omega) only[kd,aa,e1,Nat.reduceMul,ah,iE];apply K
   refine aM fun _ K=>?_;simp only[kd,aa,Int.reduceLE,am,e2];apply K
   show bs _ _ _ _;refine aM fun _ K=>?_;simp(disch:=omega) only[kd,aa,aP];apply K
   refine⟨⟨i+1,o++[(c+a+b)%4294967296],(c+a+b)/4294967296,by omega,by omega,by simp[ho],?_⟩,by simp only;omega,aF ⟨rfl,trivial⟩ ?_⟩
   ·rw[<- h,ea ha,ea hb,sumL,List.append_assoc];rfl
   simp[wk]
  refine bT rfl (fun h=>by simp at h<;>omega) (fun _=>aL ?_);show bs _ _ _ _;have e1:IntKind.u32.wrap ((c:Int)+(a:Int))=(((c+a)%4294967296:Nat):Int):=by rw[<- sH];congr 1<;>omega
  have e2:Int.fdiv ((c:Int)+(a:Int)) (2^(min 32 IntKind.u64.bits))=(((c+a)/4294967296:Nat):Int):=by rw[<- GL];congr 1<;>omega
  refine aD fun _ K=>?_;simp(disch:=omega) only[kd,aa,e1,Nat.reduceMul,ah,iE];apply K
  refine aM fun _ K=>?_;simp only[kd,aa,Int.reduceLE,am,e2];apply K
  show bs _ _ _ _;refine aM fun _ K=>?_;simp(disch:=omega) only[kd,aa,aP];apply K
  refine⟨⟨i+1,o++[(c+a)%4294967296],(c+a)/4294967296,by omega,by omega,by simp[ho],?_⟩,by simp only;omega,aF ⟨rfl,trivial⟩ ?_⟩
  ·rw[<- h,ea ha,dL (by omega:n.length<=i),dL (by omega:n.length<=i+1),sumL,List.append_assoc];rfl
  simp[wk]
 by_cases hn:i<n.length
 ·obtain⟨b,hb⟩:=getElem?_of_lt hn;have hb':=cn ln hb;refine aE (aD fun _ K=>?_);simp(disch:=omega) only[kd,aa,bF];apply K;refine aS rfl (aL ?_);refine aE (aK ?_);refine aE (aD fun _ K=>?_);simp(disch:=omega) only[kd,aa];apply K;refine aO rfl (aL ?_);show bs _ _ _ _;refine aE (aD fun _ K=>?_);simp(disch:=omega) only[kd,aa];apply K;refine aS rfl ?_;refine aM fun _ K=>?_;simp(disch:=omega) only[kd,aa,hb,dn];apply K
  show bs _ _ _ _;have e1:IntKind.u32.wrap ((c:Int)+(b:Int))=(((c+b)%4294967296:Nat):Int):=by rw[<- sH];congr 1<;>omega
  have e2:Int.fdiv ((c:Int)+(b:Int)) (2^(min 32 IntKind.u64.bits))=(((c+b)/4294967296:Nat):Int):=by rw[<- GL];congr 1<;>omega
  refine aD fun _ K=>?_;simp(disch:=omega) only[kd,aa,e1,Nat.reduceMul,ah,iE];apply K
  refine aM fun _ K=>?_;simp only[kd,aa,Int.reduceLE,am,e2];apply K
  show bs _ _ _ _;refine aM fun _ K=>?_;simp(disch:=omega) only[kd,aa,aP];apply K
  refine⟨⟨i+1,o++[(c+b)%4294967296],(c+b)/4294967296,by omega,by omega,by simp[ho],?_⟩,by simp only;omega,aF ⟨rfl,trivial⟩ ?_⟩
  ·rw[<- h,ea hb,dL (by omega:m.length<=i),dL (by omega:m.length<=i+1),sumL,List.append_assoc];rfl
  simp[wk]
 refine aE (aD fun _ K=>?_);simp(disch:=omega) only[kd,aa,bF];apply K;refine aO rfl (bK ?_);show bs _ _ _ _;have e1:IntKind.u32.wrap (c:Int)=(c:Int):=by rw[sH];omega
 refine aD fun _ K=>?_;simp(disch:=omega) only[kd,aa,e1,Nat.reduceMul,ah,iE];apply K
 have hfin:sumL m n 0=o++[c]:=by rw[<- h,dL (by omega:m.length<=i),dL (by omega:n.length<=i),sumL]
 (refine aI ⟨.inr rfl,jz 46 (cH rfl) ?_ rfl⟩;simp(disch:=omega) only[kd,Tryz.results130,bF])
 simp only[hfin];rw[List.take_of_length_le (by simp)]
def diffL:List Nat->List Nat->Nat->List Nat
 |[],_,_=>[]
 |a::m,[],w=>(a+8589934592-w)%4294967296::diffL m [] (if a<w then 1 else 0)
 |a::m,b::n,w=>(a+8589934592-(w+b))%4294967296::diffL m n (if a<w+b then 1 else 0)
theorem ik: ∀(m n:List Nat) (w:Nat),Lmb m->Lmb n->w<=1->n.length<=m.length->natV n+w<=natV m->natV (diffL m n w)+(natV n+w)=natV m
 |[],[],w,_,_,_,_,h=>by simp[diffL,natV]at*;omega
 |[],b::n,w,_,_,_,h,_=>by simp at h
 |a::m,[],w,hm,hn,hw,hl,h=>by
  rw[dM]at hm;simp only[natV]at h;have:=ik m [] (if a<w then 1 else 0) hm.2 hn (by split<;>omega) (by simp) (by simp only[natV];split<;>omega);simp only[diffL,natV]at this⊢;split at this<;>rename_i hlt<;>simp only[hlt,if_true,if_false]<;>omega
 |a::m,b::n,w,hm,hn,hw,hl,h=>by
  rw[dM]at hm hn;simp only[natV]at h;have:=ik m n (if a<w+b then 1 else 0) hm.2 hn.2 (by split<;>omega) (by simpa using hl) (by split<;>omega);simp only[diffL,natV]at this⊢;split at this<;>rename_i hlt<;>simp only[hlt,if_true,if_false]<;>omega
theorem jc: ∀(m n:List Nat) (w:Nat),Lmb (diffL m n w)
 |[],n,w=>by simp[diffL,Lmb]
 |a::m,[],w=>by rw[diffL,dM];exact⟨Nat.mod_lt _ (by omega),jc m [] _⟩
 |a::m,b::n,w=>by rw[diffL,dM];exact⟨Nat.mod_lt _ (by omega),jc m n _⟩
theorem ja: ∀(m n:List Nat) (w:Nat),(diffL m n w).length=m.length
 |[],n,w=>by simp[diffL]
 |a::m,[],w=>by simp[diffL,ja m []]
 |a::m,b::n,w=>by simp[diffL,ja m n]
structure Pv (m n:List Nat) where
 i:Nat
 o:List Nat
 c:Nat
 hi:i<=m.length
 hc:c<=1
 ho:o.length=i
 h:o++diffL (m.drop i) (n.drop i) c=diffL m n 0
theorem lC (m n:List Nat) (lm:Lmb m) (ln:Lmb n) (bm:m.length<=1073741824) (bn:n.length<=1073741824):
  CallC Tryz.prog 131 [bF m,bF n] ⟨[],bF (diffL m n 0)⟩:=by
 refine aJ Tryz.func131 rfl (by kernel_rfl) ?_;rw[Tryz.ntmps131];refine aD fun _ K=>?_;simp only[kd,bF,aa,ae];apply K
 refine aD fun _ K=>?_;simp only[kd];apply K
 refine aD fun _ K=>?_;simp only[kd];apply K
 refine aE (aD fun _ K=>?_);simp only[kd];apply K;refine aT (G:=Pv m n) (fun g=>⟨(bF m::bF n::jk::jk::.raw (.slice none 0 0)::.one (.sl 37 0 0 g.o.length)::.raw (.int .u64 (g.c:Int))::rN g.i::j16 (j16 (j4 (jk::jk::[])))),Hm [(37,[⟨79,1,lc fU g.o⟩])]⟩) (fun g=>m.length-g.i) ⟨0,[],0,by omega,by omega,rfl,rfl⟩ ?_ ?_
 ·refine(fg (k:=5) (d:=37) 79 1 (by omega) rfl rfl).trans (aF ⟨rfl,trivial⟩ ?_);simp[wk]
 rintro⟨i,o,c,hi,hc,ho,h⟩;simp only;by_cases hm:i<m.length
 ·obtain⟨a,ha⟩:=getElem?_of_lt hm;have ha':=cn lm ha;refine aE (aD fun _ K=>?_);simp(disch:=omega) only[kd,aa,bF];apply K;refine aS rfl (aL ?_);refine aE (aK ?_);refine aD fun _ K=>?_;simp only[kd];apply K
  refine aE (aD fun _ K=>?_);simp only[kd,aa];apply K;by_cases hn:i<n.length
  ·obtain⟨b,hb⟩:=getElem?_of_lt hn;have hb':=cn ln hb;refine bT rfl (fun _=>?_) (fun h=>by simp at h<;>omega);refine aM fun _ K=>?_;simp(disch:=omega) only[kd,aa,hb,dn];apply K
   show bs _ _ _ _;have e1:IntKind.u32.wrap (IntKind.u64.wrap ((a:Int)-((c:Int)+(b:Int))))=(((a+8589934592-(c+b))%4294967296:Nat):Int):=by rw[IntKind.wrap_u32,IntKind.wrap_u64];omega
   refine aD fun _ K=>?_;simp(disch:=omega) only[kd,aa,ha,dn,e1,Nat.reduceMul,ah,iE];apply K
   refine aD fun _ K=>?_;simp only[kd];apply K
   refine aD fun _ K=>?_;simp(disch:=omega) only[kd,aa,ha,dn];apply K
   by_cases hlt:a<c+b
   ·refine bT rfl (fun _=>?_) (fun h=>by simp at h<;>omega);refine aM fun _ K=>?_;simp(disch:=omega) only[kd];apply K
    show bs _ _ _ _;refine aM fun _ K=>?_;simp(disch:=omega) only[kd,aa,aP];apply K
    refine⟨⟨i+1,o++[(a+8589934592-(c+b))%4294967296],1,by omega,by omega,by simp[ho],?_⟩,by simp only;omega,aF ⟨rfl,trivial⟩ ?_⟩
    ·rw[<- h,ea ha,ea hb,diffL,List.append_assoc,if_pos hlt];rfl
    simp[wk]
   refine bT rfl (fun h=>by simp at h<;>omega) (fun _=>aL ?_);show bs _ _ _ _;refine aM fun _ K=>?_;simp(disch:=omega) only[kd,aa,dn,aP];apply K
   refine⟨⟨i+1,o++[(a+8589934592-(c+b))%4294967296],0,by omega,by omega,by simp[ho],?_⟩,by simp only;omega,aF ⟨rfl,trivial⟩ ?_⟩
   ·rw[<- h,ea ha,ea hb,diffL,List.append_assoc,if_neg hlt];rfl
   simp[wk]
  refine bT rfl (fun h=>by simp at h<;>omega) (fun _=>aL ?_);show bs _ _ _ _;have e1:IntKind.u32.wrap (IntKind.u64.wrap ((a:Int)-(c:Int)))=(((a+8589934592-c)%4294967296:Nat):Int):=by rw[IntKind.wrap_u32,IntKind.wrap_u64];omega
  refine aD fun _ K=>?_;simp(disch:=omega) only[kd,aa,ha,dn,e1,Nat.reduceMul,ah,iE];apply K
  refine aD fun _ K=>?_;simp only[kd];apply K
  refine aD fun _ K=>?_;simp(disch:=omega) only[kd,aa,ha,dn];apply K
  by_cases hlt:a<c
  ·refine bT rfl (fun _=>?_) (fun h=>by simp at h<;>omega);refine aM fun _ K=>?_;simp(disch:=omega) only[kd];apply K
   show bs _ _ _ _;refine aM fun _ K=>?_;simp(disch:=omega) only[kd,aa,aP];apply K
   refine⟨⟨i+1,o++[(a+8589934592-c)%4294967296],1,by omega,by omega,by simp[ho],?_⟩,by simp only;omega,aF ⟨rfl,trivial⟩ ?_⟩
   ·rw[<- h,ea ha,dL (by omega:n.length<=i),dL (by omega:n.length<=i+1),diffL,List.append_assoc,if_pos hlt];rfl
   simp[wk]
  refine bT rfl (fun h=>by simp at h<;>omega) (fun _=>aL ?_);show bs _ _ _ _;refine aM fun _ K=>?_;simp(disch:=omega) only[kd,aa,dn,aP];apply K
  refine⟨⟨i+1,o++[(a+8589934592-c)%4294967296],0,by omega,by omega,by simp[ho],?_⟩,by simp only;omega,aF ⟨rfl,trivial⟩ ?_⟩
  ·rw[<- h,ea ha,dL (by omega:n.length<=i),dL (by omega:n.length<=i+1),diffL,List.append_assoc,if_neg hlt];rfl
  simp[wk]
 refine aE (aD fun _ K=>?_);simp(disch:=omega) only[kd,aa,bF];apply K;refine aO rfl (bK ?_);show bs _ _ _ _;refine aD fun _ K=>?_;simp only[kd];apply K
 have hfin:diffL m n 0=o:=by rw[<- h,dL (by omega:m.length<=i),diffL];simp
 (refine aI ⟨.inr rfl,jz 37 (cH rfl) ?_ rfl⟩;simp(disch:=omega) only[kd,Tryz.results131,bF])
 simp only[hfin];rw[List.take_of_length_le (by simp)]
abbrev Bh (z:Int):Prop:=Sz z 536870912
theorem Bh.bg {z:Int} (h:Bh z):Bg z:=h.mono (by omega)
theorem Bh.len {z:Int} (h:Bh z):(aR z.natAbs).length<=536870912:=jb h
theorem Sz.neg {z:Int} {k:Nat} (h:Sz z k):Sz (-z) k:=by unfold Sz;rw[Int.natAbs_neg];exact h
theorem Bh.neg {z:Int} (h:Bh z):Bh (-z):=Sz.neg h
theorem Hi {a b:Int} (h:decide (a<0)=decide (b<0)):f4 (decide (a<0)) (a.natAbs+b.natAbs)=a+b:=by
 unfold f4;by_cases ha:a<0<;>by_cases hb:b<0<;>simp[ha,hb]at h⊢ <;>omega
theorem zf {a b:Int} (h:decide (a<0)≠decide (b<0)) (hle:b.natAbs<=a.natAbs) {d:Nat} (hd:d+(b.natAbs+0)=a.natAbs):f4 (decide (a<0)) d=a+b:=by
 unfold f4;by_cases ha:a<0<;>by_cases hb:b<0<;>simp[ha,hb]at h⊢ <;>omega
theorem iG {l m:List Nat} (hl:Lmb l) (cm:ov m) (h:natV m<=natV l):m.length<=l.length:=by
 by_cases hc:m.length<=l.length
 ·exact hc
 have:=iH hl cm (by omega);omega
theorem vL (a b:Int) (ha:Bh a) (hb:Bh b):CallC Tryz.prog 101 [tZ a,tZ b] ⟨[],tZ (a+b)⟩:=by
 have la:=ha.len;have lb:=hb.len;have t1:=iS (aR a.natAbs) ha.bg.len;have t2:=iS (aR b.natAbs) hb.bg.len;rw[fV]at t1 t2;by_cases hs:decide (a<0)=decide (b<0)
 ·have h3:=P6 (aR a.natAbs) (aR b.natAbs) (aW _) (aW _) (by omega) (by omega);have h4:=ju (decide (a<0)) (sumL (aR a.natAbs) (aR b.natAbs) 0) (mL _ _ _ (aW _) (aW _) (by omega)) (by rw[mY];omega);rw[kF,aQ,aQ,Nat.add_zero,Hi hs]at h4;have hs':(decide (a<0)==decide (b<0))=true:=by simp[hs]
  refine aJ Tryz.func101 rfl (by kernel_rfl) ?_;rw[Tryz.ntmps101];refine aD fun _ K=>?_;simp(disch:=omega) only[kd,aa,tZ,ae,ab];apply K
  refine bv aZ [⟨2,_,_,_,t1⟩,⟨5,_,_,_,t2⟩] [] (by kernel_rfl) fun _ K=>?_;simp(disch:=omega) only[kd,bF,aa,ab,af];apply K
  refine aE (aD fun _ K=>?_);simp(disch:=omega) only[kd,aa,ab,hs'];apply K;refine aS rfl ?_;refine bv aZ [⟨4,_,_,_,h3⟩,⟨5,_,_,_,h4⟩] [] (by kernel_rfl) fun _ K=>?_;simp(disch:=omega) only[kd,bF,tZ,aa,ab,af];apply K
  (refine aI ⟨.inr rfl,aH rfl ?_ rfl⟩;simp(disch:=omega) only[kd,Tryz.results101,ab,aa,tZ])
 have hs':(decide (a<0)==decide (b<0))=false:=by simpa using hs
 have h3:=Dw (aR a.natAbs) (aR b.natAbs) (aW _) (aW _) (cd _) (cd _) (by omega) (by omega);rw[aQ,aQ]at h3;by_cases hle:b.natAbs<=a.natAbs
 ·have hge:0<=fX a.natAbs b.natAbs:=by unfold fX;split<;>(try split)<;>omega
  have h4:=lC (aR a.natAbs) (aR b.natAbs) (aW _) (aW _) (by omega) (by omega);have h5:=ju (decide (a<0)) (diffL (aR a.natAbs) (aR b.natAbs) 0) (jc _ _ _) (by rw[ja];omega);have hd:=ik (aR a.natAbs) (aR b.natAbs) 0 (aW _) (aW _) (by omega) (iG (aW _) (cd _) (by rw[aQ,aQ];exact hle)) (by rw[aQ,aQ];exact hle);rw[aQ,aQ]at hd;rw[zf hs hle hd]at h5;refine aJ Tryz.func101 rfl (by kernel_rfl) ?_;rw[Tryz.ntmps101];refine aD fun _ K=>?_;simp(disch:=omega) only[kd,aa,tZ,ae,ab];apply K
  refine bv aZ [⟨2,_,_,_,t1⟩,⟨5,_,_,_,t2⟩] [] (by kernel_rfl) fun _ K=>?_;simp(disch:=omega) only[kd,bF,aa,ab,af];apply K
  refine aE (aD fun _ K=>?_);simp(disch:=omega) only[kd,aa,ab,hs'];apply K;refine aO rfl (aL ?_);show bs _ _ _ _;refine aE (aG [⟨2,_,_,_,h3⟩] [] fun _ K=>?_);simp(disch:=omega) only[kd,bF,aa];apply K;refine aS rfl ?_;refine bv aZ [⟨4,_,_,_,h4⟩,⟨5,_,_,_,h5⟩] [] (by kernel_rfl) fun _ K=>?_;simp(disch:=omega) only[kd,bF,tZ,aa,ab,af];apply K
  (refine aI ⟨.inr rfl,aH rfl ?_ rfl⟩;simp(disch:=omega) only[kd,Tryz.results101,ab,aa,tZ])
 have hge:fX a.natAbs b.natAbs<0:=by unfold fX;split<;>(try split)<;>omega
 have h4:=lC (aR b.natAbs) (aR a.natAbs) (aW _) (aW _) (by omega) (by omega);have h5:=ju (decide (b<0)) (diffL (aR b.natAbs) (aR a.natAbs) 0) (jc _ _ _) (by rw[ja];omega);have hd:=ik (aR b.natAbs) (aR a.natAbs) 0 (aW _) (aW _) (by omega) (iG (aW _) (cd _) (by rw[aQ,aQ];omega)) (by rw[aQ,aQ];omega);rw[aQ,aQ]at hd;rw[zf (fun h=>hs h.symm) (by omega) hd,Int.add_comm]at h5;refine aJ Tryz.func101 rfl (by kernel_rfl) ?_;rw[Tryz.ntmps101];refine aD fun _ K=>?_;simp(disch:=omega) only[kd,aa,tZ,ae,ab];apply K
 refine bv aZ [⟨2,_,_,_,t1⟩,⟨5,_,_,_,t2⟩] [] (by kernel_rfl) fun _ K=>?_;simp(disch:=omega) only[kd,bF,aa,ab,af];apply K
 refine aE (aD fun _ K=>?_);simp(disch:=omega) only[kd,aa,ab,hs'];apply K;refine aO rfl (aL ?_);show bs _ _ _ _;refine aE (aG [⟨2,_,_,_,h3⟩] [] fun _ K=>?_);simp(disch:=omega) only[kd,bF,aa];apply K;refine aO rfl (aL ?_);show bs _ _ _ _;refine bv aZ [⟨4,_,_,_,h4⟩,⟨5,_,_,_,h5⟩] [] (by kernel_rfl) fun _ K=>?_;simp(disch:=omega) only[kd,bF,tZ,aa,ab,af];apply K
 (refine aI ⟨.inr rfl,aH rfl ?_ rfl⟩;simp(disch:=omega) only[kd,Tryz.results101,ab,aa,tZ])
theorem Nn (a b:Int) (ha:Bh a) (hb:Bh b):CallC Tryz.prog 57 [tZ a,tZ b] ⟨[],tZ (a-b)⟩:=by
 have h1:=IX b hb.bg;have h2:=vL a (-b) ha hb.neg;rw[<- Int.sub_eq_add_neg]at h2;refine aJ Tryz.func57 rfl (by kernel_rfl) ?_;rw[Tryz.ntmps57];refine aD fun _ K=>?_;simp(disch:=omega) only[kd,aa,tZ,ae,ab];apply K
 refine bv aZ [⟨2,_,_,_,h1⟩,⟨3,_,_,_,h2⟩] [] (by kernel_rfl) fun _ K=>?_;simp(disch:=omega) only[kd,tZ,aa,ab,af];apply K
 (refine aI ⟨.inr rfl,aH rfl ?_ rfl⟩;simp(disch:=omega) only[kd,Tryz.results57,ab,aa,tZ])
theorem pH: ∀(l:List Nat) (k v o:Nat),l[k]?=some o->natV (l.set k v)+o*4294967296^k=natV l+v*4294967296^k
 |[],k,v,o,h=>by simp at h
 |a::l,0,v,o,h=>by simp at h;subst h;simp[natV];omega
 |a::l,k+1,v,o,h=>by
  simp at h;have:=pH l k v o h;simp only[List.set_cons_succ,natV,Nat.pow_succ];have e1:o*(4294967296^k*4294967296)=4294967296*(o*4294967296^k):=by rw[<- Nat.mul_assoc,Nat.mul_comm]
  have e2:v*(4294967296^k*4294967296)=4294967296*(v*4294967296^k):=by rw[<- Nat.mul_assoc,Nat.mul_comm]
  rw[e1,e2];omega
theorem xS {l:List Nat} (h:Lmb l) {k v:Nat} (hv:v<4294967296):Lmb (l.set k v):=fun a ha=>by
 rcases List.mem_or_eq_of_mem_set ha with ha|rfl
 ·exact h a ha
 exact hv
theorem ue (n:Nat):natV (ae n 0)=0:=by induction n with
 |zero=>rfl
 |succ n ih=>simp[List.replicate_succ,natV,ih]
theorem bM {l:List Nat} {i a:Nat} (h:l[i]?=some a):natV (l.take (i+1))=natV (l.take i)+a*4294967296^i:=by
 obtain⟨h1,rfl⟩:=List.getElem?_eq_some_iff.1 h;rw[List.take_succ_eq_append_getElem h1,iF,List.length_take,Nat.min_eq_left (by omega)];simp[natV,Nat.mul_comm]
theorem lJ (n:Nat):ae n [AV.p (.raw (.int .u32 0))]=lc fU (ae n 0):=by simp[lc,fU]
theorem dH (l:List Nat) (k v:Nat):(lc fU l).set k [AV.p (.raw (.int .u32 (v:Int)))]=lc fU (l.set k v):=by simp[lc,fU,List.map_set]
structure EH (A B:List Nat) where
 i:Nat
 O:List Nat
 hi:i<=A.length
 len:O.length=A.length+B.length
 lmb:Lmb O
 val:natV O=natV (A.take i)*natV B
 zero: ∀k,i+B.length<=k->k<A.length+B.length->O[k]?=some 0
structure GW (A B:List Nat) (i a:Nat) where
 j:Nat
 O:List Nat
 c:Nat
 hj:j<=B.length
 len:O.length=A.length+B.length
 lmb:Lmb O
 hc:c<4294967296
 val:natV O+c*4294967296^(i+j)=natV (A.take i)*natV B+a*natV (B.take j)*4294967296^i
 zero: ∀k,i+B.length<=k->k<A.length+B.length->O[k]?=some 0
theorem nH {a b:Nat} (ha:a<4294967296) (hb:b<4294967296):a*b<=18446744065119617025:=by
 have:a*b<=4294967295*4294967295:=Nat.mul_le_mul (by omega) (by omega);omega
theorem wz {A B:List Nat} {i a:Nat} (g:GW A B i a) {y o:Nat} (hy:B[g.j]?=some y) (ho:g.O[i+g.j]?=some o) (hi:i<A.length) (ha:a<4294967296) (hy':y<4294967296):
  ∃g':GW A B i a,g'.j=g.j+1/\g'.O=g.O.set (i+g.j) ((g.c+(a*y+o))%4294967296)/\g'.c=(g.c+(a*y+o))/4294967296:=by
 have hjl:g.j<B.length:=(List.getElem?_eq_some_iff.1 hy).1;have ho':=cn g.lmb ho;have hb:=nH ha hy';have hc:=g.hc;refine⟨⟨g.j+1,g.O.set (i+g.j) ((g.c+(a*y+o))%4294967296),(g.c+(a*y+o))/4294967296,hjl,by simp[g.len],xS g.lmb (Nat.mod_lt _ (by omega)),?_,?_,fun k h1 h2=>?_⟩,rfl,rfl,rfl⟩
 ·generalize a*y=p at*
  omega
 ·have h1:=pH g.O (i+g.j) ((g.c+(a*y+o))%4294967296) o ho;have h2:=bM hy;have h3:=g.val;rw[h2,show i+(g.j+1)=i+g.j+1 by omega,Nat.pow_succ,Nat.mul_add a,Nat.add_mul];have e1:a*(y*4294967296^g.j)*4294967296^i=a*y*4294967296^(i+g.j):=by
   rw[<- Nat.mul_assoc,Nat.mul_assoc,<- Nat.pow_add,Nat.add_comm g.j i]
  rw[e1];generalize 4294967296^(i+g.j)=X at*
  generalize a*y=p at*
  have e2:(g.c+(p+o))=(g.c+(p+o))%4294967296+4294967296*((g.c+(p+o))/4294967296):=(Nat.mod_add_div _ _).symm;generalize hr:(g.c+(p+o))%4294967296=r at*
  generalize hq:(g.c+(p+o))/4294967296=q at*
  generalize natV (g.O.set (i+g.j) r)=N at*
  generalize natV g.O=M at*
  generalize natV (A.take i)*natV B=U at*
  generalize a*natV (B.take g.j)*4294967296^i=V at*
  -- N + o X = M + r X, M + c X = U + V, c + p + o = r + B q
  have e3:g.c*X+(p*X+o*X)=r*X+q*(X*4294967296):=by
   have:=congrArg (· *X) e2;simp only[Nat.add_mul]at this;rw[this]
   congr 1
   rw[Nat.mul_comm 4294967296 q,Nat.mul_assoc,Nat.mul_comm 4294967296 X]
  omega
 rw[List.getElem?_set_ne (by omega)];exact g.zero k h1 h2
theorem wy {A B:List Nat} {i a:Nat} (hA:A[i]?=some a) (g:GW A B i a) (hj: ¬g.j<B.length): ∃g':EH A B,g'.i=i+1/\g'.O=g.O.set (i+B.length) g.c:=by
 have hi:=(List.getElem?_eq_some_iff.1 hA).1;have hjl:=g.hj;have e:g.j=B.length:=by omega
 have hz:=g.zero (i+B.length) (Nat.le_refl _) (by omega);refine⟨⟨i+1,g.O.set (i+B.length) g.c,hi,by simp[g.len],xS g.lmb g.hc,?_,fun k h1 h2=>?_⟩,rfl,rfl⟩
 ·have h1:=pH g.O (i+B.length) g.c 0 hz;have h2:=g.val;rw[e,List.take_length]at h2;rw[bM hA,Nat.add_mul];have e1:a*4294967296^i*natV B=a*natV B*4294967296^i:=by rw[Nat.mul_assoc,Nat.mul_comm (4294967296^i),<- Nat.mul_assoc]
  rw[e1];omega
 rw[List.getElem?_set_ne (by omega)];exact g.zero k (by omega) h2
theorem D5 (a b:Int):f4 (!(decide (a<0)==decide (b<0))) (a.natAbs*b.natAbs)=a*b:=by
 have h:=Int.natAbs_mul a b;unfold f4;rcases Int.lt_or_le a 0 with ha|ha<;>rcases Int.lt_or_le b 0 with hb|hb
 ·have:0<a*b:=Int.mul_pos_of_neg_of_neg ha hb;simp[ha,hb];omega
 ·have:a*b<=0:=Int.mul_nonpos_of_nonpos_of_nonneg (by omega) hb;have hb': ¬b<0:=by omega
  simp[ha,hb'];omega
 ·have:a*b<=0:=Int.mul_nonpos_of_nonneg_of_nonpos ha (by omega);have ha': ¬a<0:=by omega
  simp[ha',hb];omega
 have:0<=a*b:=Int.mul_nonneg ha hb;have ha': ¬a<0:=by omega
 have hb': ¬b<0:=by omega
 simp[ha',hb'];omega
abbrev yJ (neg:Bool) (A:List Nat):List OObj:=[⟨42,2,[[.p (.raw (.bool neg)),.p (.sl (ls fU A))]]⟩]
abbrev qB:List OObj:=[⟨42,2,[[.raw (.bool false),.raw (.slice none 0 0)]]⟩]
theorem l9 (a b:Int) (ha:Bh a) (hb:Bh b):CallC Tryz.prog 21 [tZ a,tZ b] ⟨[],tZ (a*b)⟩:=by
 have la:=ha.len;have lb:=hb.len;have hlA:=aW a.natAbs;have hlB:=aW b.natAbs;have vA:=aQ a.natAbs;have vB:=aQ b.natAbs;refine aJ Tryz.func21 rfl (by kernel_rfl) ?_;rw[Tryz.ntmps21];refine aD fun _ K=>?_;simp(disch:=omega) only[kd,aa,tZ,ae,ab];apply K
 generalize aR a.natAbs=A at*
 generalize aR b.natAbs=B at*
 have e0:((A.length:Int)+(B.length:Int)).toNat=A.length+B.length:=by omega
 refine aD fun _ K=>?_;simp(disch:=omega) only[kd,aa,ab,aP,e0,lJ];apply K
 refine aE (aD fun _ K=>?_);simp(disch:=omega) only[kd,aa,ab];apply K;refine aT (G:=EH A B) (fun g=>⟨(jk::jk::.one (.ptr 2 0 0 0)::.one (.ptr 3 0 0 0)::.one (.ptr 4 0 0 0)::.one (.sl 18 0 0 (A.length+B.length))::j4 (j4 (j4 (jk::jk::bF A::rN A.length::rN g.i::j16 (j16 (j16 (j4 (jk::jk::[])))))))),Hm [(2,yJ (decide (a<0)) A),(3,yJ (decide (b<0)) B),(4,qB),(18,[⟨79,1,lc fU g.O⟩])]⟩) (fun g=>A.length-g.i) ⟨0,ae (A.length+B.length) 0,by omega,by simp,fun x hx=>by simp at hx;omega,by simp[ue,natV],fun k h1 h2=>by rw[List.getElem?_replicate,if_pos h2]⟩ ?_ ?_
 ·refine aF ⟨rfl,rfl,rfl,rfl,trivial⟩ ?_;simp[wk]
 rintro⟨i,O,hi,len,lmb,val,zero⟩;simp only;by_cases hm:i<A.length
 ·obtain⟨x,hx⟩:=getElem?_of_lt hm;have hx':=cn hlA hx;refine aD fun _ K=>?_;simp(disch:=omega) only[kd,bF];apply K
  refine bC rfl ?_;refine aE (aK ?_);refine aD fun _ K=>?_;simp(disch:=omega) only[kd,aa,hx];apply K
  refine aD fun _ K=>?_;simp only[kd];apply K
  refine aE (aD fun _ K=>?_);simp(disch:=omega) only[kd,aa,ab];apply K;refine aT (G:=GW A B i x) (fun g=>⟨(jk::jk::.one (.ptr 2 0 0 0)::.one (.ptr 3 0 0 0)::.one (.ptr 4 0 0 0)::.one (.sl 18 0 0 (A.length+B.length))::rN i::.raw (.int .u32 (x:Int))::.raw (.int .u64 (g.c:Int))::j4 (j4 (jk::jk::jk::bF A::rN A.length::rN i::j4 (jk::bF B::rN B.length::rN g.j::j16 (j16 (j4 (j4 (j4 (jk::jk::[]))))))))),Hm [(2,yJ (decide (a<0)) A),(3,yJ (decide (b<0)) B),(4,qB),(18,[⟨79,1,lc fU g.O⟩])]⟩) (fun g=>B.length-g.j) ⟨0,O,0,by omega,len,lmb,by omega,by simpa[natV] using val,zero⟩ ?_ ?_
  ·refine aF ⟨rfl,rfl,rfl,rfl,trivial⟩ ?_;simp[wk]
  intro g;by_cases hn:g.j<B.length
  ·obtain⟨y,hy⟩:=getElem?_of_lt hn;have hy':=cn hlB hy;have hlen:=g.len;obtain⟨o,ho⟩:=getElem?_of_lt (show i+g.j<g.O.length by omega);have ho':=cn g.lmb ho;have hb:=nH hx' hy';have hgc:=g.hc;obtain⟨g',q1,q2,q3⟩:=wz g hy ho hm hx' hy';have e1:((i:Int)+(g.j:Int)).toNat=i+g.j:=by omega
   have e2:(x:Int)*(y:Int)=((x*y:Nat):Int):=by simp
   generalize hp:x*y=p at*
   have e3:IntKind.u32.wrap ((g.c:Int)+((p:Int)+(o:Int)))=(((g.c+(p+o))%4294967296:Nat):Int):=by rw[<- sH];congr 1<;>omega
   have e4:Int.fdiv ((g.c:Int)+((p:Int)+(o:Int))) (2^(min 32 IntKind.u64.bits))=(((g.c+(p+o))/4294967296:Nat):Int):=by rw[<- GL];congr 1<;>omega
   refine aD fun _ K=>?_;simp(disch:=omega) only[kd,bF];apply K
   refine bC rfl ?_;refine aE (aK ?_);refine aD fun _ K=>?_;simp(disch:=omega) only[kd,aa,hy];apply K
   refine aD fun _ K=>?_;simp(disch:=omega) only[kd,aa,dn,e2,aP,e1,ab,ho];apply K
   refine aD fun _ K=>?_;simp(disch:=omega) only[kd,aa,aP,e3,e1,ab,ho,dH];apply K
   refine aM fun _ K=>?_;simp only[kd,aa,Int.reduceLE,am,e4];apply K
   show bs _ _ _ _;refine aM fun _ K=>?_;simp(disch:=omega) only[kd,aP];apply K
   refine⟨g',by omega,aF ⟨rfl,rfl,rfl,by rw[q2];rfl,trivial⟩ ?_⟩;simp[wk,q1,q3]
  have hgj:=g.hj;have hgc:=g.hc;have hgl:=g.len;obtain⟨g',q1,q2⟩:=wy hx g hn;have e1:((i:Int)+(B.length:Int)).toNat=i+B.length:=by omega
  have e3:IntKind.u32.wrap (g.c:Int)=(g.c:Int):=by rw[sH];omega
  refine aD fun _ K=>?_;simp(disch:=omega) only[kd,bF];apply K
  refine bJ rfl ?_;show bs _ _ _ _;have hz:=g.zero (i+B.length) (Nat.le_refl _) (by omega);refine aM fun _ K=>?_;simp(disch:=omega) only[kd,aa,ab,aP,e3,e1,hz,dH];apply K
  show bs _ _ _ _;refine aM fun _ K=>?_;simp(disch:=omega) only[kd,aP];apply K
  refine⟨g',by omega,aF ⟨rfl,rfl,rfl,by rw[q2];rfl,trivial⟩ ?_⟩;simp[wk,q1]
 have hfin:natV O=a.natAbs*b.natAbs:=by
  have:i=A.length:=by omega
  rw[val,this,List.take_length,vA,vB]
 have h4:=ju (!(decide (a<0)==decide (b<0))) O lmb (by omega);rw[hfin,D5]at h4;refine aD fun _ K=>?_;simp(disch:=omega) only[kd,bF];apply K
 refine bJ rfl ?_;show bs _ _ _ _;refine bs.weak (bW 18 (cH rfl)) ?_;have eT:List.take (A.length+B.length) O=O:=List.take_of_length_le (by omega);simp(disch:=omega) only[kd,tZ,ab,eT];refine aG [⟨6,_,_,_,h4⟩] [] fun _ K=>?_;simp(disch:=omega) only[kd,bF,tZ,aa,ab];apply K
 (refine aI ⟨.inr rfl,aH rfl ?_ rfl⟩;simp(disch:=omega) only[kd,Tryz.results21,ab,aa])
def dblL:List Nat->Nat->List Nat
 |[],b=>[b]
 |x::l,b=>(2*x+b)%4294967296::dblL l (x/2147483648)
theorem wD: ∀(l:List Nat) (b:Nat),Lmb l->b<=1->natV (dblL l b)=2*natV l+b
 |[],b,_,_=>by simp[dblL,natV]
 |x::l,b,hl,hb=>by
  rw[dM]at hl;have hx:=hl.1;simp only[dblL,natV,wD l (x/2147483648) hl.2 (by omega)];omega
theorem zY: ∀(l:List Nat) (b:Nat),Lmb l->b<=1->Lmb (dblL l b)
 |[],b,_,hb=>by simp[dblL,Lmb];omega
 |x::l,b,hl,hb=>by
  rw[dM]at hl;have hx:=hl.1;rw[dblL,dM];exact⟨Nat.mod_lt _ (by omega),zY l _ hl.2 (by omega)⟩
theorem zr: ∀(l:List Nat) (b:Nat),(dblL l b).length=l.length+1
 |[],b=>rfl
 |x::l,b=>by simp[dblL,zr l]
theorem qQ (a b n:Nat) (h:b<2^n):(a*2^n)|||b=a*2^n+b:=by
 have:=Nat.shiftLeft_add_eq_or_of_lt h a;rw[Nat.shiftLeft_eq]at this;exact this.symm
theorem si (a b n:Nat) (h:b<2^n):b|||(a*2^n)=a*2^n+b:=by rw[Nat.or_comm,qQ a b n h]
theorem PY (a b:Nat) (ha:a<4294967296) (hb:b<4294967296):IntKind.u32.wrap (((BitVec.ofInt IntKind.u32.bits (a:Int)|||BitVec.ofInt IntKind.u32.bits (b:Int)).toNat:Nat):Int)=((a|||b:Nat):Int):=by
 rw[sH];show(((BitVec.ofInt 32 (a:Int)|||BitVec.ofInt 32 (b:Int)).toNat%4294967296:Nat):Int)=_;rw[BitVec.toNat_or];have e: ∀x:Nat,x<4294967296->(BitVec.ofInt 32 (x:Int)).toNat=x:=fun x hx=>by rw[BitVec.toNat_ofInt];show((x:Int)%4294967296).toNat=x;omega
 rw[e a ha,e b hb,Nat.mod_eq_of_lt];exact Nat.or_lt_two_pow (n:=32) ha hb
theorem x6 (a b:Nat) (ha:a<18446744073709551616) (hb:b<18446744073709551616):IntKind.u64.wrap (((BitVec.ofInt IntKind.u64.bits (a:Int)|||BitVec.ofInt IntKind.u64.bits (b:Int)).toNat:Nat):Int)=((a|||b:Nat):Int):=by
 rw[IntKind.wrap_u64];show((BitVec.ofInt 64 (a:Int)|||BitVec.ofInt 64 (b:Int)).toNat:Int)%_=_;rw[BitVec.toNat_or];have e: ∀x:Nat,x<18446744073709551616->(BitVec.ofInt 64 (x:Int)).toNat=x:=fun x hx=>by rw[BitVec.toNat_ofInt];show((x:Int)%18446744073709551616).toNat=x;omega
 rw[e a ha,e b hb];have:=Nat.or_lt_two_pow (n:=64) ha hb;generalize a|||b=c at*
 omega
theorem PI (a b:Nat) (ha:a<4294967296) (hb:b<4294967296):IntKind.u32.wrap (((BitVec.ofInt IntKind.u32.bits (a:Int)&&&BitVec.ofInt IntKind.u32.bits (b:Int)).toNat:Nat):Int)=((a&&&b:Nat):Int):=by
 rw[sH];show(((BitVec.ofInt 32 (a:Int)&&&BitVec.ofInt 32 (b:Int)).toNat%4294967296:Nat):Int)=_;rw[BitVec.toNat_and];have e: ∀x:Nat,x<4294967296->(BitVec.ofInt 32 (x:Int)).toNat=x:=fun x hx=>by rw[BitVec.toNat_ofInt];show((x:Int)%4294967296).toNat=x;omega
 rw[e a ha,e b hb,Nat.mod_eq_of_lt];exact Nat.lt_of_le_of_lt Nat.and_le_left ha
structure Qn (l:List Nat) (b:Nat) where
 i:Nat
 o:List Nat
 c:Nat
 hi:i<=l.length
 hc:c<=1
 ho:o.length=i
 h:o++dblL (l.drop i) c=dblL l b
theorem Ia (l:List Nat) (b:Nat) (lm:Lmb l) (hb:b<=1) (bl:l.length<=1073741824):CallC Tryz.prog 156 [bF l,.raw (.int .u32 (b:Int))] ⟨[],bF (dblL l b)⟩:=by
 refine aJ Tryz.func156 rfl (by kernel_rfl) ?_;rw[Tryz.ntmps156];refine aD fun _ K=>?_;simp only[kd,bF,aa,ae];apply K
 refine aD fun _ K=>?_;simp only[kd];apply K
 refine aE (aD fun _ K=>?_);simp only[kd,aa];apply K;refine aT (G:=Qn l b) (fun g=>⟨(bF l::.raw (.int .u32 (g.c:Int))::jk::jk::.raw (.slice none 0 0)::.one (.sl 20 0 0 g.o.length)::jk::jk::bF l::rN l.length::rN g.i::j16 (jk::[])),Hm [(20,[⟨79,1,lc fU g.o⟩])]⟩) (fun g=>l.length-g.i) ⟨0,[],b,by omega,hb,rfl,rfl⟩ ?_ ?_
 ·refine(fg (k:=5) (d:=20) 79 1 (by omega) rfl rfl).trans (aF ⟨rfl,trivial⟩ ?_);simp[wk]
 rintro⟨i,o,c,hi,hc,ho,h⟩;simp only;by_cases hm:i<l.length
 ·obtain⟨a,ha⟩:=getElem?_of_lt hm;have ha':=cn lm ha;have e1:IntKind.u32.wrap ((a:Int)*2^min 1 IntKind.u32.bits)=((2*a%4294967296:Nat):Int):=by
   rw[<- sH];congr 1;show(a:Int)*2=_;omega
  have e2:=PY (2*a%4294967296) c (by omega) (by omega);have e3:(2*a%4294967296)|||c=(2*a+c)%4294967296:=by
   have:=qQ (a%2147483648) c 1 (by omega);rw[show 2*a%4294967296=a%2147483648*2^1 by omega,this];omega
  rw[e3]at e2;have e4:Int.fdiv (a:Int) (2^(min 31 IntKind.u32.bits))=((a/2147483648:Nat):Int):=by
   show Int.fdiv (a:Int) 2147483648=_;rw[Int.fdiv_eq_ediv_of_nonneg _ (by omega)];omega
  refine aD fun _ K=>?_;simp(disch:=omega) only[kd,bF];apply K
  refine bC rfl ?_;refine aE (aK ?_);refine aD fun _ K=>?_;simp(disch:=omega) only[kd,aa,ha];apply K
  refine aD fun _ K=>?_;simp(disch:=omega) only[kd,aa,Int.reduceLE,am,e1,e2,Nat.reduceMul,ah,iE];apply K
  refine aM fun _ K=>?_;simp only[kd,aa,Int.reduceLE,am,e4];apply K
  show bs _ _ _ _;refine aM fun _ K=>?_;simp(disch:=omega) only[kd,aP];apply K
  refine⟨⟨i+1,o++[(2*a+c)%4294967296],a/2147483648,by omega,by omega,by simp[ho],?_⟩,by simp only;omega,aF ⟨rfl,trivial⟩ ?_⟩
  ·rw[<- h,ea ha,dblL,List.append_assoc];rfl
  simp[wk]
 refine aD fun _ K=>?_;simp(disch:=omega) only[kd,bF];apply K
 refine bJ rfl ?_;show bs _ _ _ _;refine aD fun _ K=>?_;simp(disch:=omega) only[kd,aa,Nat.reduceMul,ah,iE];apply K
 have hfin:dblL l b=o++[c]:=by rw[<- h,dL (by omega:l.length<=i),dblL]
 (refine aI ⟨.inr rfl,jz 20 (cH rfl) ?_ rfl⟩;simp(disch:=omega) only[kd,Tryz.results156,bF])
 simp only[hfin];rw[List.take_of_length_le (by simp)]
structure Pz (l:List Nat) where
 i:Nat
 u:Nat
 hi:i<=l.length/\i<=2
 hu:u=natV (l.take i)
theorem ff {l:List Nat} (h:Lmb l) (k:Nat):natV (l.take k)<4294967296^k:=by
 have h1:Lmb (l.take k):=fun a ha=>h a (List.mem_of_mem_take ha)
 have h2:=fJ h1;exact Nat.lt_of_lt_of_le h2 (Nat.pow_le_pow_right (by omega) (by rw[List.length_take];omega))
theorem IH (l:List Nat) (lm:Lmb l) (bl:l.length<=1073741824):CallC Tryz.prog 122 [bF l] ⟨[],.raw (.int .u64 (natV (l.take 2):Nat))⟩:=by
 refine aJ Tryz.func122 rfl (by kernel_rfl) ?_;rw[Tryz.ntmps122];refine aD fun _ K=>?_;simp only[kd,bF,ae];apply K
 refine aD fun _ K=>?_;simp only[kd];apply K
 refine aE (aD fun _ K=>?_);simp only[kd];apply K;refine aT (G:=Pz l) (fun g=>⟨(bF l::jk::.raw (.int .u64 0)::.raw (.int .u64 (g.u:Int))::rN g.i::j16 (j4 (jk::[]))),Hm []⟩) (fun g=>l.length-g.i) ⟨0,0,⟨by omega,by omega⟩,rfl⟩ ?_ ?_
 ·refine aF trivial ?_;simp[wk]
 rintro⟨i,u,hi,hu⟩;simp only;have hlt:=ff lm i;rw[<- hu]at hlt;by_cases hm:i<l.length/\i<2
 ·obtain⟨a,ha⟩:=getElem?_of_lt hm.1;have ha':=cn lm ha;have hm2:=hm.2;have hm1:=hm.1;have hu2:=bM ha;rw[<- hu]at hu2;refine aE (aD fun _ K=>?_);simp(disch:=omega) only[kd,aa,bF];apply K;refine aS rfl (aL ?_);refine aE (aK ?_);have hi2:i=0\/i=1:=by omega
  rcases hi2 with rfl|rfl
  ·have e1:IntKind.u64.wrap ((a:Int)*2^min (32*((0:Nat):Int)).toNat IntKind.u64.bits)=(a:Int):=by
    rw[IntKind.wrap_u64];show((a:Int)*1)%_=_;omega
   have hu0:u=0:=by simpa[natV] using hu
   have e2:=x6 u a (by omega) (by omega);rw[hu0,Nat.zero_or,<- hu0]at e2;refine aM fun _ K=>?_;simp(disch:=omega) only[kd,aa,ha,dn,aP,e1,e2];apply K
   show bs _ _ _ _;refine aM fun _ K=>?_;simp(disch:=omega) only[kd,aa,aP];apply K
   refine⟨⟨1,a,⟨by omega,by omega⟩,by rw[hu2,hu0];simp⟩,by simp only;omega,aF trivial ?_⟩;simp[wk]
  have e1:IntKind.u64.wrap ((a:Int)*2^min (32*((1:Nat):Int)).toNat IntKind.u64.bits)=((a*4294967296:Nat):Int):=by
   rw[IntKind.wrap_u64];show((a:Int)*4294967296)%_=_;omega
  simp only[Nat.pow_one]at hlt;have e2:=x6 u (a*4294967296) (by omega) (by omega);rw[show a*4294967296=a*2^32 from rfl,si _ _ _ hlt,show a*2^32=a*4294967296 from rfl]at e2;refine aM fun _ K=>?_;simp(disch:=omega) only[kd,aa,ha,dn,aP,e1,e2];apply K
  show bs _ _ _ _;refine aM fun _ K=>?_;simp(disch:=omega) only[kd,aa,aP];apply K
  refine⟨⟨2,a*4294967296+u,⟨by omega,by omega⟩,by rw[hu2];omega⟩,by simp only;omega,aF trivial ?_⟩;simp[wk]
 have hfin:u=natV (l.take 2):=by
  rw[hu];by_cases h2:i=2
  ·rw[h2]
  rw[List.take_of_length_le (by omega),List.take_of_length_le (by omega)]
 rw[<- hfin];by_cases h3:i<l.length
 ·refine aE (aD fun _ K=>?_);simp(disch:=omega) only[kd,aa,bF];apply K;refine aO rfl (bK ?_);show bs _ _ _ _;refine aD fun _ K=>?_;simp only[kd];apply K
  (refine aI ⟨.inr rfl,aH rfl ?_ rfl⟩;simp(disch:=omega) only[kd,Tryz.results122])
 refine aE (aD fun _ K=>?_);simp(disch:=omega) only[kd,aa,bF];apply K;refine aO rfl (bK ?_);show bs _ _ _ _;refine aD fun _ K=>?_;simp only[kd];apply K
 (refine aI ⟨.inr rfl,aH rfl ?_ rfl⟩;simp(disch:=omega) only[kd,Tryz.results122])
end Go.Proofs.YtfgeomlagfomgaaGreatDoor
