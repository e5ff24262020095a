/-
  Part 9 of a proof (walks and plain facts).
-/
import Derived.Test.YtpgghglbpcabkaaGreatQ07
set_option linter.all false
set_option maxRecDepth 100000
set_option maxHeartbeats 64000000
namespace Go.Proofs.YtpgghglbpcabkaaGreat
open Go.RowKit
def dblL:List Nat->Nat->List Nat
 |[],b=>[b]
 |x::l,b=>(2*x+b)%4294967296::dblL l (x/2147483648)
theorem uH: ∀(l:List Nat) (b:Nat),Lmb l->b<=1->natV (dblL l b)=2*natV l+b
 |[],b,_,_=>by simp[dblL,natV]
 |x::l,b,hl,hb=>by
  rw[ez]at hl
  have hx:=hl.1
  simp only[dblL,natV,uH l (x/2147483648) hl.2 (by omega)];omega
theorem xK: ∀(l:List Nat) (b:Nat),Lmb l->b<=1->Lmb (dblL l b)
 |[],b,_,hb=>by simp[dblL,Lmb];omega
 |x::l,b,hl,hb=>by
  rw[ez]at hl
  have hx:=hl.1
  rw[dblL,ez]
  exact⟨Nat.mod_lt _ (by omega),xK l _ hl.2 (by omega)⟩
theorem xo: ∀(l:List Nat) (b:Nat),(dblL l b).length=l.length+1
 |[],b=>rfl
 |x::l,b=>by simp[dblL,xo l]
theorem pO (a b n:Nat) (h:b<2^n):(a*2^n)|||b=a*2^n+b:=by
 have:=Nat.shiftLeft_add_eq_or_of_lt h a
 rw[Nat.shiftLeft_eq]at this
 exact this.symm
theorem ra (a b n:Nat) (h:b<2^n):b|||(a*2^n)=a*2^n+b:=by rw[Nat.or_comm,pO a b n h]
theorem Kg (a b:Nat) (ha:a<4294967296) (hb:b<4294967296):IntKind.u32.wrap (((BitVec.ofInt IntKind.u32.bits (a:Int)|||BitVec.ofInt IntKind.u32.bits (b:Int)).toNat:Nat):Int)=((a|||b:Nat):Int):=by
 rw[rp]
 show(((BitVec.ofInt 32 (a:Int)|||BitVec.ofInt 32 (b:Int)).toNat%4294967296:Nat):Int)=_
 rw[BitVec.toNat_or]
 have e: ∀x:Nat,x<4294967296->(BitVec.ofInt 32 (x:Int)).toNat=x:=fun x hx=>by rw[BitVec.toNat_ofInt];show((x:Int)%4294967296).toNat=x;omega
 rw[e a ha,e b hb,Nat.mod_eq_of_lt]
 exact Nat.or_lt_two_pow (n:=32) ha hb
theorem v8 (a b:Nat) (ha:a<18446744073709551616) (hb:b<18446744073709551616):IntKind.u64.wrap (((BitVec.ofInt IntKind.u64.bits (a:Int)|||BitVec.ofInt IntKind.u64.bits (b:Int)).toNat:Nat):Int)=((a|||b:Nat):Int):=by
 rw[IntKind.wrap_u64]
 show((BitVec.ofInt 64 (a:Int)|||BitVec.ofInt 64 (b:Int)).toNat:Int)%_=_
 rw[BitVec.toNat_or]
 have e: ∀x:Nat,x<18446744073709551616->(BitVec.ofInt 64 (x:Int)).toNat=x:=fun x hx=>by rw[BitVec.toNat_ofInt];show((x:Int)%18446744073709551616).toNat=x;omega
 rw[e a ha,e b hb]
 have:=Nat.or_lt_two_pow (n:=64) ha hb
 generalize a|||b=c at*
 omega
theorem J5 (a b:Nat) (ha:a<4294967296) (hb:b<4294967296):IntKind.u32.wrap (((BitVec.ofInt IntKind.u32.bits (a:Int)&&&BitVec.ofInt IntKind.u32.bits (b:Int)).toNat:Nat):Int)=((a&&&b:Nat):Int):=by
 rw[rp]
 show(((BitVec.ofInt 32 (a:Int)&&&BitVec.ofInt 32 (b:Int)).toNat%4294967296:Nat):Int)=_
 rw[BitVec.toNat_and]
 have e: ∀x:Nat,x<4294967296->(BitVec.ofInt 32 (x:Int)).toNat=x:=fun x hx=>by rw[BitVec.toNat_ofInt];show((x:Int)%4294967296).toNat=x;omega
 rw[e a ha,e b hb,Nat.mod_eq_of_lt]
 exact Nat.lt_of_le_of_lt Nat.and_le_left ha
structure KD (l:List Nat) (b:Nat) where
 i:Nat
 o:List Nat
 c:Nat
 hi:i<=l.length
 hc:c<=1
 ho:o.length=i
 h:o++dblL (l.drop i) c=dblL l b
theorem Ed (l:List Nat) (b:Nat) (lm:Lmb l) (hb:b<=1) (bl:l.length<=1073741824):CallC Tryz.prog 165 [ca l,.raw (.int .u32 (b:Int))] ⟨[],ca (dblL l b)⟩:=by
 refine ax Tryz.func165 rfl (by kernel_rfl) ?_;rw[Tryz.ntmps165]
 (refine aa [] fun K hK=>?_;simp(disch:=omega) only[kc,ab,ca,Nat.reduceAdd,List.replicate,ac,Value.oneCell'];apply hK)
 (refine aa [] fun K hK=>?_;simp(disch:=omega) only[kc,ab,ac,Value.oneCell'];apply hK)
 (refine ae (aa [] fun K hK=>?_);simp(disch:=omega) only[kc,ab,Nat.reduceAdd,aw,au,an,aR,ac,Value.oneCell'];apply hK)
 refine bD (G:=KD l b) (fun g=>⟨[ca l,.raw (.int .u32 (g.c:Int)),jk,jk,.raw (.slice none 0 0),.one (.sl 20 0 0 g.o.length),jk,jk,ca l,.raw (.int .i64 (l.length:Int)),.raw (.int .i64 (g.i:Int)),jk,jk,jk,jk,jk,jk,jk,jk,jk,jk,jk,jk,jk,jk,jk,jk,jk],Hm [(20,[⟨118,1,lc fU g.o⟩])]⟩) (fun g=>l.length-g.i) ⟨0,[],b,by omega,hb,rfl,rfl⟩ ?_ ?_
 ·refine(fG (k:=5) (d:=20) 118 1 (by omega) rfl rfl).trans (aj ⟨rfl,trivial⟩ ?_)
  simp[b9,bo,bj]
 ·rintro⟨i,o,c,hi,hc,ho,h⟩
  simp only
  by_cases hm:i<l.length
  ·obtain⟨a,ha⟩:=getElem?_of_lt hm
   have ha':=dp lm ha
   have e1:IntKind.u32.wrap ((a:Int)*2^min 1 IntKind.u32.bits)=((2*a%4294967296:Nat):Int):=by
    rw[<- rp];congr 1;show(a:Int)*2=_;omega
   have e2:=Kg (2*a%4294967296) c (by omega) (by omega)
   have e3:(2*a%4294967296)|||c=(2*a+c)%4294967296:=by
    have:=pO (a%2147483648) c 1 (by omega)
    rw[show 2*a%4294967296=a%2147483648*2^1 by omega,this];omega
   rw[e3]at e2
   have e4:Int.fdiv (a:Int) (2^(min 31 IntKind.u32.bits))=((a/2147483648:Nat):Int):=by
    show Int.fdiv (a:Int) 2147483648=_
    rw[Int.fdiv_eq_ediv_of_nonneg _ (by omega)];omega
   (refine aa [] fun K hK=>?_;simp(disch:=omega) only[kc,ab,ca,Hm,ak,ah,bA];apply hK)
   refine ae (af rfl (fun _=>aq ?_) (fun h=>by simp at h<;>omega))
   refine ae (aI ?_)
   (refine aa [] fun K hK=>?_;simp(disch:=omega) only[kc,ab,Nat.reduceAdd,ag,au,ao,an,bG,ha,fU,bs,aA,bN];apply hK)
   (refine aa [] fun K hK=>?_;simp(disch:=omega) only[kc,ab,Nat.reduceAdd,ak,ac,Value.oneCell',ah,Int.reduceLE,Int.reduceToNat,e1,e2,b8,aN,aC,an,dn,bs,fW,cellsOf,isPure,Nat.reduceMul,Nat.reduceLeDiff,List.contains_nil,ka,bH,cW,iX,bJ,newsOf,eA,eI,eJ,ef,eZ,and_true,d7,em,iI,df,aS,aT];apply hK)
   ((refine aU [] [] (by simp) fun K hK=>?_);simp(disch:=omega) only[kc,ab,Nat.reduceAdd,ak,ac,Value.oneCell',ah,Int.reduceLE,Int.reduceToNat,e4];apply hK)
   show bT _ _ _ _
   ((refine aU [] [] (by simp) fun K hK=>?_);simp(disch:=omega) only[kc,ab,ak,ac,Value.oneCell',ah,bC];apply hK)
   refine⟨⟨i+1,o++[(2*a+c)%4294967296],a/2147483648,by omega,by omega,by simp[ho],?_⟩,by simp only;omega,aj ⟨rfl,trivial⟩ ?_⟩
   ·rw[<- h,eX ha,dblL,List.append_assoc];rfl
   ·simp[b9,bo,bj]
  ·(refine aa [] fun K hK=>?_;simp(disch:=omega) only[kc,ab,ca,Hm,ak,ah,bf];apply hK)
   refine ae (af rfl (fun h=>by simp at h<;>omega) (fun _=>bv ?_))
   show bT _ _ _ _
   (refine aa [] fun K hK=>?_;simp(disch:=omega) only[kc,ab,Nat.reduceAdd,b8,aN,aC,an,dn,bs,fW,cellsOf,isPure,Nat.reduceMul,Nat.reduceLeDiff,List.contains_nil,ka,bH,cW,iX,bJ,newsOf,eA,eI,eJ,ef,eZ,and_true,d7,em,iI,df,aS,aT];apply hK)
   have hfin:dblL l b=o++[c]:=by rw[<- h,eu (by omega:l.length<=i),dblL]
   (refine ay ⟨.inr rfl,lk 20 (dH rfl) ?_ rfl⟩;simp(disch:=omega) only[kc,bE,Tryz.results165,aP,gH,fu,aJ,bH,eB,d8,ca])
   simp only[hfin]
   rw[List.take_of_length_le (by simp)]
structure J1 (l:List Nat) where
 i:Nat
 u:Nat
 hi:i<=l.length/\i<=2
 hu:u=natV (l.take i)
theorem fD {l:List Nat} (h:Lmb l) (k:Nat):natV (l.take k)<4294967296^k:=by
 have h1:Lmb (l.take k):=fun a ha=>h a (List.mem_of_mem_take ha)
 have h2:=gp h1
 exact Nat.lt_of_lt_of_le h2 (Nat.pow_le_pow_right (by omega) (by rw[List.length_take];omega))
theorem EJ (l:List Nat) (lm:Lmb l) (bl:l.length<=1073741824):CallC Tryz.prog 110 [ca l] ⟨[],.raw (.int .u64 (natV (l.take 2):Nat))⟩:=by
 refine ax Tryz.func110 rfl (by kernel_rfl) ?_;rw[Tryz.ntmps110]
 (refine aa [] fun K hK=>?_;simp(disch:=omega) only[kc,ab,ca,List.replicate,ac,Value.oneCell'];apply hK)
 (refine aa [] fun K hK=>?_;simp(disch:=omega) only[kc,ab,ac,Value.oneCell'];apply hK)
 (refine ae (aa [] fun K hK=>?_);simp(disch:=omega) only[kc,ab,ac,Value.oneCell'];apply hK)
 refine bD (G:=J1 l) (fun g=>⟨[ca l,jk,.raw (.int .u64 0),.raw (.int .u64 (g.u:Int)),.raw (.int .i64 (g.i:Int)),jk,jk,jk,jk,jk,jk,jk,jk,jk,jk,jk,jk,jk,jk,jk,jk,jk,jk,jk,jk,jk],Hm []⟩) (fun g=>l.length-g.i) ⟨0,0,⟨by omega,by omega⟩,rfl⟩ ?_ ?_
 ·refine aj trivial ?_
  simp[b9,bo,bj]
 ·rintro⟨i,u,hi,hu⟩
  simp only
  have hlt:=fD lm i
  rw[<- hu]at hlt
  by_cases hm:i<l.length/\i<2
  ·obtain⟨a,ha⟩:=getElem?_of_lt hm.1
   have ha':=dp lm ha
   have hm2:=hm.2
   have hm1:=hm.1
   have hu2:=co ha
   rw[<- hu]at hu2
   (refine ae (aa [] fun K hK=>?_);simp(disch:=omega) only[kc,ab,Nat.reduceAdd,ca,Hm,aw,au,an,aR,ak,ah,bA,aB,ac,Value.oneCell',bH,aQ];apply hK)
   refine af rfl (fun _=>aq ?_) (fun h=>by simp at h<;>omega)
   refine ae (aI ?_)
   have hi2:i=0\/i=1:=by omega
   rcases hi2 with rfl|rfl
   ·have e1:IntKind.u64.wrap ((a:Int)*2^min (32*((0:Nat):Int)).toNat IntKind.u64.bits)=(a:Int):=by
     rw[IntKind.wrap_u64];show((a:Int)*1)%_=_;omega
    have hu0:u=0:=by simpa[natV] using hu
    have e2:=v8 u a (by omega) (by omega)
    rw[hu0,Nat.zero_or,<- hu0]at e2
    ((refine aU [] [] (by simp) fun K hK=>?_);simp(disch:=omega) only[kc,ab,Nat.reduceAdd,ag,au,ao,an,bG,ha,fU,bs,aA,bN,bF,ak,Tryz.underlying118,cn,dS,ac,Value.oneCell',ah,bC,e1,bH,e2];apply hK)
    show bT _ _ _ _
    ((refine aU [] [] (by simp) fun K hK=>?_);simp(disch:=omega) only[kc,ab,Nat.reduceAdd,ak,ac,Value.oneCell',ah,bC];apply hK)
    refine⟨⟨1,a,⟨by omega,by omega⟩,by rw[hu2,hu0];simp⟩,by simp only;omega,aj trivial ?_⟩
    simp[b9,bo,bj]
   ·have e1:IntKind.u64.wrap ((a:Int)*2^min (32*((1:Nat):Int)).toNat IntKind.u64.bits)=((a*4294967296:Nat):Int):=by
     rw[IntKind.wrap_u64];show((a:Int)*4294967296)%_=_;omega
    simp only[Nat.pow_one]at hlt
    have e2:=v8 u (a*4294967296) (by omega) (by omega)
    rw[show a*4294967296=a*2^32 from rfl,ra _ _ _ hlt,show a*2^32=a*4294967296 from rfl]at e2
    ((refine aU [] [] (by simp) fun K hK=>?_);simp(disch:=omega) only[kc,ab,Nat.reduceAdd,ag,au,ao,an,bG,ha,fU,bs,aA,bN,bF,ak,Tryz.underlying118,cn,dS,ac,Value.oneCell',ah,bC,e1,bH,e2];apply hK)
    show bT _ _ _ _
    ((refine aU [] [] (by simp) fun K hK=>?_);simp(disch:=omega) only[kc,ab,Nat.reduceAdd,ak,ac,Value.oneCell',ah,bC];apply hK)
    refine⟨⟨2,a*4294967296+u,⟨by omega,by omega⟩,by rw[hu2];omega⟩,by simp only;omega,aj trivial ?_⟩
    simp[b9,bo,bj]
  ·have hfin:u=natV (l.take 2):=by
    rw[hu]
    by_cases h2:i=2
    ·rw[h2]
    ·rw[List.take_of_length_le (by omega),List.take_of_length_le (by omega)]
   rw[<- hfin]
   by_cases h3:i<l.length
   ·(refine ae (aa [] fun K hK=>?_);simp(disch:=omega) only[kc,ab,Nat.reduceAdd,ca,Hm,aw,au,an,aR,ak,ah,bA,aB,ac,Value.oneCell',bH,bf,aQ];apply hK)
    refine af rfl (fun h=>by simp at h<;>omega) (fun _=>bv ?_)
    show bT _ _ _ _
    (refine aa [] fun K hK=>?_;simp(disch:=omega) only[kc,ab];apply hK)
    (refine ay ⟨.inr rfl,aO rfl ?_ rfl⟩;simp(disch:=omega) only[bE,Tryz.results110,aP,List.getElem?_cons_succ,List.getElem?_cons_zero])
   ·(refine ae (aa [] fun K hK=>?_);simp(disch:=omega) only[kc,ab,Nat.reduceAdd,ca,Hm,aw,au,an,aR,ak,ah,bf,aB,ac,Value.oneCell',Option.map_none,aQ];apply hK)
    refine af rfl (fun h=>by simp at h<;>omega) (fun _=>bv ?_)
    show bT _ _ _ _
    (refine aa [] fun K hK=>?_;simp(disch:=omega) only[kc,ab];apply hK)
    (refine ay ⟨.inr rfl,aO rfl ?_ rfl⟩;simp(disch:=omega) only[bE,Tryz.results110,aP,List.getElem?_cons_succ,List.getElem?_cons_zero])
def il (z:Int):TV:=if -9223372036854775808<=z/\z<=9223372036854775807 then .tup [(false,[.p (.raw (.int .i64 z))]),(false,[.p (.raw (.bool true))])]else .tup [(false,[.p (.raw (.int .i64 0))]),(false,[.p (.raw (.bool false))])]
theorem si {n:Nat} (h:2<(be n).length):18446744073709551616<=n:=by
 have h1:=rL (dr n) (by intro h0;rw[h0]at h;simp at h)
 rw[aY]at h1
 have h2:4294967296^2<=4294967296^((be n).length-1):=Nat.pow_le_pow_right (by omega) (by omega)
 omega
theorem gU {n:Nat} (h:(be n).length<=2):n<18446744073709551616:=by
 have h1:=gp (bz n)
 rw[aY]at h1
 have h2:4294967296^(be n).length<=4294967296^2:=Nat.pow_le_pow_right (by omega) h
 omega
theorem vf (z:Int) (h:Bg z):CallC Tryz.prog 70 [tZ z] ⟨[],il z⟩:=by
 have ht:=iS (be z.natAbs) h.len
 rw[gP]at ht
 have hw:=EJ (be z.natAbs) (bz _) h.len
 have hl:=h.len
 by_cases h2:2<(be z.natAbs).length
 ·have hb:=si h2
  rw[show il z= .tup [(false,[.p (.raw (.int .i64 0))]),(false,[.p (.raw (.bool false))])] by unfold il;rw[if_neg (by omega)]]
  refine ax Tryz.func70 rfl (by kernel_rfl) ?_;rw[Tryz.ntmps70]
  (refine aa [] fun K hK=>?_;simp(disch:=omega) only[kc,ab,Nat.reduceAdd,tZ,List.replicate,cf,aN,aC,cellsOf,isPure,bH,ac,Value.oneCell'];apply hK)
  (refine aa [⟨2,_,_,_,ht⟩] fun K hK=>?_;simp(disch:=omega) only[kc,ca,ar.a,ab,Nat.reduceAdd,aK,au,bU,cH,aJ,aA,cj,ai,aN,aC,List.find?_cons,aD,aX,CallRes.plain,aF,aH,ap,noRefTV,am,aG,aE];apply hK)
  (refine aa [⟨1,_,_,_,hw⟩] fun K hK=>?_;simp(disch:=omega) only[kc,ca,ar.a,ab,Nat.reduceAdd,ai,aN,aC,List.find?_cons,aD,aX,CallRes.plain,aF,aH,ap,noRefTV,am,aG,aE];apply hK)
  refine ae (aI ?_)
  (refine aa [] fun K hK=>?_;simp(disch:=omega) only[kc,ab,Nat.reduceAdd,aw,au,an,aR,ak,ac,Value.oneCell',ah,bA];apply hK)
  refine af rfl (fun _=>?_) (fun h=>by simp at h<;>omega)
  (refine aa [] fun K hK=>?_;simp(disch:=omega) only[kc,ab,ac,Value.oneCell'];apply hK)
  (refine ay ⟨.inr rfl,aO rfl ?_ rfl⟩;simp(disch:=omega) only[bE,Tryz.results70,cY,aP,List.getElem?_cons_succ,List.getElem?_cons_zero,Option.bind_some,bX,Option.map_some])
 ·have hb:=gU (n:=z.natAbs) (by omega)
  rw[List.take_of_length_le (by omega),aY]at hw
  by_cases hz:z<0
  ·have e1:IntKind.i64.wrap (IntKind.u64.wrap (0-(z.natAbs:Int)))=z\/9223372036854775808<z.natAbs:=by
    rw[IntKind.wrap_u64]
    by_cases hz2:z.natAbs<=9223372036854775808
    ·left
     have:(0-(z.natAbs:Int))%18446744073709551616=18446744073709551616+z:=by omega
     rw[this,IntKind.wrap_i64]
     omega
    ·right;omega
   by_cases hz2:z.natAbs<=9223372036854775808
   ·replace e1:=e1.resolve_right (by omega)
    rw[show il z= .tup [(false,[.p (.raw (.int .i64 z))]),(false,[.p (.raw (.bool true))])] by unfold il;rw[if_pos (by omega)]]
    refine ax Tryz.func70 rfl (by kernel_rfl) ?_;rw[Tryz.ntmps70]
    (refine aa [] fun K hK=>?_;simp(disch:=omega) only[kc,ab,Nat.reduceAdd,tZ,bA,List.replicate,cf,aN,aC,cellsOf,isPure,bH,ac,Value.oneCell'];apply hK)
    (refine aa [⟨2,_,_,_,ht⟩] fun K hK=>?_;simp(disch:=omega) only[kc,ca,ar.a,ab,Nat.reduceAdd,aK,au,bU,cH,aJ,aA,cj,ai,aN,aC,List.find?_cons,aD,aX,CallRes.plain,aF,aH,ap,noRefTV,am,aG,aE];apply hK)
    (refine aa [⟨1,_,_,_,hw⟩] fun K hK=>?_;simp(disch:=omega) only[kc,ca,ar.a,ab,Nat.reduceAdd,ai,aN,aC,List.find?_cons,aD,aX,CallRes.plain,aF,aH,ap,noRefTV,am,aG,aE];apply hK)
    refine ae (aI ?_)
    (refine aa [] fun K hK=>?_;simp(disch:=omega) only[kc,ab,Nat.reduceAdd,aw,au,an,aR,ak,ac,Value.oneCell',ah,bf];apply hK)
    refine af rfl (fun h=>by simp at h<;>omega) (fun _=>?_)
    (refine aa [] fun K hK=>?_;simp(disch:=omega) only[kc,ab,Nat.reduceAdd,aK,au,bP,db,Nat.add_zero,aJ,aA,cE,aB,ak,ac,Value.oneCell',bH,ah,bA,aQ];apply hK)
    refine af rfl (fun _=>?_) (fun h=>by simp at h<;>omega)
    (refine aa [] fun K hK=>?_;simp(disch:=omega) only[kc,ab,Nat.reduceAdd,bW,ak,dc,bF,Tryz.underlying88,ro,e1,ac,Value.oneCell'];apply hK)
    (refine ay ⟨.inr rfl,aO rfl ?_ rfl⟩;simp(disch:=omega) only[bE,Tryz.results70,cY,aP,List.getElem?_cons_succ,List.getElem?_cons_zero,Option.bind_some,bX,Option.map_some])
   ·rw[show il z= .tup [(false,[.p (.raw (.int .i64 0))]),(false,[.p (.raw (.bool false))])] by unfold il;rw[if_neg (by omega)]]
    refine ax Tryz.func70 rfl (by kernel_rfl) ?_;rw[Tryz.ntmps70]
    (refine aa [] fun K hK=>?_;simp(disch:=omega) only[kc,ab,Nat.reduceAdd,tZ,bA,List.replicate,cf,aN,aC,cellsOf,isPure,bH,ac,Value.oneCell'];apply hK)
    (refine aa [⟨2,_,_,_,ht⟩] fun K hK=>?_;simp(disch:=omega) only[kc,ca,ar.a,ab,Nat.reduceAdd,aK,au,bU,cH,aJ,aA,cj,ai,aN,aC,List.find?_cons,aD,aX,CallRes.plain,aF,aH,ap,noRefTV,am,aG,aE];apply hK)
    (refine aa [⟨1,_,_,_,hw⟩] fun K hK=>?_;simp(disch:=omega) only[kc,ca,ar.a,ab,Nat.reduceAdd,ai,aN,aC,List.find?_cons,aD,aX,CallRes.plain,aF,aH,ap,noRefTV,am,aG,aE];apply hK)
    refine ae (aI ?_)
    (refine aa [] fun K hK=>?_;simp(disch:=omega) only[kc,ab,Nat.reduceAdd,aw,au,an,aR,ak,ac,Value.oneCell',ah,bf];apply hK)
    refine af rfl (fun h=>by simp at h<;>omega) (fun _=>?_)
    (refine aa [] fun K hK=>?_;simp(disch:=omega) only[kc,ab,Nat.reduceAdd,aK,au,bP,db,Nat.add_zero,aJ,aA,cE,aB,ak,ac,Value.oneCell',bH,ah,bf,aQ];apply hK)
    refine af rfl (fun h=>by simp at h<;>omega) (fun _=>?_)
    (refine aa [] fun K hK=>?_;simp(disch:=omega) only[kc,ab,Nat.reduceAdd,aK,au,bP,db,Nat.add_zero,aJ,aA,cE,bW,ak,dc,aB,ac,Value.oneCell',Option.map_none,aQ];apply hK)
    refine af rfl (fun h=>by simp at h<;>omega) (fun _=>aq ?_)
    show bT _ _ _ _
    (refine aa [] fun K hK=>?_;simp(disch:=omega) only[kc,ab,ac,Value.oneCell'];apply hK)
    (refine ay ⟨.inr rfl,aO rfl ?_ rfl⟩;simp(disch:=omega) only[bE,Tryz.results70,cY,aP,List.getElem?_cons_succ,List.getElem?_cons_zero,Option.bind_some,bX,Option.map_some])
  ·by_cases hz2:z.natAbs<9223372036854775808
   ·have e1:IntKind.i64.wrap (z.natAbs:Int)=z:=by rw[IntKind.wrap_i64];omega
    rw[show il z= .tup [(false,[.p (.raw (.int .i64 z))]),(false,[.p (.raw (.bool true))])] by unfold il;rw[if_pos (by omega)]]
    refine ax Tryz.func70 rfl (by kernel_rfl) ?_;rw[Tryz.ntmps70]
    (refine aa [] fun K hK=>?_;simp(disch:=omega) only[kc,ab,Nat.reduceAdd,tZ,bf,List.replicate,cf,aN,aC,cellsOf,isPure,bH,ac,Value.oneCell'];apply hK)
    (refine aa [⟨2,_,_,_,ht⟩] fun K hK=>?_;simp(disch:=omega) only[kc,ca,ar.a,ab,Nat.reduceAdd,aK,au,bU,cH,aJ,aA,cj,ai,aN,aC,List.find?_cons,aD,aX,CallRes.plain,aF,aH,ap,noRefTV,am,aG,aE];apply hK)
    (refine aa [⟨1,_,_,_,hw⟩] fun K hK=>?_;simp(disch:=omega) only[kc,ca,ar.a,ab,Nat.reduceAdd,ai,aN,aC,List.find?_cons,aD,aX,CallRes.plain,aF,aH,ap,noRefTV,am,aG,aE];apply hK)
    refine ae (aI ?_)
    (refine aa [] fun K hK=>?_;simp(disch:=omega) only[kc,ab,Nat.reduceAdd,aw,au,an,aR,ak,ac,Value.oneCell',ah,bf];apply hK)
    refine af rfl (fun h=>by simp at h<;>omega) (fun _=>?_)
    (refine aa [] fun K hK=>?_;simp(disch:=omega) only[kc,ab,Nat.reduceAdd,aK,au,bP,db,Nat.add_zero,aJ,aA,cE,aB,ak,ac,Value.oneCell',Option.map_none,aQ];apply hK)
    refine af rfl (fun h=>by simp at h<;>omega) (fun _=>?_)
    (refine aa [] fun K hK=>?_;simp(disch:=omega) only[kc,ab,Nat.reduceAdd,aK,au,bP,db,Nat.add_zero,aJ,aA,cE,bW,ak,dc,Bool.not_false,aB,ac,Value.oneCell',bH,ah,bA,aQ];apply hK)
    refine af rfl (fun _=>?_) (fun h=>by simp at h<;>omega)
    (refine aa [] fun K hK=>?_;simp(disch:=omega) only[kc,ab,Nat.reduceAdd,bF,ak,Tryz.underlying88,ro,e1,ac,Value.oneCell'];apply hK)
    (refine ay ⟨.inr rfl,aO rfl ?_ rfl⟩;simp(disch:=omega) only[bE,Tryz.results70,cY,aP,List.getElem?_cons_succ,List.getElem?_cons_zero,Option.bind_some,bX,Option.map_some])
   ·rw[show il z= .tup [(false,[.p (.raw (.int .i64 0))]),(false,[.p (.raw (.bool false))])] by unfold il;rw[if_neg (by omega)]]
    refine ax Tryz.func70 rfl (by kernel_rfl) ?_;rw[Tryz.ntmps70]
    (refine aa [] fun K hK=>?_;simp(disch:=omega) only[kc,ab,Nat.reduceAdd,tZ,bf,List.replicate,cf,aN,aC,cellsOf,isPure,bH,ac,Value.oneCell'];apply hK)
    (refine aa [⟨2,_,_,_,ht⟩] fun K hK=>?_;simp(disch:=omega) only[kc,ca,ar.a,ab,Nat.reduceAdd,aK,au,bU,cH,aJ,aA,cj,ai,aN,aC,List.find?_cons,aD,aX,CallRes.plain,aF,aH,ap,noRefTV,am,aG,aE];apply hK)
    (refine aa [⟨1,_,_,_,hw⟩] fun K hK=>?_;simp(disch:=omega) only[kc,ca,ar.a,ab,Nat.reduceAdd,ai,aN,aC,List.find?_cons,aD,aX,CallRes.plain,aF,aH,ap,noRefTV,am,aG,aE];apply hK)
    refine ae (aI ?_)
    (refine aa [] fun K hK=>?_;simp(disch:=omega) only[kc,ab,Nat.reduceAdd,aw,au,an,aR,ak,ac,Value.oneCell',ah,bf];apply hK)
    refine af rfl (fun h=>by simp at h<;>omega) (fun _=>?_)
    (refine aa [] fun K hK=>?_;simp(disch:=omega) only[kc,ab,Nat.reduceAdd,aK,au,bP,db,Nat.add_zero,aJ,aA,cE,aB,ak,ac,Value.oneCell',Option.map_none,aQ];apply hK)
    refine af rfl (fun h=>by simp at h<;>omega) (fun _=>?_)
    (refine aa [] fun K hK=>?_;simp(disch:=omega) only[kc,ab,Nat.reduceAdd,aK,au,bP,db,Nat.add_zero,aJ,aA,cE,bW,ak,dc,Bool.not_false,aB,ac,Value.oneCell',bH,ah,bf,aQ];apply hK)
    refine af rfl (fun h=>by simp at h<;>omega) (fun _=>aq ?_)
    show bT _ _ _ _
    (refine aa [] fun K hK=>?_;simp(disch:=omega) only[kc,ab,ac,Value.oneCell'];apply hK)
    (refine ay ⟨.inr rfl,aO rfl ?_ rfl⟩;simp(disch:=omega) only[bE,Tryz.results70,cY,aP,List.getElem?_cons_succ,List.getElem?_cons_zero,Option.bind_some,bX,Option.map_some])
theorem nY: ∀{l:List Nat} {i x:Nat},Lmb l->l[i]?=some x->natV l/4294967296^i%4294967296=x
 |[],i,x,_,h=>by simp at h
 |a::l,0,x,hl,h=>by
  rw[ez]at hl
  simp at h
  subst h
  have:=hl.1
  simp only[natV,Nat.pow_zero]
  omega
 |a::l,i+1,x,hl,h=>by
  rw[ez]at hl
  have ha:=hl.1
  simp at h
  have:=nY hl.2 h
  rw[Nat.pow_succ,Nat.mul_comm,<- Nat.div_div_eq_div_mul]
  simp only[natV]
  rw[show(a+4294967296*natV l)/4294967296=natV l by omega]
  exact this
theorem Ff (i:Nat):4294967296^i=2^(32*i):=by rw[Nat.pow_mul]
theorem B5 {a k x:Nat} (h:(be a)[k/32]?=some x):x/2^(k%32)%2=a/2^k%2:=by
 have h1:=nY (bz a) h
 rw[aY,Ff]at h1
 rw[<- Nat.toNat_testBit,<- Nat.toNat_testBit,<- h1,show(4294967296:Nat)=2^32 from rfl,Nat.testBit_mod_two_pow,Nat.testBit_div_two_pow]
 rw[show k%32+32*(k/32)=k by omega]
 have:k%32<32:=by omega
 simp[this]
structure IP (a b n:Nat) where
 t:Nat
 O:List Nat
 ht:t<=32*n
 len:O.length=n
 lmb:Lmb O
 val:natV O=a/2^t/b*2^t
theorem J9 (a k:Nat):a/2^k=2*(a/2^(k+1))+a/2^k%2:=by
 rw[Nat.pow_succ,<- Nat.div_div_eq_div_mul];omega
theorem D9 {a b k:Nat} (hb:0<b) (h:2*(a/2^(k+1)%b)+a/2^k%2<b):a/2^k/b=2*(a/2^(k+1)/b)/\a/2^k%b=2*(a/2^(k+1)%b)+a/2^k%2:=by
 have h1:=J9 a k
 have h2:=Nat.div_add_mod (a/2^(k+1)) b
 generalize a/2^(k+1)=X at*
 generalize a/2^k%2=e at*
 generalize X%b=r at*
 generalize X/b=q at*
 have h3:a/2^k=b*(2*q)+(2*r+e):=by rw[h1,<- h2,Nat.mul_left_comm b 2 q];omega
 rw[h3]
 exact⟨by rw[Nat.mul_add_div hb,Nat.div_eq_of_lt h,Nat.add_zero],by rw[Nat.mul_add_mod,Nat.mod_eq_of_lt h]⟩
theorem D8 {a b k:Nat} (hb:0<b) (h:b<=2*(a/2^(k+1)%b)+a/2^k%2):a/2^k/b=2*(a/2^(k+1)/b)+1/\a/2^k%b=2*(a/2^(k+1)%b)+a/2^k%2-b:=by
 have h1:=J9 a k
 have h2:=Nat.div_add_mod (a/2^(k+1)) b
 have hr:a/2^(k+1)%b<b:=Nat.mod_lt _ hb
 have he:a/2^k%2<2:=Nat.mod_lt _ (by omega)
 generalize a/2^(k+1)=X at*
 generalize a/2^k%2=e at*
 generalize X%b=r at*
 generalize X/b=q at*
 have h3:a/2^k=b*(2*q+1)+(2*r+e-b):=by have:=Nat.mul_left_comm b 2 q;rw[h1,<- h2,Nat.mul_add b (2*q) 1,Nat.mul_one];omega
 have h4:2*r+e-b<b:=by omega
 rw[h3]
 exact⟨by rw[Nat.mul_add_div hb,Nat.div_eq_of_lt h4,Nat.add_zero],by rw[Nat.mul_add_mod,Nat.mod_eq_of_lt h4]⟩
theorem GN {a b n k:Nat} {O:List Nat} (hb:0<b) (ht:k+1<=32*n) (len:O.length=n) (lmb:Lmb O) (val:natV O=a/2^(k+1)/b*2^(k+1)) (h:2*(a/2^(k+1)%b)+a/2^k%2<b): ∃g:IP a b n,g.t=k/\g.O=O:=
 ⟨⟨k,O,by omega,len,lmb,by rw[val,(D9 hb h).1,Nat.pow_succ,Nat.mul_comm 2,Nat.mul_assoc,Nat.mul_comm 2]⟩,rfl,rfl⟩
theorem GM {a b n k x:Nat} {O:List Nat} (hb:0<b) (ht:k+1<=32*n) (len:O.length=n) (lmb:Lmb O) (val:natV O=a/2^(k+1)/b*2^(k+1)) (h:b<=2*(a/2^(k+1)%b)+a/2^k%2) (hx:O[k/32]?=some x): ∃g:IP a b n,g.t=k/\g.O=O.set (k/32) (x|||2^(k%32)):=by
 have hx':=dp lmb hx
 have hj:k%32<32:=Nat.mod_lt _ (by omega)
 have hor:x|||2^(k%32)<4294967296:=Nat.or_lt_two_pow (n:=32) hx' (Nat.pow_lt_pow_right (by omega) hj)
 refine⟨⟨k,O.set (k/32) (x|||2^(k%32)),by omega,by simp[len],vT lmb hor,?_⟩,rfl,rfl⟩
 have h1:=nY lmb hx
 have h2:=oT O (k/32) (x|||2^(k%32)) x hx
 have ek:2^(k+1)=2^(32*(k/32))*2^(k%32+1):=by rw[<- Nat.pow_add];congr 1;omega
 rw[Ff]at h1 h2
 rw[(D8 hb h).1]
 generalize a/2^(k+1)/b=q at*
 have h3:x=q%2^(31-k%32)*2^(k%32+1):=by
  rw[<- h1,val,ek,Nat.mul_comm (2^(32*(k/32))),<- Nat.mul_assoc,Nat.mul_div_cancel _ (Nat.pow_pos (by omega))]
  rw[show(4294967296:Nat)=2^(31-k%32)*2^(k%32+1) by rw[<- Nat.pow_add,show 31-k%32+(k%32+1)=32 by omega],Nat.mul_mod_mul_right]
 have h4:x|||2^(k%32)=x+2^(k%32):=by
  have:=pO (q%2^(31-k%32)) (2^(k%32)) (k%32+1) (Nat.pow_lt_pow_right (by omega) (by omega))
  rw[<- h3]at this
  exact this
 rw[h4]at h2⊢
 rw[Nat.add_mul,<- Nat.pow_add,show k%32+32*(k/32)=k by omega,val]at h2
 have h5:(2*q+1)*2^k=q*2^(k+1)+2^k:=by rw[Nat.add_mul,Nat.one_mul,Nat.mul_comm 2 q,Nat.mul_assoc,Nat.mul_comm 2 (2^k),<- Nat.pow_succ]
 rw[h5]
 generalize natV (O.set (k/32) (x+2^(k%32)))=N at*
 generalize x*2^(32*(k/32))=U at*
 generalize q*2^(k+1)=V at*
 generalize 2^k=W at*
 omega
theorem uu {a n:Nat} (h:(be a).length=n):a/2^(32*n)=0:=by
 have:=gp (bz a)
 rw[aY,Ff,h]at this
 exact Nat.div_eq_of_lt this
theorem AJ {a b:Nat} (h:b<=a):0<=gQ a b:=by unfold gQ;split<;>(try split)<;>omega
theorem DZ {a b:Nat} (h:a<b):gQ a b<0:=by rw[mH h];decide
abbrev xr (a b:Nat):TV:= .tup [(false,[.p (.sl (ls fU (be (a/b))))]),(false,[.p (.sl (ls fU (be (a%b))))])]
theorem nR {a b:Nat} (h:a<=b):(be a).length<=(be b).length:=iK (bz _) (dr _) (by rw[aY,aY];exact h)
theorem Ea (a b:Nat) (hb:0<b) (la:(be a).length<=536870912) (lb:(be b).length<=536870912):CallC Tryz.prog 161 [ca (be a),ca (be b)] ⟨[],xr a b⟩:=by
 by_cases hs:(be a).length<=2/\(be b).length<=2
 ·obtain⟨sa,sb⟩:=hs
  have ua:=gU sa
  have ub:=gU sb
  have h1:=EJ (be a) (bz _) (by omega)
  have h2:=EJ (be b) (bz _) (by omega)
  rw[List.take_of_length_le sa,aY]at h1
  rw[List.take_of_length_le sb,aY]at h2
  have hq:a/b<=a:=Nat.div_le_self _ _
  have hr:a%b<b:=Nat.mod_lt _ hb
  have h3:=wO false (a/b) (by omega)
  have h4:=wO false (a%b) (by omega)
  rw[show gE false (a/b)=((a/b:Nat):Int)from rfl]at h3
  rw[show gE false (a%b)=((a%b:Nat):Int)from rfl]at h4
  have hb0:(b:Int)≠0:=by omega
  have e1:IntKind.u64.wrap (Int.tdiv (a:Int) (b:Int))=((a/b:Nat):Int):=by
   rw[Int.tdiv_eq_ediv_of_nonneg (by omega),<- Int.natCast_ediv];generalize a/b=q at*;rw[IntKind.wrap_u64];omega
  have e2:Int.tmod (a:Int) (b:Int)=((a%b:Nat):Int):=by
   rw[Int.tmod_eq_emod_of_nonneg (by omega),<- Int.natCast_emod]
  unfold xr
  generalize a/b=q at*
  generalize a%b=r at*
  refine ax Tryz.func161 rfl (by kernel_rfl) ?_;rw[Tryz.ntmps161]
  (refine aa [] fun K hK=>?_;simp(disch:=omega) only[kc,ab,ca,Nat.reduceAdd,List.replicate,ac,Value.oneCell'];apply hK)
  (refine ae (aa [] fun K hK=>?_);simp(disch:=omega) only[kc,ab,Nat.reduceAdd,aw,au,an,aR,ak,ac,Value.oneCell',ah,bA,aB,bH,aQ];apply hK)
  refine af rfl (fun _=>?_) (fun h=>by simp at h<;>omega)
  (refine aa [⟨1,_,_,_,h1⟩,⟨3,_,_,_,h2⟩] fun K hK=>?_;simp(disch:=omega) only[kc,ca,ar.a,ab,Nat.reduceAdd,ai,aN,aC,List.find?_cons,aD,aX,CallRes.plain,aF,aH,ap,noRefTV,am,aG,aE,Nat.reduceBEq];apply hK)
  (refine bS bY [⟨3,_,_,_,h3⟩,⟨8,_,_,_,h4⟩] [] (by kernel_rfl) (by simp) fun K hK=>?_;simp(disch:=omega) only[kc,tZ,bf,Int.natAbs_natCast,ar.a,ab,Nat.reduceAdd,ak,ah,ne_eq,hb0,not_false_eq_true,e1,ai,aN,aC,List.find?_cons,aD,ac,Value.oneCell',aX,CallRes.plain,aF,aH,ap,noRefTV,am,aG,aE,CY,au,bU,aA,cH,cj,e2,Nat.reduceBEq];apply hK)
  (refine ay ⟨.inr rfl,aO rfl ?_ rfl⟩;simp(disch:=omega) only[bE,Tryz.results161,cY,aP,List.getElem?_cons_succ,List.getElem?_cons_zero,Option.bind_some,bX,Option.map_some])
 ·refine ax Tryz.func161 rfl (by kernel_rfl) ?_;rw[Tryz.ntmps161]
  (refine aa [] fun K hK=>?_;simp(disch:=omega) only[kc,ab,ca,Nat.reduceAdd,List.replicate,ac,Value.oneCell'];apply hK)
  by_cases h3:(be a).length<=2
  all_goals
   ((first|refine aa [] fun K hK=>?_|refine ae (aa [] fun K hK=>?_)|refine ae (ae (aa [] fun K hK=>?_)));simp(disch:=omega) only[kc,ab,Nat.reduceAdd,aw,au,an,aR,ak,ac,Value.oneCell',ah,bA,aB,bH,bf,aQ,Option.map_none];apply hK)
   refine af rfl (fun h=>by simp at h<;>omega) (fun _=>aq ?_)
   show bT _ _ _ _
   ((first|refine aa [] fun K hK=>?_|refine ae (aa [] fun K hK=>?_)|refine ae (ae (aa [] fun K hK=>?_)));simp(disch:=omega) only[kc,ab,Nat.reduceAdd,aw,au,an,aR,bZ,aN,aC,dn,bs,eA,Int.natCast_nonneg,Value.oneCell',and_true,kZ,bH];apply hK)
   ((first|refine aa [] fun K hK=>?_|refine ae (aa [] fun K hK=>?_)|refine ae (ae (aa [] fun K hK=>?_)));simp(disch:=omega) only[kc,ab,Nat.reduceAdd,aw,au,an,aR,ak,ac,Value.oneCell',ah,bC];apply hK)
   refine bD (G:=IP a b (be a).length) (fun g=>⟨[ca (be a),ca (be b),jk,jk,.one (.sl 33 0 0 (be a).length),ca (be (a/2^g.t%b)),jk,jk,.raw (.int .i64 ((g.t:Int)-1)),jk,jk,jk,jk,jk,jk,jk,jk,jk,jk,jk,jk,jk,jk,jk,jk,jk,jk,jk,jk,jk,jk,jk,jk,jk,jk,jk,jk,jk,jk,jk,jk,jk,jk,jk,jk,jk,jk,jk,jk,jk,jk,jk,jk,jk,jk,jk,jk,jk,jk,jk,jk,jk,jk,jk,jk,jk,jk,jk,jk,jk,jk,jk,jk,jk,jk],Hm [(33,[⟨118,1,lc fU g.O⟩])]⟩) (fun g=>g.t) ⟨32*(be a).length,List.replicate (be a).length 0,by omega,by simp,fun x hx=>by simp at hx;omega,by rw[sp,uu rfl];simp⟩ ?_ ?_
   ·refine(fG (k:=5) (d:=900) 118 1 (by omega) rfl rfl).trans ((cQ 900 (dH (f:=fU) (l:=[]) rfl)).trans (aj ⟨rfl,trivial⟩ ?_))
    simp[b9,bo,bj,gH,fu,uu rfl,dx]
    rfl
   ·rintro⟨t,O,ht,len,lmb,val⟩
    simp only
    cases t with
    |zero=>
     have htr:=iS O (by omega)
     rw[fl lmb,val]at htr
     simp only[Nat.pow_zero,Nat.div_one,Nat.mul_one]at htr
     simp only[Nat.pow_zero,Nat.div_one]
     ((first|refine aa [] fun K hK=>?_|refine ae (aa [] fun K hK=>?_)|refine ae (ae (aa [] fun K hK=>?_)));simp(disch:=omega) only[kc,ab,ca,Hm,ak,ac,Value.oneCell',ah,bf];apply hK)
     refine af rfl (fun h=>by simp at h<;>omega) (fun _=>bv ?_)
     show bT _ _ _ _
     refine bT.weak (cQ 33 (dH rfl)) ?_
     have eT:List.take (be a).length O=O:=List.take_of_length_le (by omega)
     simp(disch:=omega) only[kc,gH,fu,bH,eB,eT,d8]
     ((first|refine aa [⟨1,_,_,_,htr⟩] fun K hK=>?_|refine ae (aa [⟨1,_,_,_,htr⟩] fun K hK=>?_)|refine ae (ae (aa [⟨1,_,_,_,htr⟩] fun K hK=>?_)));simp(disch:=omega) only[kc,ca,ar.a,ab,Nat.reduceAdd,ai,aN,aC,List.find?_cons,aD,aX,CallRes.plain,aF,aH,ap,noRefTV,am,aG,aE];apply hK)
     (refine ay ⟨.inr rfl,aO rfl ?_ rfl⟩;simp(disch:=omega) only[bE,Tryz.results161,cY,aP,List.getElem?_cons_succ,List.getElem?_cons_zero,Option.bind_some,bX,Option.map_some])
    |succ k=>
     have ek:((k+1:Nat):Int)-1=(k:Int):=by omega
     simp only[ek]
     have hki:k/32<(be a).length:=by omega
     obtain⟨x,hx⟩:=getElem?_of_lt hki
     have hx':=dp (bz a) hx
     obtain⟨y,hy⟩:=getElem?_of_lt (show k/32<O.length by omega)
     have hy':=dp lmb hy
     have hbit:=B5 hx
     have hq:IntKind.i64.wrap (Int.tdiv (k:Int) 32)=((k/32:Nat):Int):=by
      rw[Int.tdiv_eq_ediv_of_nonneg (by omega),IntKind.wrap_i64];omega
     have hr:Int.tmod (k:Int) 32=((k%32:Nat):Int):=by rw[Int.tmod_eq_emod_of_nonneg (by omega)];omega
     have hmin:min (k%32) IntKind.u32.bits=k%32:=by show min (k%32) 32=_;omega
     have e1:Int.fdiv (x:Int) (2^min (k%32) IntKind.u32.bits)=((x/2^(k%32):Nat):Int):=by
      rw[hmin,Int.fdiv_eq_ediv_of_nonneg _ (Int.pow_nonneg (by omega)),Int.natCast_ediv,Int.natCast_pow];rfl
     have hxl:x/2^(k%32)<=x:=Nat.div_le_self _ _
     have e2:IntKind.u32.wrap (((BitVec.ofInt IntKind.u32.bits ((x/2^(k%32):Nat):Int)&&&BitVec.ofInt IntKind.u32.bits (1:Int)).toNat:Nat):Int)=((a/2^k%2:Nat):Int):=by
      rw[<- hbit,<- Nat.and_one_is_mod]
      exact J5 (x/2^(k%32)) 1 (by omega) (by omega)
     have hbl:a/2^k%2<2:=Nat.mod_lt _ (by omega)
     have hrb:a/2^(k+1)%b<b:=Nat.mod_lt _ hb
     have lr:=nR (Nat.le_of_lt hrb)
     have h1:=Ed (be (a/2^(k+1)%b)) (a/2^k%2) (bz _) (by omega) (by omega)
     have h2:=iS (dblL (be (a/2^(k+1)%b)) (a/2^k%2)) (by rw[xo];omega)
     rw[fl (xK _ _ (bz _) (by omega)),uH _ _ (bz _) (by omega),aY]at h2
     by_cases hge:b<=2*(a/2^(k+1)%b)+a/2^k%2
     ·obtain⟨g',q1,q2⟩:=GM hb ht len lmb val hge hy
      have hrest:=(D8 hb hge).2
      have lr':=je (n:=2*(a/2^(k+1)%b)+a/2^k%2) (k:=(be b).length+1) (by
       have:=gp (bz b)
       rw[aY]at this
       have hlt: ∀r e P:Nat,r<b->e<2->b<P->2*r+e<P*4294967296:=by intros;omega
       exact Nat.lt_of_lt_of_le (hlt _ _ _ hrb hbl this) (Nat.le_of_eq (Nat.pow_succ ..).symm))
      generalize 2*(a/2^(k+1)%b)+a/2^k%2=R at*
      have h3:=AK (be R) (be b) (bz _) (bz _) (dr _) (dr _) (by omega) (by omega)
      rw[aY,aY]at h3
      have hc:=AJ hge
      have h4:=kV (be R) (be b) (bz _) (bz _) (by omega) (by omega)
      have h5:=iS (diffL (be R) (be b) 0) (by rw[jd];omega)
      have hd:=iw (be R) (be b) 0 (bz _) (bz _) (by omega) (nR hge) (by rw[aY,aY];exact hge)
      rw[aY,aY]at hd
      rw[fl (jf _ _ _),show natV (diffL (be R) (be b) 0)=a/2^k%b by omega]at h5
      have hp2:2^(k%32)<4294967296:=Nat.pow_lt_pow_right (a:=2) (n:=32) (by omega) (Nat.mod_lt _ (by omega))
      have e3:IntKind.u32.wrap (1*2^min (k%32) IntKind.u32.bits)=((2^(k%32):Nat):Int):=by
       rw[hmin,Int.one_mul,show((2:Int)^(k%32))=((2^(k%32):Nat):Int) by rw[Int.natCast_pow];rfl,rp,Nat.mod_eq_of_lt hp2]
      have e4:=Kg y (2^(k%32)) hy' hp2
      ((first|refine aa [] fun K hK=>?_|refine ae (aa [] fun K hK=>?_)|refine ae (ae (aa [] fun K hK=>?_)));simp(disch:=omega) only[kc,ab,ca,Hm,ak,ac,Value.oneCell',ah,Int.natCast_nonneg,bA];apply hK)
      refine af rfl (fun _=>aq ?_) (fun h=>by simp at h<;>omega)
      refine ae (aI ?_)
      ((first|refine aa [⟨10,_,_,_,h1⟩,⟨11,_,_,_,h2⟩] fun K hK=>?_|refine ae (aa [⟨10,_,_,_,h1⟩,⟨11,_,_,_,h2⟩] fun K hK=>?_)|refine ae (ae (aa [⟨10,_,_,_,h1⟩,⟨11,_,_,_,h2⟩] fun K hK=>?_)));simp(disch:=omega) only[kc,ca,ar.a,ab,Nat.reduceAdd,ak,ac,Value.oneCell',ah,hq,bH,ag,au,ao,an,bG,hx,fU,bs,aA,bN,hr,Int.natCast_nonneg,e1,e2,ai,aN,aC,List.find?_cons,aD,aX,CallRes.plain,aF,aH,ap,noRefTV,am,aG,aE,Nat.reduceBEq];apply hK)
      ((first|refine aa [⟨2,_,_,_,h3⟩] fun K hK=>?_|refine ae (aa [⟨2,_,_,_,h3⟩] fun K hK=>?_)|refine ae (ae (aa [⟨2,_,_,_,h3⟩] fun K hK=>?_)));simp(disch:=omega) only[kc,ca,ar.a,ab,Nat.reduceAdd,ai,aN,aC,List.find?_cons,aD,aX,CallRes.plain,aF,aH,ap,noRefTV,am,aG,aE,ak,ac,Value.oneCell',ah,bA];apply hK)
      refine af rfl (fun _=>?_) (fun h=>by simp at h<;>omega)
      ((first|refine aa [⟨2,_,_,_,h4⟩,⟨3,_,_,_,h5⟩] fun K hK=>?_|refine ae (aa [⟨2,_,_,_,h4⟩,⟨3,_,_,_,h5⟩] fun K hK=>?_)|refine ae (ae (aa [⟨2,_,_,_,h4⟩,⟨3,_,_,_,h5⟩] fun K hK=>?_)));simp(disch:=omega) only[kc,ca,ar.a,ab,Nat.reduceAdd,ai,aN,aC,List.find?_cons,aD,aX,CallRes.plain,aF,aH,ap,noRefTV,am,aG,aE,Nat.reduceBEq];apply hK)
      ((refine dW bY [] [] (by kernel_rfl) (by simp) fun K hK=>?_);simp(disch:=omega) only[kc,ab,Nat.reduceAdd,ak,ac,Value.oneCell',ah,hq,bH,ag,au,ao,an,bs,cb,fU,hy,aA,bN,hr,Int.natCast_nonneg,e3,e4,az,df,bJ,cellsOf,Nat.le_refl,isPure,putCells,eh,aS,aT];apply hK)
      show bT _ _ _ _
      ((refine aU [] [] (by simp) fun K hK=>?_);simp(disch:=omega) only[kc,ab,Nat.reduceAdd,ak,ac,Value.oneCell',ah,bC];apply hK)
      refine⟨g',by omega,aj ⟨by rw[q2];rfl,trivial⟩ ?_⟩
      simp[b9,bo,bj,q1]
     ·obtain⟨g',q1,q2⟩:=GN hb ht len lmb val (by omega)
      have hrest:=(D9 (a:=a) (k:=k) hb (by omega)).2
      rw[<- hrest]at h2 hge
      have lr':=nR (Nat.le_of_lt (Nat.mod_lt (a/2^k) hb))
      have h3:=AK (be (a/2^k%b)) (be b) (bz _) (bz _) (dr _) (dr _) (by omega) (by omega)
      rw[aY,aY]at h3
      have hc:=DZ (a:=a/2^k%b) (b:=b) (by omega)
      ((first|refine aa [] fun K hK=>?_|refine ae (aa [] fun K hK=>?_)|refine ae (ae (aa [] fun K hK=>?_)));simp(disch:=omega) only[kc,ab,ca,Hm,ak,ac,Value.oneCell',ah,Int.natCast_nonneg,bA];apply hK)
      refine af rfl (fun _=>aq ?_) (fun h=>by simp at h<;>omega)
      refine ae (aI ?_)
      ((first|refine aa [⟨10,_,_,_,h1⟩,⟨11,_,_,_,h2⟩] fun K hK=>?_|refine ae (aa [⟨10,_,_,_,h1⟩,⟨11,_,_,_,h2⟩] fun K hK=>?_)|refine ae (ae (aa [⟨10,_,_,_,h1⟩,⟨11,_,_,_,h2⟩] fun K hK=>?_)));simp(disch:=omega) only[kc,ca,ar.a,ab,Nat.reduceAdd,ak,ac,Value.oneCell',ah,hq,bH,ag,au,ao,an,bG,hx,fU,bs,aA,bN,hr,Int.natCast_nonneg,e1,e2,ai,aN,aC,List.find?_cons,aD,aX,CallRes.plain,aF,aH,ap,noRefTV,am,aG,aE,Nat.reduceBEq];apply hK)
      ((first|refine aa [⟨2,_,_,_,h3⟩] fun K hK=>?_|refine ae (aa [⟨2,_,_,_,h3⟩] fun K hK=>?_)|refine ae (ae (aa [⟨2,_,_,_,h3⟩] fun K hK=>?_)));simp(disch:=omega) only[kc,ca,ar.a,ab,Nat.reduceAdd,ai,aN,aC,List.find?_cons,aD,aX,CallRes.plain,aF,aH,ap,noRefTV,am,aG,aE,ak,ac,Value.oneCell',ah,bf];apply hK)
      refine af rfl (fun h=>by simp at h<;>omega) (fun _=>aq ?_)
      show bT _ _ _ _
      ((refine aU [] [] (by simp) fun K hK=>?_);simp(disch:=omega) only[kc,ab,Nat.reduceAdd,ak,ac,Value.oneCell',ah,bC];apply hK)
      refine⟨g',by omega,aj ⟨by rw[q2];rfl,trivial⟩ ?_⟩
      simp[b9,bo,bj,q1]
theorem FO {P:Program} {p q t n:Nat} (h:kD P t=some n) (hn:n≠1): ∀x∈[(p,q,t)],kD P x.2.2≠some 1:=fun x hx=>by
 have:x=(p,q,t):=by simpa using hx
 subst this
 rw[h]
 intro h'
 injection h' with h'
 exact hn h'
theorem Ac {s:AS} {p q t a r i j b r' i' j':Nat} (h1:s.tmps[p]?=some (.one (.ptr a r i j))) (h2:s.tmps[q]?=some (.one (.ptr b r' i' j'))) (hne:b≠a):wZ [(p,q,t)] s:=fun x hx a2 r2 i2 j2 b2 r3 i3 j3 g1 g2=>by
 have:x=(p,q,t):=by simpa using hx
 subst this
 simp only[h1]at g1
 simp only[h2]at g2
 injection g1 with g1;injection g1 with g1;injection g1 with g1
 injection g2 with g2;injection g2 with g2;injection g2 with g2
 subst g1 g2
 exact hne
def tq (a b:Int):Int:=gE (!(decide (a<0)==decide (b<0))) (a.natAbs/b.natAbs)
def tr (a b:Int):Int:=gE (decide (a<0)) (a.natAbs%b.natAbs)
theorem FR (a b:Int):tr a b+b*tq a b=a:=by
 have h:=Nat.div_add_mod a.natAbs b.natAbs
 have h':(b.natAbs:Int)*((a.natAbs/b.natAbs:Nat):Int)+((a.natAbs%b.natAbs:Nat):Int)=(a.natAbs:Int):=by
  have:=congrArg (Nat.cast (R:=Int)) h
  simpa using this
 unfold tq tr gE
 generalize a.natAbs/b.natAbs=q at*
 generalize a.natAbs%b.natAbs=r at*
 by_cases ha:a<0<;>by_cases hb:b<0
 ·rw[decide_eq_true ha,decide_eq_true hb]
  show -(r:Int)+b*(q:Int)=a
  rw[show(b.natAbs:Int)= -b by omega,show(a.natAbs:Int)= -a by omega,Int.neg_mul]at h';omega
 ·rw[decide_eq_true ha,decide_eq_false hb]
  show -(r:Int)+b* -(q:Int)=a
  rw[show(b.natAbs:Int)=b by omega,show(a.natAbs:Int)= -a by omega]at h';rw[Int.mul_neg];omega
 ·rw[decide_eq_false ha,decide_eq_true hb]
  show(r:Int)+b* -(q:Int)=a
  rw[show(b.natAbs:Int)= -b by omega,show(a.natAbs:Int)=a by omega,Int.neg_mul]at h';rw[Int.mul_neg];omega
 ·rw[decide_eq_false ha,decide_eq_false hb]
  show(r:Int)+b*(q:Int)=a
  rw[show(b.natAbs:Int)=b by omega,show(a.natAbs:Int)=a by omega]at h';omega
theorem FS (a b:Int):(tr a b).natAbs=a.natAbs%b.natAbs:=mi _ _
theorem FQ (a b:Int):(tq a b).natAbs=a.natAbs/b.natAbs:=mi _ _
theorem BE {a b:Int} (hb:b≠0):(tr a b).natAbs<b.natAbs:=by rw[FS];exact Nat.mod_lt _ (by omega)
theorem y9 {a b:Int} (hb:b≠0) (h:0<=tr a b):a/b=tq a b/\a%b=tr a b:=by
 have h1:=FR a b
 have h2:=BE (a:=a) hb
 rcases Int.lt_or_gt_of_ne hb with hn|hp
 ·exact(Int.ediv_emod_unique' hn).2 ⟨h1,h,by omega⟩
 ·exact(Int.ediv_emod_unique hp).2 ⟨h1,h,by omega⟩
theorem AT {a b:Int} (hb:b<0) (h:tr a b<0):a/b=tq a b+1/\a%b=tr a b+b.natAbs:=by
 have h1:=FR a b
 have h2:=BE (a:=a) (b:=b) (by omega)
 refine(Int.ediv_emod_unique' hb).2 ⟨?_,by omega,by omega⟩
 rw[Int.mul_add,Int.mul_one];omega
theorem AU {a b:Int} (hb:0<b) (h:tr a b<0):a/b=tq a b-1/\a%b=tr a b+b.natAbs:=by
 have h1:=FR a b
 have h2:=BE (a:=a) (b:=b) (by omega)
 refine(Int.ediv_emod_unique hb).2 ⟨?_,by omega,by omega⟩
 rw[Int.mul_sub,Int.mul_one];omega
theorem Sz.le {x y:Int} {k:Nat} (h:Sz y k) (hx:x.natAbs<=y.natAbs):Sz x k:=Nat.lt_of_le_of_lt hx h
theorem mr {k:Nat} (h:0<k):Sz 1 k:=by unfold Sz;exact Nat.one_lt_pow (by omega) (by decide)
theorem DP:Bh 1:=mr (by omega)
theorem FE {z:Int} (h:z<0):sg z= -1:=by simp[sg,h]
theorem uV {z:Int} (h:0<=z):0<=sg z:=by unfold sg;split<;>(try split)<;>omega
theorem wT (a b:Int) (hb0:b≠0) (ha:Bh a) (hb:Bh b):CallC Tryz.prog 151 [tZ a,tZ b] ⟨[],.tup [(true,cZ (a/b)),(true,cZ (a%b)),(false,[.p (.raw (.bool true))])]⟩:=by
 have la:=ha.len
 have lb:=hb.len
 have t1:=iS (be a.natAbs) ha.bg.len
 have t2:=iS (be b.natAbs) hb.bg.len
 rw[gP]at t1 t2
 have hl0:(be b.natAbs).length≠0:=fun h=>hb0 (by have:=gc.1 h;omega)
 have hd:=Ea a.natAbs b.natAbs (by omega) la lb
 have bq:Bh (tq a b):=ha.le (by rw[FQ];exact Nat.div_le_self _ _)
 have br:Bh (tr a b):=hb.le (Nat.le_of_lt (BE hb0))
 have hm1:=ju (!(decide (a<0)==decide (b<0))) (be (a.natAbs/b.natAbs)) (bz _) (by have:=bq.bg.len;rwa[FQ]at this)
 have hm2:=ju (decide (a<0)) (be (a.natAbs%b.natAbs)) (bz _) (by have:=br.bg.len;rwa[FS]at this)
 rw[aY,show gE _ _=tq a b from rfl]at hm1
 rw[aY,show gE _ _=tr a b from rfl]at hm2
 have hs:=mj (tr a b) br.bg
 have p0:= @y9 a b hb0
 have p1:= @AT a b
 have p2:= @AU a b
 generalize tq a b=Q at*
 generalize tr a b=R at*
 by_cases hR:R<0
 ·have hm3:=ju false (be b.natAbs) (bz _) (by omega)
  rw[aY,show gE false b.natAbs=((b.natAbs:Nat):Int)from rfl]at hm3
  have hA:=tU R (b.natAbs:Int) br (by unfold Bh Sz;rw[Int.natAbs_natCast];exact hb)
  have hs2:=mj b hb.bg
  have h1:=gB 1 (by omega) (by omega)
  rw[FE hR]at hs
  by_cases hbn:b<0
  ·obtain⟨e1,e2⟩:=p1 hbn hR
   rw[e1,e2]
   rw[FE hbn]at hs2
   have hA2:=tU Q 1 bq DP
   refine ax Tryz.func151 rfl (by kernel_rfl) ?_;rw[Tryz.ntmps151]
   (refine aa [] fun K hK=>?_;simp(disch:=omega) only[kc,ab,Nat.reduceAdd,tZ,bA,List.replicate,cf,aN,aC,cellsOf,isPure,bH,aJ,Nat.reduceEqDiff,bu,bi,Value.oneCell',cP,ac];apply hK)
   (refine bS bY [⟨2,_,_,_,t1⟩,⟨5,_,_,_,t2⟩] [] (by kernel_rfl) (by simp) fun K hK=>?_;simp(disch:=omega) only[kc,ca,ar.a,ab,Nat.reduceAdd,aK,au,bU,cH,aJ,Nat.reduceEqDiff,cP,aA,cj,ai,aN,aC,List.find?_cons,aD,aX,CallRes.plain,aF,aH,ap,noRefTV,am,aG,aE,Nat.reduceBEq];apply hK)
   (refine ae (aa [] fun K hK=>?_);simp(disch:=omega) only[kc,ab,Nat.reduceAdd,aw,au,an,aR,ak,ac,Value.oneCell',ah,bf];apply hK)
   refine af rfl (fun h=>by simp at h<;>omega) (fun _=>aq ?_)
   show bT _ _ _ _
   (refine aa [⟨2,_,_,_,hd⟩] fun K hK=>?_;simp(disch:=omega) only[kc,ca,ar.a,ab,Nat.reduceAdd,ai,aN,aC,List.find?_cons,aD,aX,CallRes.plain,aF,aH,ap,noRefTV,am,aG,aE,aV,ak];apply hK)
   (refine bS bY [⟨6,_,_,_,hm1⟩,⟨10,_,_,_,hm2⟩] [] (by kernel_rfl) (by simp) fun K hK=>?_;simp(disch:=omega) only[kc,bA,ca,tZ,ar.a,ab,Nat.reduceAdd,aK,au,bP,db,Nat.add_zero,aJ,Nat.reduceEqDiff,cP,aA,cE,ak,ah,eR,ai,aN,aC,List.find?_cons,aD,aX,CallRes.plain,aF,aH,ap,noRefTV,am,aG,aE,Nat.reduceBEq,bu,bi,Value.oneCell',bH,az,df,bJ,aM,cellsOf,Nat.le_refl,isPure,putCells,aS,aT];apply hK)
   refine bT.weak (aj (tm:=[jk,jk,.one (.ptr 2 0 0 0),.one (.ptr 3 0 0 0),.one (.ptr 4 0 0 0),.one (.ptr 5 0 0 0),.raw (.bool false),jk,ca (be b.natAbs),jk,jk,.one (.ptr 11 0 0 0),.one (.ptr 12 0 0 0),jk,jk,jk,jk,jk,jk,jk,jk,jk,jk,jk,jk,jk,jk,jk,jk,jk,jk,jk,jk,jk,jk,jk,jk,jk,jk,jk,jk,jk,jk,jk,jk,jk,jk,jk,jk,jk,jk,jk,jk,jk,jk,jk,jk,jk,jk,jk,jk]) (l:=[(2,wQ (decide (a<0)) (be a.natAbs)),(3,wQ true (be b.natAbs)),(4,qp),(5,qp),(11,wQ (decide (Q<0)) (be Q.natAbs)),(12,wQ true (be R.natAbs))]) ⟨rfl,rfl,rfl,rfl,rfl,rfl,trivial⟩ (by simp[b9,bo,bj])) ?_
   (refine ae (aa [⟨1,_,_,_,hs⟩] fun K hK=>?_);simp(disch:=omega) only[kc,tZ,bA,ar.a,ab,Nat.reduceAdd,ca,Hm,au,Nat.reduceEqDiff,cP,aA,aM,aW,Nat.le_refl,ai,aN,aC,List.find?_cons,aD,aX,CallRes.plain,aF,aH,ap,isPure,noRefTV,am,aG,aE,ak,ac,Value.oneCell',ah];apply hK)
   refine af rfl (fun _=>?_) (fun h=>by simp at h<;>omega)
   (refine bS bY [⟨2,_,_,_,hm3⟩,⟨3,_,_,_,hA⟩] [] (by kernel_rfl) (by simp) fun K hK=>?_;simp(disch:=omega) only[kc,ca,tZ,bf,bA,ar.a,ab,Nat.reduceAdd,au,Nat.reduceEqDiff,cP,aA,aM,aW,Nat.le_refl,ai,aN,aC,List.find?_cons,aD,ac,Value.oneCell',aX,CallRes.plain,aF,aH,ap,noRefTV,am,aG,aE,Nat.reduceBEq,isPure,az,df,bJ,cellsOf,bH,putCells,aS,aT];apply hK)
   (refine ae (aa [⟨1,_,_,_,hs2⟩] fun K hK=>?_);simp(disch:=omega) only[kc,tZ,bA,ar.a,ab,Nat.reduceAdd,au,aJ,Nat.reduceEqDiff,cP,aA,aM,aW,Nat.le_refl,ai,aN,aC,List.find?_cons,aD,aX,CallRes.plain,aF,aH,ap,isPure,noRefTV,am,aG,aE,ak,ac,Value.oneCell',ah];apply hK)
   refine af rfl (fun _=>?_) (fun h=>by simp at h<;>omega)
   (refine rB [(12,4,53)] bY [⟨1,_,_,_,h1⟩,⟨2,_,_,_,hA2⟩] [] (by kernel_rfl) (FO (n:=2) (by simp only[aM,aW,bi,bU,cH,cj,an,tB,fO,bP,db,cE,eR]) (by decide)) (Ac rfl rfl (by decide)) (by simp) fun K hK=>?_;simp(disch:=omega) only[kc,tZ,bf,ar.a,ab,Nat.reduceAdd,au,aJ,Nat.reduceEqDiff,cP,aA,aM,aW,Nat.le_refl,ai,aN,aC,List.find?_cons,aD,ac,Value.oneCell',aX,CallRes.plain,aF,aH,ap,noRefTV,am,aG,aE,Nat.reduceBEq,isPure,az,df,bJ,cellsOf,bH,putCells,aS,aT];apply hK)
   (refine ay ⟨.inr rfl,aO rfl ?_ rfl⟩;simp(disch:=omega) only[kc,bE,Tryz.results151,cY,aP,aJ,Nat.reduceEqDiff,cP,aA,aM,aW,Nat.reduceAdd,Nat.le_refl,bX,cZ])
  ·obtain⟨e1,e2⟩:=p2 (by omega) hR
   rw[e1,e2]
   have hs3:=uV (z:=b) (by omega)
   have hA2:=Iw Q 1 bq DP
   refine ax Tryz.func151 rfl (by kernel_rfl) ?_;rw[Tryz.ntmps151]
   (refine aa [] fun K hK=>?_;simp(disch:=omega) only[kc,ab,Nat.reduceAdd,tZ,bf,List.replicate,cf,aN,aC,cellsOf,isPure,bH,aJ,Nat.reduceEqDiff,bu,bi,Value.oneCell',cP,ac];apply hK)
   (refine bS bY [⟨2,_,_,_,t1⟩,⟨5,_,_,_,t2⟩] [] (by kernel_rfl) (by simp) fun K hK=>?_;simp(disch:=omega) only[kc,ca,ar.a,ab,Nat.reduceAdd,aK,au,bU,cH,aJ,Nat.reduceEqDiff,cP,aA,cj,ai,aN,aC,List.find?_cons,aD,aX,CallRes.plain,aF,aH,ap,noRefTV,am,aG,aE,Nat.reduceBEq];apply hK)
   (refine ae (aa [] fun K hK=>?_);simp(disch:=omega) only[kc,ab,Nat.reduceAdd,aw,au,an,aR,ak,ac,Value.oneCell',ah,bf];apply hK)
   refine af rfl (fun h=>by simp at h<;>omega) (fun _=>aq ?_)
   show bT _ _ _ _
   (refine aa [⟨2,_,_,_,hd⟩] fun K hK=>?_;simp(disch:=omega) only[kc,ca,ar.a,ab,Nat.reduceAdd,ai,aN,aC,List.find?_cons,aD,aX,CallRes.plain,aF,aH,ap,noRefTV,am,aG,aE,aV,ak];apply hK)
   (refine bS bY [⟨6,_,_,_,hm1⟩,⟨10,_,_,_,hm2⟩] [] (by kernel_rfl) (by simp) fun K hK=>?_;simp(disch:=omega) only[kc,bf,ca,tZ,bA,ar.a,ab,Nat.reduceAdd,aK,au,bP,db,Nat.add_zero,aJ,Nat.reduceEqDiff,cP,aA,cE,ak,ah,eR,ai,aN,aC,List.find?_cons,aD,aX,CallRes.plain,aF,aH,ap,noRefTV,am,aG,aE,Nat.reduceBEq,bu,bi,Value.oneCell',bH,az,df,bJ,aM,cellsOf,Nat.le_refl,isPure,putCells,aS,aT];apply hK)
   refine bT.weak (aj (tm:=[jk,jk,.one (.ptr 2 0 0 0),.one (.ptr 3 0 0 0),.one (.ptr 4 0 0 0),.one (.ptr 5 0 0 0),.raw (.bool false),jk,ca (be b.natAbs),jk,jk,.one (.ptr 11 0 0 0),.one (.ptr 12 0 0 0),jk,jk,jk,jk,jk,jk,jk,jk,jk,jk,jk,jk,jk,jk,jk,jk,jk,jk,jk,jk,jk,jk,jk,jk,jk,jk,jk,jk,jk,jk,jk,jk,jk,jk,jk,jk,jk,jk,jk,jk,jk,jk,jk,jk,jk,jk,jk,jk]) (l:=[(2,wQ (decide (a<0)) (be a.natAbs)),(3,wQ false (be b.natAbs)),(4,qp),(5,qp),(11,wQ (decide (Q<0)) (be Q.natAbs)),(12,wQ true (be R.natAbs))]) ⟨rfl,rfl,rfl,rfl,rfl,rfl,trivial⟩ (by simp[b9,bo,bj])) ?_
   (refine ae (aa [⟨1,_,_,_,hs⟩] fun K hK=>?_);simp(disch:=omega) only[kc,tZ,bA,ar.a,ab,Nat.reduceAdd,ca,Hm,au,Nat.reduceEqDiff,cP,aA,aM,aW,Nat.le_refl,ai,aN,aC,List.find?_cons,aD,aX,CallRes.plain,aF,aH,ap,isPure,noRefTV,am,aG,aE,ak,ac,Value.oneCell',ah];apply hK)
   refine af rfl (fun _=>?_) (fun h=>by simp at h<;>omega)
   (refine bS bY [⟨2,_,_,_,hm3⟩,⟨3,_,_,_,hA⟩] [] (by kernel_rfl) (by simp) fun K hK=>?_;simp(disch:=omega) only[kc,ca,tZ,bf,bA,ar.a,ab,Nat.reduceAdd,au,Nat.reduceEqDiff,cP,aA,aM,aW,Nat.le_refl,ai,aN,aC,List.find?_cons,aD,ac,Value.oneCell',aX,CallRes.plain,aF,aH,ap,noRefTV,am,aG,aE,Nat.reduceBEq,isPure,az,df,bJ,cellsOf,bH,putCells,aS,aT];apply hK)
   (refine ae (aa [⟨1,_,_,_,hs2⟩] fun K hK=>?_);simp(disch:=omega) only[kc,tZ,bf,ar.a,ab,Nat.reduceAdd,au,aJ,Nat.reduceEqDiff,cP,aA,aM,aW,Nat.le_refl,ai,aN,aC,List.find?_cons,aD,aX,CallRes.plain,aF,aH,ap,isPure,noRefTV,am,aG,aE,ak,ac,Value.oneCell',ah];apply hK)
   refine af rfl (fun h=>by simp at h<;>omega) (fun _=>aq ?_)
   show bT _ _ _ _
   (refine rB [(12,4,53)] bY [⟨1,_,_,_,h1⟩,⟨2,_,_,_,hA2⟩] [] (by kernel_rfl) (FO (n:=2) (by simp only[aM,aW,bi,bU,cH,cj,an,tB,fO,bP,db,cE,eR]) (by decide)) (Ac rfl rfl (by decide)) (by simp) fun K hK=>?_;simp(disch:=omega) only[kc,tZ,bf,ar.a,ab,Nat.reduceAdd,au,aJ,Nat.reduceEqDiff,cP,aA,aM,aW,Nat.le_refl,ai,aN,aC,List.find?_cons,aD,ac,Value.oneCell',aX,CallRes.plain,aF,aH,ap,noRefTV,am,aG,aE,Nat.reduceBEq,isPure,az,df,bJ,cellsOf,bH,putCells,aS,aT];apply hK)
   (refine ay ⟨.inr rfl,aO rfl ?_ rfl⟩;simp(disch:=omega) only[kc,bE,Tryz.results151,cY,aP,aJ,Nat.reduceEqDiff,cP,aA,aM,aW,Nat.reduceAdd,Nat.le_refl,bX,cZ])
 ·obtain⟨e1,e2⟩:=p0 (by omega)
  rw[e1,e2]
  have hs3:=uV (z:=R) (by omega)
  refine ax Tryz.func151 rfl (by kernel_rfl) ?_;rw[Tryz.ntmps151]
  (refine aa [] fun K hK=>?_;simp(disch:=omega) only[kc,ab,Nat.reduceAdd,tZ,List.replicate,cf,aN,aC,cellsOf,isPure,bH,aJ,Nat.reduceEqDiff,bu,bi,Value.oneCell',cP,ac];apply hK)
  (refine bS bY [⟨2,_,_,_,t1⟩,⟨5,_,_,_,t2⟩] [] (by kernel_rfl) (by simp) fun K hK=>?_;simp(disch:=omega) only[kc,ca,ar.a,ab,Nat.reduceAdd,aK,au,bU,cH,aJ,Nat.reduceEqDiff,cP,aA,cj,ai,aN,aC,List.find?_cons,aD,aX,CallRes.plain,aF,aH,ap,noRefTV,am,aG,aE,Nat.reduceBEq];apply hK)
  (refine ae (aa [] fun K hK=>?_);simp(disch:=omega) only[kc,ab,Nat.reduceAdd,aw,au,an,aR,ak,ac,Value.oneCell',ah,bf];apply hK)
  refine af rfl (fun h=>by simp at h<;>omega) (fun _=>aq ?_)
  show bT _ _ _ _
  (refine aa [⟨2,_,_,_,hd⟩] fun K hK=>?_;simp(disch:=omega) only[kc,ca,ar.a,ab,Nat.reduceAdd,ai,aN,aC,List.find?_cons,aD,aX,CallRes.plain,aF,aH,ap,noRefTV,am,aG,aE,aV,ak];apply hK)
  (refine bS bY [⟨6,_,_,_,hm1⟩,⟨10,_,_,_,hm2⟩] [] (by kernel_rfl) (by simp) fun K hK=>?_;simp(disch:=omega) only[kc,ca,tZ,bf,ar.a,ab,Nat.reduceAdd,aK,au,bP,db,Nat.add_zero,aJ,Nat.reduceEqDiff,cP,aA,cE,ak,ah,eR,ai,aN,aC,List.find?_cons,aD,aX,CallRes.plain,aF,aH,ap,noRefTV,am,aG,aE,Nat.reduceBEq,bu,bi,Value.oneCell',bH,az,df,bJ,aM,cellsOf,Nat.le_refl,isPure,putCells,aS,aT];apply hK)
  refine bT.weak (aj (tm:=[jk,jk,.one (.ptr 2 0 0 0),.one (.ptr 3 0 0 0),.one (.ptr 4 0 0 0),.one (.ptr 5 0 0 0),.raw (.bool false),jk,ca (be b.natAbs),jk,jk,.one (.ptr 11 0 0 0),.one (.ptr 12 0 0 0),jk,jk,jk,jk,jk,jk,jk,jk,jk,jk,jk,jk,jk,jk,jk,jk,jk,jk,jk,jk,jk,jk,jk,jk,jk,jk,jk,jk,jk,jk,jk,jk,jk,jk,jk,jk,jk,jk,jk,jk,jk,jk,jk,jk,jk,jk,jk,jk]) (l:=[(2,wQ (decide (a<0)) (be a.natAbs)),(3,wQ (decide (b<0)) (be b.natAbs)),(4,qp),(5,qp),(11,wQ (decide (Q<0)) (be Q.natAbs)),(12,wQ false (be R.natAbs))]) ⟨rfl,rfl,rfl,rfl,rfl,rfl,trivial⟩ (by simp[b9,bo,bj])) ?_
  (refine ae (aa [⟨1,_,_,_,hs⟩] fun K hK=>?_);simp(disch:=omega) only[kc,tZ,bf,ar.a,ab,Nat.reduceAdd,ca,Hm,au,Nat.reduceEqDiff,cP,aA,aM,aW,Nat.le_refl,ai,aN,aC,List.find?_cons,aD,aX,CallRes.plain,aF,aH,ap,isPure,noRefTV,am,aG,aE,ak,ac,Value.oneCell',ah];apply hK)
  refine af rfl (fun h=>by simp at h<;>omega) (fun _=>aq ?_)
  show bT _ _ _ _
  (refine rB [(12,4,53)] bY [] [] (by kernel_rfl) (FO (n:=2) (by simp only[aM,aW,bi,bU,cH,cj,an,tB,fO,bP,db,cE,eR]) (by decide)) (Ac rfl rfl (by decide)) (by simp) fun K hK=>?_;simp(disch:=omega) only[kc,ab,Nat.reduceAdd,au,Nat.reduceEqDiff,cP,aA,aM,aW,Nat.le_refl,az,df,bJ,cellsOf,isPure,bH,putCells,aS,aT,aJ,ac,Value.oneCell'];apply hK)
  (refine ay ⟨.inr rfl,aO rfl ?_ rfl⟩;simp(disch:=omega) only[kc,bE,Tryz.results151,cY,aP,aJ,Nat.reduceEqDiff,cP,aA,aM,aW,Nat.reduceAdd,Nat.le_refl,bX,cZ,bf])
theorem At (a b:Int) (hb0:b≠0) (ha:Bh a) (hb:Bh b):CallC Tryz.prog 124 [tZ a,tZ b] ⟨[],tZ (a/b)⟩:=by
 have h1:=wT a b hb0 ha hb
 refine ax Tryz.func124 rfl (by kernel_rfl) ?_;rw[Tryz.ntmps124]
 (refine aa [] fun K hK=>?_;simp(disch:=omega) only[kc,ab,Nat.reduceAdd,tZ,List.replicate,cf,aN,aC,cellsOf,isPure,bH,aJ,Nat.reduceEqDiff,bu,bi,Value.oneCell',cP];apply hK)
 (refine aa [⟨2,_,_,_,h1⟩] fun K hK=>?_;simp(disch:=omega) only[kc,tZ,cZ,ar.a,ab,Nat.reduceAdd,au,aJ,Nat.reduceEqDiff,cP,aA,aM,aW,Nat.le_refl,ai,aN,aC,List.find?_cons,aD,aX,CallRes.plain,aF,aH,ap,isPure,noRefTV,am,aG,aE,aV,ak,bu,bi,Value.oneCell',bH,az,df,bJ,cellsOf,putCells,aS,aT];apply hK)
 (refine aa [] fun K hK=>?_;simp(disch:=omega) only[kc,ab,au,aJ,Nat.reduceEqDiff,cP,aA,aM,aW,Nat.reduceAdd,Nat.le_refl,az,df,bJ,cellsOf,isPure,bH,putCells,aS,aT];apply hK)
 (refine ay ⟨.inr rfl,aO rfl ?_ rfl⟩;simp(disch:=omega) only[kc,bE,Tryz.results124,aP,aJ,Nat.reduceEqDiff,cP,aA,aM,aW,Nat.reduceAdd,Nat.le_refl,tZ])
def fR {α:Type} (f:α->List PV) (r:List α):List PV:=[.sl (ls f r)]
abbrev ci (M:List (List Int)):TV:= .one (.p (.sl (ls (fR fZ) M)))
abbrev rOk (n:Nat) (r:List Int):Prop:=1<=r.length/\r.length<=16/\r.length=n
def vg (M:List (List Int)):Prop:=1<=M.length/\M.length<=16/\ ∀r∈M,rOk (M.headD []).length r
instance (M:List (List Int)):Decidable (vg M):=by unfold vg;exact inferInstance
def JF (M:List (List Int)):TV:=if vg M then .tup [(false,[.p (.raw (.int .i64 (M.length:Int)))]),(false,[.p (.raw (.int .i64 ((M.headD []).length:Int)))]),(false,[.p (.raw (.bool true))])]
 else .tup [(false,[.p (.raw (.int .i64 0))]),(false,[.p (.raw (.int .i64 0))]),(false,[.p (.raw (.bool false))])]
theorem gh {M:List (List Int)} (h: ¬vg M):JF M= .tup [(false,[.p (.raw (.int .i64 0))]),(false,[.p (.raw (.int .i64 0))]),(false,[.p (.raw (.bool false))])]:=by unfold JF;rw[if_neg h]
theorem gO {M:List (List Int)} (h:vg M):JF M= .tup [(false,[.p (.raw (.int .i64 (M.length:Int)))]),(false,[.p (.raw (.int .i64 ((M.headD []).length:Int)))]),(false,[.p (.raw (.bool true))])]:=by unfold JF;rw[if_pos h]
theorem gI {M:List (List Int)} (h:1<=M.length):M[0]?=some (M.headD []):=by cases M with
 |nil=>simp at h
 |cons r M=>rfl
structure K3 (M:List (List Int)) where
 i:Nat
 hi:i<=M.length
 ok: ∀r∈M.take i,rOk (M.headD []).length r
theorem mB (M:List (List Int)):CallC Tryz.prog 69 [ci M] ⟨[],JF M⟩:=by
 by_cases h1:M.length<1
 ·rw[gh (fun h=>by have:=h.1;omega)]
  refine ax Tryz.func69 rfl (by kernel_rfl) ?_;rw[Tryz.ntmps69]
  (refine aa [] fun K hK=>?_;simp(disch:=omega) only[kc,ab,Nat.reduceAdd,ci,List.replicate,ac,Value.oneCell'];apply hK)
  (refine ae (aa [] fun K hK=>?_);simp(disch:=omega) only[kc,ab,Nat.reduceAdd,aw,au,aZ,aR,ak,ac,Value.oneCell',ah,bA,aB,reduceCtorEq,Option.map_none,aQ];apply hK)
  refine af rfl (fun _=>?_) (fun h=>by simp at h<;>omega)
  (refine aa [] fun K hK=>?_;simp(disch:=omega) only[kc,ab,Nat.reduceAdd,ac,Value.oneCell'];apply hK)
  (refine ay ⟨.inr rfl,aO rfl ?_ rfl⟩;simp(disch:=omega) only[bE,Tryz.results69,cY,aP,List.getElem?_cons_succ,List.getElem?_cons_zero,Option.bind_some,bX,Option.map_some])
 by_cases h2:16<M.length
 ·rw[gh (fun h=>by have:=h.2.1;omega)]
  refine ax Tryz.func69 rfl (by kernel_rfl) ?_;rw[Tryz.ntmps69]
  (refine aa [] fun K hK=>?_;simp(disch:=omega) only[kc,ab,Nat.reduceAdd,ci,List.replicate,ac,Value.oneCell'];apply hK)
  (refine ae (aa [] fun K hK=>?_);simp(disch:=omega) only[kc,ab,Nat.reduceAdd,aw,au,aZ,aR,ak,ac,Value.oneCell',ah,bf,aB,bH,bA,aQ];apply hK)
  refine af rfl (fun _=>?_) (fun h=>by simp at h<;>omega)
  (refine aa [] fun K hK=>?_;simp(disch:=omega) only[kc,ab,Nat.reduceAdd,ac,Value.oneCell'];apply hK)
  (refine ay ⟨.inr rfl,aO rfl ?_ rfl⟩;simp(disch:=omega) only[bE,Tryz.results69,cY,aP,List.getElem?_cons_succ,List.getElem?_cons_zero,Option.bind_some,bX,Option.map_some])
 have h0:=gI (M:=M) (by omega)
 refine ax Tryz.func69 rfl (by kernel_rfl) ?_;rw[Tryz.ntmps69]
 (refine aa [] fun K hK=>?_;simp(disch:=omega) only[kc,ab,Nat.reduceAdd,ci,List.replicate,ac,Value.oneCell'];apply hK)
 (refine ae (aa [] fun K hK=>?_);simp(disch:=omega) only[kc,ab,Nat.reduceAdd,aw,au,aZ,aR,ak,ac,Value.oneCell',ah,bf,aB,bH,aQ];apply hK)
 refine af rfl (fun h=>by simp at h<;>omega) (fun _=>aq ?_)
 show bT _ _ _ _
 (refine ae (aa [] fun K hK=>?_);simp(disch:=omega) only[kc,ab,Nat.reduceAdd,aw,au,aZ,aR,ac,Value.oneCell'];apply hK)
 refine bD (G:=K3 M) (fun g=>⟨[ci M,jk,.raw (.int .i64 0),.raw (.int .i64 0),.raw (.bool false),jk,jk,jk,jk,jk,jk,jk,jk,jk,jk,ci M,.raw (.int .i64 (M.length:Int)),.raw (.int .i64 (g.i:Int)),jk,jk,jk,jk,jk,jk,jk,jk,jk,jk,jk,jk,jk,jk,jk,jk,jk,jk,jk,jk,jk,jk,jk,jk,jk,jk,jk],Hm []⟩) (fun g=>M.length-g.i) ⟨0,by omega,fun r hr=>by simp at hr⟩ ?_ ?_
 ·refine aj trivial ?_
  simp[b9,bo,bj]
 ·rintro⟨i,hi,ok⟩
  simp only
  by_cases hm:i<M.length
  ·obtain⟨r,hr⟩:=getElem?_of_lt hm
   have hmem:r∈M:=List.mem_of_getElem? hr
   (refine aa [] fun K hK=>?_;simp(disch:=omega) only[kc,ab,ci,Hm,ak,ah,bA];apply hK)
   refine ae (af rfl (fun _=>aq ?_) (fun h=>by simp at h<;>omega))
   refine ae (aI ?_)
   (refine aa [] fun K hK=>?_;simp(disch:=omega) only[kc,ab,Nat.reduceAdd,ag,au,ao,aZ,bG,hr,fR,cw,aA,cu];apply hK)
   by_cases c1:r.length<1
   ·rw[gh (fun h=>by have:=(h.2.2 r hmem).1;omega)]
    (refine aa [] fun K hK=>?_;simp(disch:=omega) only[kc,ab,Nat.reduceAdd,aw,au,bL,aR,ak,ac,Value.oneCell',ah,bA,aB,reduceCtorEq,Option.map_none,aQ,ag,ao,Int.reduceToNat,aZ];apply hK)
    refine af rfl (fun _=>?_) (fun h=>by simp at h<;>omega)
    (refine aa [] fun K hK=>?_;simp(disch:=omega) only[kc,ab,Nat.reduceAdd,ac,Value.oneCell'];apply hK)
    (refine ay ⟨.inr rfl,aO rfl ?_ rfl⟩;simp(disch:=omega) only[bE,Tryz.results69,cY,aP,List.getElem?_cons_succ,List.getElem?_cons_zero,Option.bind_some,bX,Option.map_some])
   by_cases c2:16<r.length
   ·rw[gh (fun h=>by have:=(h.2.2 r hmem).2.1;omega)]
    (refine aa [] fun K hK=>?_;simp(disch:=omega) only[kc,ab,Nat.reduceAdd,aw,au,bL,aR,ak,ac,Value.oneCell',ah,bf,aB,bH,bA,aQ,reduceCtorEq,Option.map_none,ag,ao,Int.reduceToNat,aZ];apply hK)
    refine af rfl (fun _=>?_) (fun h=>by simp at h<;>omega)
    (refine aa [] fun K hK=>?_;simp(disch:=omega) only[kc,ab,Nat.reduceAdd,ac,Value.oneCell'];apply hK)
    (refine ay ⟨.inr rfl,aO rfl ?_ rfl⟩;simp(disch:=omega) only[bE,Tryz.results69,cY,aP,List.getElem?_cons_succ,List.getElem?_cons_zero,Option.bind_some,bX,Option.map_some])
   by_cases c3:r.length=(M.headD []).length
   ·(refine aa [] fun K hK=>?_;simp(disch:=omega) only[kc,ab,Nat.reduceAdd,aw,au,bL,aR,ak,ac,Value.oneCell',ah,bf,aB,bH,aQ,ag,ao,Int.reduceToNat,aZ,bG,h0,fR,cw,aA,cu,bA];apply hK)
    refine af rfl (fun h=>by simp at h<;>omega) (fun _=>aq ?_)
    show bT _ _ _ _
    ((refine aU [] [] (by simp) fun K hK=>?_);simp(disch:=omega) only[kc,ab,ak,ac,Value.oneCell',ah,bC];apply hK)
    refine⟨⟨i+1,by omega,fun r' hr'=>?_⟩,by simp only;omega,aj trivial ?_⟩
    ·rw[List.take_add_one,hr]at hr'
     rcases List.mem_append.1 hr' with h|h
     ·exact ok r' h
     ·have:r'=r:=by simpa using h
      subst this
      exact⟨by omega,by omega,c3⟩
    ·simp[b9,bo,bj]
   ·rw[gh (fun h=>by have:=(h.2.2 r hmem).2.2;omega)]
    (refine aa [] fun K hK=>?_;simp(disch:=omega) only[kc,ab,Nat.reduceAdd,aw,au,bL,aR,ak,ac,Value.oneCell',ah,bf,aB,bH,aQ,ag,ao,Int.reduceToNat,aZ,bG,h0,fR,cw,aA,cu,Bool.not_false];apply hK)
    refine af rfl (fun _=>?_) (fun h=>by simp at h<;>omega)
    (refine aa [] fun K hK=>?_;simp(disch:=omega) only[kc,ab,Nat.reduceAdd,ac,Value.oneCell'];apply hK)
    (refine ay ⟨.inr rfl,aO rfl ?_ rfl⟩;simp(disch:=omega) only[bE,Tryz.results69,cY,aP,List.getElem?_cons_succ,List.getElem?_cons_zero,Option.bind_some,bX,Option.map_some])
  ·have hsh:vg M:=⟨by omega,by omega,fun r hr=>ok r (by rw[List.take_of_length_le (by omega)];exact hr)⟩
   rw[gO hsh]
   (refine aa [] fun K hK=>?_;simp(disch:=omega) only[kc,ab,ci,Hm,ak,ah,bf];apply hK)
   refine ae (af rfl (fun h=>by simp at h<;>omega) (fun _=>bv ?_))
   show bT _ _ _ _
   (refine bS bY [] [] (by kernel_rfl) (by simp) fun K hK=>?_;simp(disch:=omega) only[kc,ab,Nat.reduceAdd,aw,au,aZ,aR,ag,ac,Value.oneCell',ao,Int.reduceToNat,bG,h0,fR,cw,aA,cu,bL];apply hK)
   (refine ay ⟨.inr rfl,aO rfl ?_ rfl⟩;simp(disch:=omega) only[bE,Tryz.results69,cY,aP,List.getElem?_cons_succ,List.getElem?_cons_zero,Option.bind_some,bX,Option.map_some])
def Kt (M:List (List Int)):Prop:=vg M/\M.length=(M.headD []).length
instance (M:List (List Int)):Decidable (Kt M):=by unfold Kt;exact inferInstance
def IG (M:List (List Int)):TV:=if Kt M then .tup [(false,[.p (.raw (.int .i64 (M.length:Int)))]),(false,[.p (.raw (.bool true))])]else .tup [(false,[.p (.raw (.int .i64 0))]),(false,[.p (.raw (.bool false))])]
theorem ox (M:List (List Int)):CallC Tryz.prog 92 [ci M] ⟨[],IG M⟩:=by
 have hS:=mB M
 by_cases h1:vg M
 ·rw[gO h1]at hS
  by_cases h2:M.length=(M.headD []).length
  ·rw[show IG M=_ from if_pos ⟨h1,h2⟩]
   refine ax Tryz.func92 rfl (by kernel_rfl) ?_;rw[Tryz.ntmps92]
   (refine aa [] fun K hK=>?_;simp(disch:=omega) only[kc,ab,ci,List.replicate,ac,Value.oneCell'];apply hK)
   (refine aa [⟨1,_,_,_,hS⟩] fun K hK=>?_;simp(disch:=omega) only[kc,ci,ar.a,ab,Nat.reduceAdd,ai,aN,aC,List.find?_cons,aD,aX,CallRes.plain,aF,aH,ap,noRefTV,am,aG,aE,aV,ak];apply hK)
   (refine ae (aa [] fun K hK=>?_);simp(disch:=omega) only[kc,ab,Nat.reduceAdd,bW,ak,dc,aB,ah,bA,bH,aQ];apply hK)
   refine af rfl (fun h=>by simp at h<;>omega) (fun _=>aq ?_)
   show bT _ _ _ _
   (refine aa [] fun K hK=>?_;simp(disch:=omega) only[kc,ab,Nat.reduceAdd,ac,Value.oneCell'];apply hK)
   (refine ay ⟨.inr rfl,aO rfl ?_ rfl⟩;simp(disch:=omega) only[bE,Tryz.results92,cY,aP,List.getElem?_cons_succ,List.getElem?_cons_zero,Option.bind_some,bX,Option.map_some])
  ·rw[show IG M=_ from if_neg (fun h=>h2 h.2)]
   refine ax Tryz.func92 rfl (by kernel_rfl) ?_;rw[Tryz.ntmps92]
   (refine aa [] fun K hK=>?_;simp(disch:=omega) only[kc,ab,ci,List.replicate,ac,Value.oneCell'];apply hK)
   (refine aa [⟨1,_,_,_,hS⟩] fun K hK=>?_;simp(disch:=omega) only[kc,ci,ar.a,ab,Nat.reduceAdd,ai,aN,aC,List.find?_cons,aD,aX,CallRes.plain,aF,aH,ap,noRefTV,am,aG,aE,aV,ak];apply hK)
   (refine ae (aa [] fun K hK=>?_);simp(disch:=omega) only[kc,ab,Nat.reduceAdd,bW,ak,dc,aB,ah,bf,Bool.not_false,bH,aQ];apply hK)
   refine af rfl (fun _=>?_) (fun h=>by simp at h<;>omega)
   (refine aa [] fun K hK=>?_;simp(disch:=omega) only[kc,ab,ac,Value.oneCell'];apply hK)
   (refine ay ⟨.inr rfl,aO rfl ?_ rfl⟩;simp(disch:=omega) only[bE,Tryz.results92,cY,aP,List.getElem?_cons_succ,List.getElem?_cons_zero,Option.bind_some,bX,Option.map_some])
 ·rw[gh h1]at hS
  rw[show IG M=_ from if_neg (fun h=>h1 h.1)]
  refine ax Tryz.func92 rfl (by kernel_rfl) ?_;rw[Tryz.ntmps92]
  (refine aa [] fun K hK=>?_;simp(disch:=omega) only[kc,ab,ci,List.replicate,ac,Value.oneCell'];apply hK)
  (refine aa [⟨1,_,_,_,hS⟩] fun K hK=>?_;simp(disch:=omega) only[kc,ci,ar.a,ab,Nat.reduceAdd,ai,aN,aC,List.find?_cons,aD,aX,CallRes.plain,aF,aH,ap,noRefTV,am,aG,aE,aV,ak];apply hK)
  (refine ae (aa [] fun K hK=>?_);simp(disch:=omega) only[kc,ab,Nat.reduceAdd,bW,ak,dc,Bool.not_false,aB,reduceCtorEq,Option.map_none,aQ,ac,Value.oneCell'];apply hK)
  refine af rfl (fun _=>?_) (fun h=>by simp at h<;>omega)
  (refine aa [] fun K hK=>?_;simp(disch:=omega) only[kc,ab,ac,Value.oneCell'];apply hK)
  (refine ay ⟨.inr rfl,aO rfl ?_ rfl⟩;simp(disch:=omega) only[bE,Tryz.results92,cY,aP,List.getElem?_cons_succ,List.getElem?_cons_zero,Option.bind_some,bX,Option.map_some])
end Go.Proofs.YtpgghglbpcabkaaGreat
