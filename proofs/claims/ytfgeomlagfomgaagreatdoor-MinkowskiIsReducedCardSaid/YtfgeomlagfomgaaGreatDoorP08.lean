/-
  Part 9 of a proof (walks and plain facts).
-/
import Derived.Test.YtfgeomlagfomgaaGreatDoorP07
set_option linter.all false
set_option maxRecDepth 100000
set_option maxHeartbeats 64000000
open Nat renaming reduceAdd → aa
open Go.Value renaming oneCell' → ab
open List renaming find?_cons → ac
open Go.Proofs.YtfgeomlagfomgaaGreatDoor.CallRes renaming plain → ae
open Nat renaming reduceEqDiff → af
open List renaming getElem?_cons_zero → ag
open List renaming getElem?_cons_succ → ah
open Nat renaming le_refl → ai
open List renaming replicate → aj
open Nat renaming reduceBEq → ak
open Option renaming map_some → am
open Option renaming bind_some → ao
open Int renaming reduceToNat → aw
open Int renaming natCast_nonneg → ax
open Option renaming map_none → ay
open Nat renaming add_zero → az
open List renaming getElem?_map → aH
namespace Go.Proofs.YtfgeomlagfomgaaGreatDoor
open Go.RowKit
def dblL:List Nat->Nat->List Nat
 |[],b=>[b]
 |x::l,b=>(2*x+b)%4294967296::dblL l (x/2147483648)
theorem uw: ∀(l:List Nat) (b:Nat),Lmb l->b<=1->natV (dblL l b)=2*natV l+b
 |[],b,_,_=>by simp[dblL,natV]
 |x::l,b,hl,hb=>by
  rw[fm]at hl
  have hx:=hl.1
  simp only[dblL,natV,uw l (x/2147483648) hl.2 (by omega)];omega
theorem xE: ∀(l:List Nat) (b:Nat),Lmb l->b<=1->Lmb (dblL l b)
 |[],b,_,hb=>by simp[dblL,Lmb];omega
 |x::l,b,hl,hb=>by
  rw[fm]at hl
  have hx:=hl.1
  rw[dblL,fm]
  exact⟨Nat.mod_lt _ (by omega),xE l _ hl.2 (by omega)⟩
theorem xb: ∀(l:List Nat) (b:Nat),(dblL l b).length=l.length+1
 |[],b=>rfl
 |x::l,b=>by simp[dblL,xb l]
theorem pU (a b n:Nat) (h:b<2^n):(a*2^n)|||b=a*2^n+b:=by
 have:=Nat.shiftLeft_add_eq_or_of_lt h a
 rw[Nat.shiftLeft_eq]at this
 exact this.symm
theorem qN (a b n:Nat) (h:b<2^n):b|||(a*2^n)=a*2^n+b:=by rw[Nat.or_comm,pU a b n h]
theorem Lh (a b:Nat) (ha:a<4294967296) (hb:b<4294967296):IntKind.u32.wrap (((BitVec.ofInt IntKind.u32.bits (a:Int)|||BitVec.ofInt IntKind.u32.bits (b:Int)).toNat:Nat):Int)=((a|||b:Nat):Int):=by
 rw[q9]
 show(((BitVec.ofInt 32 (a:Int)|||BitVec.ofInt 32 (b:Int)).toNat%4294967296:Nat):Int)=_
 rw[BitVec.toNat_or]
 have e: ∀x:Nat,x<4294967296->(BitVec.ofInt 32 (x:Int)).toNat=x:=fun x hx=>by rw[BitVec.toNat_ofInt];show((x:Int)%4294967296).toNat=x;omega
 rw[e a ha,e b hb,Nat.mod_eq_of_lt]
 exact Nat.or_lt_two_pow (n:=32) ha hb
theorem vX (a b:Nat) (ha:a<18446744073709551616) (hb:b<18446744073709551616):IntKind.u64.wrap (((BitVec.ofInt IntKind.u64.bits (a:Int)|||BitVec.ofInt IntKind.u64.bits (b:Int)).toNat:Nat):Int)=((a|||b:Nat):Int):=by
 rw[IntKind.wrap_u64]
 show((BitVec.ofInt 64 (a:Int)|||BitVec.ofInt 64 (b:Int)).toNat:Int)%_=_
 rw[BitVec.toNat_or]
 have e: ∀x:Nat,x<18446744073709551616->(BitVec.ofInt 64 (x:Int)).toNat=x:=fun x hx=>by rw[BitVec.toNat_ofInt];show((x:Int)%18446744073709551616).toNat=x;omega
 rw[e a ha,e b hb]
 have:=Nat.or_lt_two_pow (n:=64) ha hb
 generalize a|||b=c at*
 omega
theorem K3 (a b:Nat) (ha:a<4294967296) (hb:b<4294967296):IntKind.u32.wrap (((BitVec.ofInt IntKind.u32.bits (a:Int)&&&BitVec.ofInt IntKind.u32.bits (b:Int)).toNat:Nat):Int)=((a&&&b:Nat):Int):=by
 rw[q9]
 show(((BitVec.ofInt 32 (a:Int)&&&BitVec.ofInt 32 (b:Int)).toNat%4294967296:Nat):Int)=_
 rw[BitVec.toNat_and]
 have e: ∀x:Nat,x<4294967296->(BitVec.ofInt 32 (x:Int)).toNat=x:=fun x hx=>by rw[BitVec.toNat_ofInt];show((x:Int)%4294967296).toNat=x;omega
 rw[e a ha,e b hb,Nat.mod_eq_of_lt]
 exact Nat.lt_of_le_of_lt Nat.and_le_left ha
structure LE (l:List Nat) (b:Nat) where
 i:Nat
 o:List Nat
 c:Nat
 hi:i<=l.length
 hc:c<=1
 ho:o.length=i
 h:o++dblL (l.drop i) c=dblL l b
theorem Eg (l:List Nat) (b:Nat) (lm:Lmb l) (hb:b<=1) (bl:l.length<=1073741824):CallC Tryz.prog 156 [de l,.raw (.int .u32 (b:Int))] ⟨[],de (dblL l b)⟩:=by
 refine bG Tryz.func156 rfl (by kernel_rfl) ?_;rw[Tryz.ntmps156]
 (refine aL [] fun K hK=>?_;simp(disch:=omega) only[kc,aM,de,aa,aj,aN,ab];apply hK)
 (refine aL [] fun K hK=>?_;simp(disch:=omega) only[kc,aM,aN,ab];apply hK)
 (refine aP (aL [] fun K hK=>?_);simp(disch:=omega) only[kc,aM,aa,be,aZ,aV,bE,aN,ab];apply hK)
 refine cC (G:=LE l b) (fun g=>⟨[de l,.raw (.int .u32 (g.c:Int)),jk,jk,.raw (.slice none 0 0),.one (.sl 20 0 0 g.o.length),jk,jk,de l,.raw (.int .i64 (l.length:Int)),.raw (.int .i64 (g.i:Int)),jk,jk,jk,jk,jk,jk,jk,jk,jk,jk,jk,jk,jk,jk,jk,jk,jk],Hm [(20,[⟨79,1,lc fU g.o⟩])]⟩) (fun g=>l.length-g.i) ⟨0,[],b,by omega,hb,rfl,rfl⟩ ?_ ?_
 ·refine(iz (k:=5) (d:=20) 79 1 (by omega) rfl rfl).trans (aT ⟨rfl,trivial⟩ ?_)
  simp[di,b9,b8]
 rintro⟨i,o,c,hi,hc,ho,h⟩
 simp only
 by_cases hm:i<l.length
 ·obtain⟨a,ha⟩:=getElem?_of_lt hm
  have ha':=dY lm ha
  have e1:IntKind.u32.wrap ((a:Int)*2^min 1 IntKind.u32.bits)=((2*a%4294967296:Nat):Int):=by
   rw[<- q9];congr 1;show(a:Int)*2=_;omega
  have e2:=Lh (2*a%4294967296) c (by omega) (by omega)
  have e3:(2*a%4294967296)|||c=(2*a+c)%4294967296:=by
   have:=pU (a%2147483648) c 1 (by omega)
   rw[show 2*a%4294967296=a%2147483648*2^1 by omega,this];omega
  rw[e3]at e2
  have e4:Int.fdiv (a:Int) (2^(min 31 IntKind.u32.bits))=((a/2147483648:Nat):Int):=by
   show Int.fdiv (a:Int) 2147483648=_
   rw[Int.fdiv_eq_ediv_of_nonneg _ (by omega)];omega
  (refine aL [] fun K hK=>?_;simp(disch:=omega) only[kc,aM,de,Hm,aU,aO,aR,aX,aS,cw];apply hK)
  refine aP (bJ rfl (bi ?_))
  refine aP (bA ?_)
  (refine aL [] fun K hK=>?_;simp(disch:=omega) only[kc,aM,aa,aQ,aZ,aW,aV,ch,ha,fU,cg,packT,cW];apply hK)
  (refine aL [] fun K hK=>?_;simp(disch:=omega) only[kc,aM,aa,aU,aO,aR,aX,aN,ab,aS,Int.reduceLE,aw,e1,e2,cX,bU,bI,aV,ea,cg,gU,cellsOf,isPure,Nat.reduceMul,Nat.reduceLeDiff,List.contains_nil,lI,cQ,dX,kG,cU,eo,gn,eW,gE,fW,gI,and_true,fq,f4,jp,ew,bz,bx];apply hK)
  ((refine bK [] [] (by simp) fun K hK=>?_);simp(disch:=omega) only[kc,aM,aa,aU,aO,aR,aX,aN,ab,aS,Int.reduceLE,aw,e4];apply hK)
  show da _ _ _ _
  ((refine bK [] [] (by simp) fun K hK=>?_);simp(disch:=omega) only[kc,aM,aU,aO,aR,aX,aN,ab,aS,cd];apply hK)
  refine⟨⟨i+1,o++[(2*a+c)%4294967296],a/2147483648,by omega,by omega,by simp[ho],?_⟩,by simp only;omega,aT ⟨rfl,trivial⟩ ?_⟩
  ·rw[<- h,fY ha,dblL,List.append_assoc];rfl
  simp[di,b9,b8]
 (refine aL [] fun K hK=>?_;simp(disch:=omega) only[kc,aM,de,Hm,aU,aO,aR,aX,aS,cp];apply hK)
 refine aP (bL rfl (ck ?_))
 show da _ _ _ _
 (refine aL [] fun K hK=>?_;simp(disch:=omega) only[kc,aM,aa,cX,bU,bI,aV,ea,cg,gU,cellsOf,isPure,Nat.reduceMul,Nat.reduceLeDiff,List.contains_nil,lI,cQ,dX,kG,cU,eo,gn,eW,gE,fW,gI,and_true,fq,f4,jp,ew,bz,bx];apply hK)
 have hfin:dblL l b=o++[c]:=by rw[<- h,fj (by omega:l.length<=i),dblL]
 (refine bC ⟨.inr rfl,kQ 20 (eE rfl) ?_ rfl⟩;simp(disch:=omega) only[kc,cH,Tryz.results156,bH,gT,gh,bD,cQ,eB,eZ,de])
 simp only[hfin]
 rw[List.take_of_length_le (by simp)]
structure KY (l:List Nat) where
 i:Nat
 u:Nat
 hi:i<=l.length/\i<=2
 hu:u=natV (l.take i)
theorem gK {l:List Nat} (h:Lmb l) (k:Nat):natV (l.take k)<4294967296^k:=by
 have h1:Lmb (l.take k):=fun a ha=>h a (List.mem_of_mem_take ha)
 have h2:=ik h1
 exact Nat.lt_of_lt_of_le h2 (Nat.pow_le_pow_right (by omega) (by rw[List.length_take];omega))
theorem Jb (l:List Nat) (lm:Lmb l) (bl:l.length<=1073741824):CallC Tryz.prog 122 [de l] ⟨[],.raw (.int .u64 (natV (l.take 2):Nat))⟩:=by
 refine bG Tryz.func122 rfl (by kernel_rfl) ?_;rw[Tryz.ntmps122]
 (refine aL [] fun K hK=>?_;simp(disch:=omega) only[kc,aM,de,aj,aN,ab];apply hK)
 (refine aL [] fun K hK=>?_;simp(disch:=omega) only[kc,aM,aN,ab];apply hK)
 (refine aP (aL [] fun K hK=>?_);simp(disch:=omega) only[kc,aM,aN,ab];apply hK)
 refine cC (G:=KY l) (fun g=>⟨[de l,jk,.raw (.int .u64 0),.raw (.int .u64 (g.u:Int)),.raw (.int .i64 (g.i:Int)),jk,jk,jk,jk,jk,jk,jk,jk,jk,jk,jk,jk,jk,jk,jk,jk,jk,jk,jk,jk,jk],Hm []⟩) (fun g=>l.length-g.i) ⟨0,0,⟨by omega,by omega⟩,rfl⟩ ?_ ?_
 ·refine aT trivial ?_
  simp[di,b9,b8]
 rintro⟨i,u,hi,hu⟩
 simp only
 have hlt:=gK lm i
 rw[<- hu]at hlt
 by_cases hm:i<l.length/\i<2
 ·obtain⟨a,ha⟩:=getElem?_of_lt hm.1
  have ha':=dY lm ha
  have hm2:=hm.2
  have hm1:=hm.1
  have hu2:=dq ha
  rw[<- hu]at hu2
  (refine aP (aL [] fun K hK=>?_);simp(disch:=omega) only[kc,aM,aa,de,Hm,be,aZ,aV,bE,aU,aO,aR,aX,aS,cw,bP,aN,ab,cQ,b7];apply hK)
  refine bJ rfl (bi ?_)
  refine aP (bA ?_)
  have hi2:i=0\/i=1:=by omega
  rcases hi2 with rfl|rfl
  ·have e1:IntKind.u64.wrap ((a:Int)*2^min (32*((0:Nat):Int)).toNat IntKind.u64.bits)=(a:Int):=by
    rw[IntKind.wrap_u64];show((a:Int)*1)%_=_;omega
   have hu0:u=0:=by simpa[natV] using hu
   have e2:=vX u a (by omega) (by omega)
   rw[hu0,Nat.zero_or,<- hu0]at e2
   ((refine bK [] [] (by simp) fun K hK=>?_);simp(disch:=omega) only[kc,aM,aa,aQ,aZ,aW,aV,ch,ha,fU,cg,packT,cW,ct,aU,Tryz.underlying79,dn,eG,aO,aR,aN,ab,aX,aS,cd,e1,cQ,e2];apply hK)
   show da _ _ _ _
   ((refine bK [] [] (by simp) fun K hK=>?_);simp(disch:=omega) only[kc,aM,aa,aU,aO,aR,aX,aN,ab,aS,cd];apply hK)
   refine⟨⟨1,a,⟨by omega,by omega⟩,by rw[hu2,hu0];simp⟩,by simp only;omega,aT trivial ?_⟩
   simp[di,b9,b8]
  have e1:IntKind.u64.wrap ((a:Int)*2^min (32*((1:Nat):Int)).toNat IntKind.u64.bits)=((a*4294967296:Nat):Int):=by
   rw[IntKind.wrap_u64];show((a:Int)*4294967296)%_=_;omega
  simp only[Nat.pow_one]at hlt
  have e2:=vX u (a*4294967296) (by omega) (by omega)
  rw[show a*4294967296=a*2^32 from rfl,qN _ _ _ hlt,show a*2^32=a*4294967296 from rfl]at e2
  ((refine bK [] [] (by simp) fun K hK=>?_);simp(disch:=omega) only[kc,aM,aa,aQ,aZ,aW,aV,ch,ha,fU,cg,packT,cW,ct,aU,Tryz.underlying79,dn,eG,aO,aR,aN,ab,aX,aS,cd,e1,cQ,e2];apply hK)
  show da _ _ _ _
  ((refine bK [] [] (by simp) fun K hK=>?_);simp(disch:=omega) only[kc,aM,aa,aU,aO,aR,aX,aN,ab,aS,cd];apply hK)
  refine⟨⟨2,a*4294967296+u,⟨by omega,by omega⟩,by rw[hu2];omega⟩,by simp only;omega,aT trivial ?_⟩
  simp[di,b9,b8]
 have hfin:u=natV (l.take 2):=by
  rw[hu]
  by_cases h2:i=2
  ·rw[h2]
  rw[List.take_of_length_le (by omega),List.take_of_length_le (by omega)]
 rw[<- hfin]
 by_cases h3:i<l.length
 ·(refine aP (aL [] fun K hK=>?_);simp(disch:=omega) only[kc,aM,aa,de,Hm,be,aZ,aV,bE,aU,aO,aR,aX,aS,cw,bP,aN,ab,cQ,cp,b7];apply hK)
  refine bL rfl (ck ?_)
  show da _ _ _ _
  (refine aL [] fun K hK=>?_;simp(disch:=omega) only[kc,aM];apply hK)
  (refine bC ⟨.inr rfl,bF rfl ?_ rfl⟩;simp(disch:=omega) only[cH,Tryz.results122,bH,ah,ag])
 (refine aP (aL [] fun K hK=>?_);simp(disch:=omega) only[kc,aM,aa,de,Hm,be,aZ,aV,bE,aU,aO,aR,aX,aS,cp,bP,aN,ab,cQ,ay,b7];apply hK)
 refine bL rfl (ck ?_)
 show da _ _ _ _
 (refine aL [] fun K hK=>?_;simp(disch:=omega) only[kc,aM];apply hK)
 (refine bC ⟨.inr rfl,bF rfl ?_ rfl⟩;simp(disch:=omega) only[cH,Tryz.results122,bH,ah,ag])
theorem kt {n:Nat} (h:(bT n).length<=2):n<18446744073709551616:=by
 have h1:=ik (ce n)
 rw[bN]at h1
 have h2:4294967296^(bT n).length<=4294967296^2:=Nat.pow_le_pow_right (by omega) h
 omega
theorem oc: ∀{l:List Nat} {i x:Nat},Lmb l->l[i]?=some x->natV l/4294967296^i%4294967296=x
 |[],i,x,_,h=>by simp at h
 |a::l,0,x,hl,h=>by
  rw[fm]at hl
  simp at h
  subst h
  have:=hl.1
  simp only[natV,Nat.pow_zero]
  omega
 |a::l,i+1,x,hl,h=>by
  rw[fm]at hl
  have ha:=hl.1
  simp at h
  have:=oc hl.2 h
  rw[Nat.pow_succ,Nat.mul_comm,<- Nat.div_div_eq_div_mul]
  simp only[natV]
  rw[show(a+4294967296*natV l)/4294967296=natV l by omega]
  exact this
theorem Fk (i:Nat):4294967296^i=2^(32*i):=by rw[Nat.pow_mul]
theorem Cf {a k x:Nat} (h:(bT a)[k/32]?=some x):x/2^(k%32)%2=a/2^k%2:=by
 have h1:=oc (ce a) h
 rw[bN,Fk]at h1
 rw[<- Nat.toNat_testBit,<- Nat.toNat_testBit,<- h1,show(4294967296:Nat)=2^32 from rfl,Nat.testBit_mod_two_pow,Nat.testBit_div_two_pow]
 rw[show k%32+32*(k/32)=k by omega]
 have:k%32<32:=by omega
 simp[this]
structure Jx (a b n:Nat) where
 t:Nat
 O:List Nat
 ht:t<=32*n
 len:O.length=n
 lmb:Lmb O
 val:natV O=a/2^t/b*2^t
theorem Lb (a k:Nat):a/2^k=2*(a/2^(k+1))+a/2^k%2:=by
 rw[Nat.pow_succ,<- Nat.div_div_eq_div_mul];omega
theorem Ed {a b k:Nat} (hb:0<b) (h:2*(a/2^(k+1)%b)+a/2^k%2<b):a/2^k/b=2*(a/2^(k+1)/b)/\a/2^k%b=2*(a/2^(k+1)%b)+a/2^k%2:=by
 have h1:=Lb a k
 have h2:=Nat.div_add_mod (a/2^(k+1)) b
 generalize a/2^(k+1)=X at*
 generalize a/2^k%2=e at*
 generalize X%b=r at*
 generalize X/b=q at*
 have h3:a/2^k=b*(2*q)+(2*r+e):=by rw[h1,<- h2,Nat.mul_left_comm b 2 q];omega
 rw[h3]
 exact⟨by rw[Nat.mul_add_div hb,Nat.div_eq_of_lt h,az],by rw[Nat.mul_add_mod,Nat.mod_eq_of_lt h]⟩
theorem Ec {a b k:Nat} (hb:0<b) (h:b<=2*(a/2^(k+1)%b)+a/2^k%2):a/2^k/b=2*(a/2^(k+1)/b)+1/\a/2^k%b=2*(a/2^(k+1)%b)+a/2^k%2-b:=by
 have h1:=Lb a k
 have h2:=Nat.div_add_mod (a/2^(k+1)) b
 have hr:a/2^(k+1)%b<b:=Nat.mod_lt _ hb
 have he:a/2^k%2<2:=Nat.mod_lt _ (by omega)
 generalize a/2^(k+1)=X at*
 generalize a/2^k%2=e at*
 generalize X%b=r at*
 generalize X/b=q at*
 have h3:a/2^k=b*(2*q+1)+(2*r+e-b):=by have:=Nat.mul_left_comm b 2 q;rw[h1,<- h2,Nat.mul_add b (2*q) 1,Nat.mul_one];omega
 have h4:2*r+e-b<b:=by omega
 rw[h3]
 exact⟨by rw[Nat.mul_add_div hb,Nat.div_eq_of_lt h4,az],by rw[Nat.mul_add_mod,Nat.mod_eq_of_lt h4]⟩
theorem Hh {a b n k:Nat} {O:List Nat} (hb:0<b) (ht:k+1<=32*n) (len:O.length=n) (lmb:Lmb O) (val:natV O=a/2^(k+1)/b*2^(k+1)) (h:2*(a/2^(k+1)%b)+a/2^k%2<b): ∃g:Jx a b n,g.t=k/\g.O=O:=
 ⟨⟨k,O,by omega,len,lmb,by rw[val,(Ed hb h).1,Nat.pow_succ,Nat.mul_comm 2,Nat.mul_assoc,Nat.mul_comm 2]⟩,rfl,rfl⟩
theorem Hg {a b n k x:Nat} {O:List Nat} (hb:0<b) (ht:k+1<=32*n) (len:O.length=n) (lmb:Lmb O) (val:natV O=a/2^(k+1)/b*2^(k+1)) (h:b<=2*(a/2^(k+1)%b)+a/2^k%2) (hx:O[k/32]?=some x): ∃g:Jx a b n,g.t=k/\g.O=O.set (k/32) (x|||2^(k%32)):=by
 have hx':=dY lmb hx
 have hj:k%32<32:=Nat.mod_lt _ (by omega)
 have hor:x|||2^(k%32)<4294967296:=Nat.or_lt_two_pow (n:=32) hx' (Nat.pow_lt_pow_right (by omega) hj)
 refine⟨⟨k,O.set (k/32) (x|||2^(k%32)),by omega,by simp[len],vR lmb hor,?_⟩,rfl,rfl⟩
 have h1:=oc lmb hx
 have h2:=oW O (k/32) (x|||2^(k%32)) x hx
 have ek:2^(k+1)=2^(32*(k/32))*2^(k%32+1):=by rw[<- Nat.pow_add];congr 1;omega
 rw[Fk]at h1 h2
 rw[(Ec hb h).1]
 generalize a/2^(k+1)/b=q at*
 have h3:x=q%2^(31-k%32)*2^(k%32+1):=by
  rw[<- h1,val,ek,Nat.mul_comm (2^(32*(k/32))),<- Nat.mul_assoc,Nat.mul_div_cancel _ (Nat.pow_pos (by omega))]
  rw[show(4294967296:Nat)=2^(31-k%32)*2^(k%32+1) by rw[<- Nat.pow_add,show 31-k%32+(k%32+1)=32 by omega],Nat.mul_mod_mul_right]
 have h4:x|||2^(k%32)=x+2^(k%32):=by
  have:=pU (q%2^(31-k%32)) (2^(k%32)) (k%32+1) (Nat.pow_lt_pow_right (by omega) (by omega))
  rw[<- h3]at this
  exact this
 rw[h4]at h2⊢
 rw[Nat.add_mul,<- Nat.pow_add,show k%32+32*(k/32)=k by omega,val]at h2
 have h5:(2*q+1)*2^k=q*2^(k+1)+2^k:=by rw[Nat.add_mul,Nat.one_mul,Nat.mul_comm 2 q,Nat.mul_assoc,Nat.mul_comm 2 (2^k),<- Nat.pow_succ]
 rw[h5]
 generalize natV (O.set (k/32) (x+2^(k%32)))=N at*
 generalize x*2^(32*(k/32))=U at*
 generalize q*2^(k+1)=V at*
 generalize 2^k=W at*
 omega
theorem t8 {a n:Nat} (h:(bT a).length=n):a/2^(32*n)=0:=by
 have:=ik (ce a)
 rw[bN,Fk,h]at this
 exact Nat.div_eq_of_lt this
theorem AA {a b:Nat} (h:b<=a):0<=ir a b:=by unfold ir;split<;>(try split)<;>omega
theorem D7 {a b:Nat} (h:a<b):ir a b<0:=by rw[m8 h];decide
abbrev xd (a b:Nat):TV:= .tup [(false,[.p (.sl (ls fU (bT (a/b))))]),(false,[.p (.sl (ls fU (bT (a%b))))])]
theorem n7 {a b:Nat} (h:a<=b):(bT a).length<=(bT b).length:=js (ce _) (dV _) (by rw[bN,bN];exact h)
theorem Ee (a b:Nat) (hb:0<b) (la:(bT a).length<=536870912) (lb:(bT b).length<=536870912):CallC Tryz.prog 129 [de (bT a),de (bT b)] ⟨[],xd a b⟩:=by
 by_cases hs:(bT a).length<=2/\(bT b).length<=2
 ·obtain⟨sa,sb⟩:=hs
  have ua:=kt sa
  have ub:=kt sb
  have h1:=Jb (bT a) (ce _) (by omega)
  have h2:=Jb (bT b) (ce _) (by omega)
  rw[List.take_of_length_le sa,bN]at h1
  rw[List.take_of_length_le sb,bN]at h2
  have hq:a/b<=a:=Nat.div_le_self _ _
  have hr:a%b<b:=Nat.mod_lt _ hb
  have h3:=wy false (a/b) (by omega)
  have h4:=wy false (a%b) (by omega)
  rw[show iw false (a/b)=((a/b:Nat):Int)from rfl]at h3
  rw[show iw false (a%b)=((a%b:Nat):Int)from rfl]at h4
  have hb0:(b:Int)≠0:=by omega
  have e1:IntKind.u64.wrap (Int.tdiv (a:Int) (b:Int))=((a/b:Nat):Int):=by
   rw[Int.tdiv_eq_ediv_of_nonneg (by omega),<- Int.natCast_ediv];generalize a/b=q at*;rw[IntKind.wrap_u64];omega
  have e2:Int.tmod (a:Int) (b:Int)=((a%b:Nat):Int):=by
   rw[Int.tmod_eq_emod_of_nonneg (by omega),<- Int.natCast_emod]
  unfold xd
  generalize a/b=q at*
  generalize a%b=r at*
  refine bG Tryz.func129 rfl (by kernel_rfl) ?_;rw[Tryz.ntmps129]
  (refine aL [] fun K hK=>?_;simp(disch:=omega) only[kc,aM,de,aa,aj,aN,ab];apply hK)
  (refine aP (aL [] fun K hK=>?_);simp(disch:=omega) only[kc,aM,aa,be,aZ,aV,bE,aU,aO,aR,aX,aN,ab,aS,cw,bP,cQ,b7];apply hK)
  refine bJ rfl ?_
  (refine aL [⟨1,_,_,_,h1⟩,⟨3,_,_,_,h2⟩] fun K hK=>?_;simp(disch:=omega) only[kc,de,bj.a,aM,aa,aY,bU,bI,ac,bO,cq,ae,bV,bW,bs,noRefTV,bf,bQ,bM,ak];apply hK)
  (refine cL cJ [⟨3,_,_,_,h3⟩,⟨8,_,_,_,h4⟩] [] (by kernel_rfl) (by simp) fun K hK=>?_;simp(disch:=omega) only[kc,tZ,cp,Int.natAbs_natCast,bj.a,aM,aa,aU,aO,aR,aX,aS,ne_eq,hb0,not_false_eq_true,e1,aY,bU,bI,ac,bO,aN,ab,cq,ae,bV,bW,bs,noRefTV,bf,bQ,bM,CZ,aZ,df,packT,dU,dG,e2,ak];apply hK)
  (refine bC ⟨.inr rfl,bF rfl ?_ rfl⟩;simp(disch:=omega) only[cH,Tryz.results129,eP,bH,ah,ag,ao,dF,am])
 refine bG Tryz.func129 rfl (by kernel_rfl) ?_;rw[Tryz.ntmps129]
 (refine aL [] fun K hK=>?_;simp(disch:=omega) only[kc,aM,de,aa,aj,aN,ab];apply hK)
 by_cases h3:(bT a).length<=2
 all_goals
  ((first|refine aL [] fun K hK=>?_|refine aP (aL [] fun K hK=>?_)|refine aP (aP (aL [] fun K hK=>?_)));simp(disch:=omega) only[kc,aM,aa,be,aZ,aV,bE,aU,aO,aR,aX,aN,ab,aS,cw,bP,cQ,cp,b7,ay];apply hK)
  refine bL rfl (bi ?_)
  show da _ _ _ _
  ((first|refine aL [] fun K hK=>?_|refine aP (aL [] fun K hK=>?_)|refine aP (aP (aL [] fun K hK=>?_)));simp(disch:=omega) only[kc,aM,aa,be,aZ,aV,bE,cY,bU,bI,ea,cg,gn,ax,ab,and_true,lY,cQ];apply hK)
  ((first|refine aL [] fun K hK=>?_|refine aP (aL [] fun K hK=>?_)|refine aP (aP (aL [] fun K hK=>?_)));simp(disch:=omega) only[kc,aM,aa,be,aZ,aV,bE,aU,aO,aR,aN,ab,aX,aS,cd];apply hK)
  refine cC (G:=Jx a b (bT a).length) (fun g=>⟨[de (bT a),de (bT b),jk,jk,.one (.sl 33 0 0 (bT a).length),de (bT (a/2^g.t%b)),jk,jk,.raw (.int .i64 ((g.t:Int)-1)),jk,jk,jk,jk,jk,jk,jk,jk,jk,jk,jk,jk,jk,jk,jk,jk,jk,jk,jk,jk,jk,jk,jk,jk,jk,jk,jk,jk,jk,jk,jk,jk,jk,jk,jk,jk,jk,jk,jk,jk,jk,jk,jk,jk,jk,jk,jk,jk,jk,jk,jk,jk,jk,jk,jk,jk,jk,jk,jk,jk,jk,jk,jk,jk,jk,jk],Hm [(33,[⟨79,1,lc fU g.O⟩])]⟩) (fun g=>g.t) ⟨32*(bT a).length,aj (bT a).length 0,by omega,by simp,fun x hx=>by simp at hx;omega,by rw[r9,t8 rfl];simp⟩ ?_ ?_
  ·refine(iz (k:=5) (d:=900) 79 1 (by omega) rfl rfl).trans ((fp 900 (eE (f:=fU) (l:=[]) rfl)).trans (aT ⟨rfl,trivial⟩ ?_))
   simp[di,b9,b8,gT,gh,t8 rfl,ef]
   rfl
  rintro⟨t,O,ht,len,lmb,val⟩
  simp only
  cases t with
  |zero=>
   have htr:=j8 O (by omega)
   rw[gy lmb,val]at htr
   simp only[Nat.pow_zero,Nat.div_one,Nat.mul_one]at htr
   simp only[Nat.pow_zero,Nat.div_one]
   ((first|refine aL [] fun K hK=>?_|refine aP (aL [] fun K hK=>?_)|refine aP (aP (aL [] fun K hK=>?_)));simp(disch:=omega) only[kc,aM,de,Hm,aU,aO,aR,aX,aN,ab,aS,cp];apply hK)
   refine bL rfl (ck ?_)
   show da _ _ _ _
   refine da.weak (fp 33 (eE rfl)) ?_
   have eT:List.take (bT a).length O=O:=List.take_of_length_le (by omega)
   simp(disch:=omega) only[kc,gT,gh,cQ,eB,eT,eZ]
   ((first|refine aL [⟨1,_,_,_,htr⟩] fun K hK=>?_|refine aP (aL [⟨1,_,_,_,htr⟩] fun K hK=>?_)|refine aP (aP (aL [⟨1,_,_,_,htr⟩] fun K hK=>?_)));simp(disch:=omega) only[kc,de,bj.a,aM,aa,aY,bU,bI,ac,bO,cq,ae,bV,bW,bs,noRefTV,bf,bQ,bM];apply hK)
   (refine bC ⟨.inr rfl,bF rfl ?_ rfl⟩;simp(disch:=omega) only[cH,Tryz.results129,eP,bH,ah,ag,ao,dF,am])
  |succ k=>
   have ek:((k+1:Nat):Int)-1=(k:Int):=by omega
   simp only[ek]
   have hki:k/32<(bT a).length:=by omega
   obtain⟨x,hx⟩:=getElem?_of_lt hki
   have hx':=dY (ce a) hx
   obtain⟨y,hy⟩:=getElem?_of_lt (show k/32<O.length by omega)
   have hy':=dY lmb hy
   have hbit:=Cf hx
   have hq:IntKind.i64.wrap (Int.tdiv (k:Int) 32)=((k/32:Nat):Int):=by
    rw[Int.tdiv_eq_ediv_of_nonneg (by omega),IntKind.wrap_i64];omega
   have hr:Int.tmod (k:Int) 32=((k%32:Nat):Int):=by rw[Int.tmod_eq_emod_of_nonneg (by omega)];omega
   have hmin:min (k%32) IntKind.u32.bits=k%32:=by show min (k%32) 32=_;omega
   have e1:Int.fdiv (x:Int) (2^min (k%32) IntKind.u32.bits)=((x/2^(k%32):Nat):Int):=by
    rw[hmin,Int.fdiv_eq_ediv_of_nonneg _ (Int.pow_nonneg (by omega)),Int.natCast_ediv,Int.natCast_pow];rfl
   have hxl:x/2^(k%32)<=x:=Nat.div_le_self _ _
   have e2:IntKind.u32.wrap (((BitVec.ofInt IntKind.u32.bits ((x/2^(k%32):Nat):Int)&&&BitVec.ofInt IntKind.u32.bits (1:Int)).toNat:Nat):Int)=((a/2^k%2:Nat):Int):=by
    rw[<- hbit,<- Nat.and_one_is_mod]
    exact K3 (x/2^(k%32)) 1 (by omega) (by omega)
   have hbl:a/2^k%2<2:=Nat.mod_lt _ (by omega)
   have hrb:a/2^(k+1)%b<b:=Nat.mod_lt _ hb
   have lr:=n7 (Nat.le_of_lt hrb)
   have h1:=Eg (bT (a/2^(k+1)%b)) (a/2^k%2) (ce _) (by omega) (by omega)
   have h2:=j8 (dblL (bT (a/2^(k+1)%b)) (a/2^k%2)) (by rw[xb];omega)
   rw[gy (xE _ _ (ce _) (by omega)),uw _ _ (ce _) (by omega),bN]at h2
   by_cases hge:b<=2*(a/2^(k+1)%b)+a/2^k%2
   ·obtain⟨g',q1,q2⟩:=Hg hb ht len lmb val hge hy
    have hrest:=(Ec hb hge).2
    have lr':=jI (n:=2*(a/2^(k+1)%b)+a/2^k%2) (k:=(bT b).length+1) (by
     have:=ik (ce b)
     rw[bN]at this
     have hlt: ∀r e P:Nat,r<b->e<2->b<P->2*r+e<P*4294967296:=by intros;omega
     exact Nat.lt_of_lt_of_le (hlt _ _ _ hrb hbl this) (Nat.le_of_eq (Nat.pow_succ ..).symm))
    generalize 2*(a/2^(k+1)%b)+a/2^k%2=R at*
    have h3:=AD (bT R) (bT b) (ce _) (ce _) (dV _) (dV _) (by omega) (by omega)
    rw[bN,bN]at h3
    have hc:=AA hge
    have h4:=lU (bT R) (bT b) (ce _) (ce _) (by omega) (by omega)
    have h5:=j8 (diffL (bT R) (bT b) 0) (by rw[jH];omega)
    have hd:=i9 (bT R) (bT b) 0 (ce _) (ce _) (by omega) (n7 hge) (by rw[bN,bN];exact hge)
    rw[bN,bN]at hd
    rw[gy (jJ _ _ _),show natV (diffL (bT R) (bT b) 0)=a/2^k%b by omega]at h5
    have hp2:2^(k%32)<4294967296:=Nat.pow_lt_pow_right (a:=2) (n:=32) (by omega) (Nat.mod_lt _ (by omega))
    have e3:IntKind.u32.wrap (1*2^min (k%32) IntKind.u32.bits)=((2^(k%32):Nat):Int):=by
     rw[hmin,Int.one_mul,show((2:Int)^(k%32))=((2^(k%32):Nat):Int) by rw[Int.natCast_pow];rfl,q9,Nat.mod_eq_of_lt hp2]
    have e4:=Lh y (2^(k%32)) hy' hp2
    ((first|refine aL [] fun K hK=>?_|refine aP (aL [] fun K hK=>?_)|refine aP (aP (aL [] fun K hK=>?_)));simp(disch:=omega) only[kc,aM,de,Hm,aU,aO,aR,aX,aN,ab,aS,ax,cw];apply hK)
    refine bJ rfl (bi ?_)
    refine aP (bA ?_)
    ((first|refine aL [⟨10,_,_,_,h1⟩,⟨11,_,_,_,h2⟩] fun K hK=>?_|refine aP (aL [⟨10,_,_,_,h1⟩,⟨11,_,_,_,h2⟩] fun K hK=>?_)|refine aP (aP (aL [⟨10,_,_,_,h1⟩,⟨11,_,_,_,h2⟩] fun K hK=>?_)));simp(disch:=omega) only[kc,de,bj.a,aM,aa,aU,aO,aR,aX,aN,ab,aS,hq,cQ,aQ,aZ,aW,aV,ch,hx,fU,cg,packT,cW,hr,ax,e1,e2,aY,bU,bI,ac,bO,cq,ae,bV,bW,bs,noRefTV,bf,bQ,bM,ak];apply hK)
    ((first|refine aL [⟨2,_,_,_,h3⟩] fun K hK=>?_|refine aP (aL [⟨2,_,_,_,h3⟩] fun K hK=>?_)|refine aP (aP (aL [⟨2,_,_,_,h3⟩] fun K hK=>?_)));simp(disch:=omega) only[kc,de,bj.a,aM,aa,aY,bU,bI,ac,bO,cq,ae,bV,bW,bs,noRefTV,bf,bQ,bM,aU,aO,aR,aX,aN,ab,aS,cw];apply hK)
    refine bJ rfl ?_
    ((first|refine aL [⟨2,_,_,_,h4⟩,⟨3,_,_,_,h5⟩] fun K hK=>?_|refine aP (aL [⟨2,_,_,_,h4⟩,⟨3,_,_,_,h5⟩] fun K hK=>?_)|refine aP (aP (aL [⟨2,_,_,_,h4⟩,⟨3,_,_,_,h5⟩] fun K hK=>?_)));simp(disch:=omega) only[kc,de,bj.a,aM,aa,aY,bU,bI,ac,bO,cq,ae,bV,bW,bs,noRefTV,bf,bQ,bM,ak];apply hK)
    ((refine gP cJ [] [] (by kernel_rfl) (by simp) fun K hK=>?_);simp(disch:=omega) only[kc,aM,aa,aU,aO,aR,aX,aN,ab,aS,hq,cQ,aQ,aZ,aW,aV,cg,dp,fU,hy,packT,cW,hr,ax,e3,e4,bo,ew,cU,cellsOf,ai,isPure,bu,ff,bz,bx];apply hK)
    show da _ _ _ _
    ((refine bK [] [] (by simp) fun K hK=>?_);simp(disch:=omega) only[kc,aM,aa,aU,aO,aR,aX,aN,ab,aS,cd];apply hK)
    refine⟨g',by omega,aT ⟨by rw[q2];rfl,trivial⟩ ?_⟩
    simp[di,b9,b8,q1]
   obtain⟨g',q1,q2⟩:=Hh hb ht len lmb val (by omega)
   have hrest:=(Ed (a:=a) (k:=k) hb (by omega)).2
   rw[<- hrest]at h2 hge
   have lr':=n7 (Nat.le_of_lt (Nat.mod_lt (a/2^k) hb))
   have h3:=AD (bT (a/2^k%b)) (bT b) (ce _) (ce _) (dV _) (dV _) (by omega) (by omega)
   rw[bN,bN]at h3
   have hc:=D7 (a:=a/2^k%b) (b:=b) (by omega)
   ((first|refine aL [] fun K hK=>?_|refine aP (aL [] fun K hK=>?_)|refine aP (aP (aL [] fun K hK=>?_)));simp(disch:=omega) only[kc,aM,de,Hm,aU,aO,aR,aX,aN,ab,aS,ax,cw];apply hK)
   refine bJ rfl (bi ?_)
   refine aP (bA ?_)
   ((first|refine aL [⟨10,_,_,_,h1⟩,⟨11,_,_,_,h2⟩] fun K hK=>?_|refine aP (aL [⟨10,_,_,_,h1⟩,⟨11,_,_,_,h2⟩] fun K hK=>?_)|refine aP (aP (aL [⟨10,_,_,_,h1⟩,⟨11,_,_,_,h2⟩] fun K hK=>?_)));simp(disch:=omega) only[kc,de,bj.a,aM,aa,aU,aO,aR,aX,aN,ab,aS,hq,cQ,aQ,aZ,aW,aV,ch,hx,fU,cg,packT,cW,hr,ax,e1,e2,aY,bU,bI,ac,bO,cq,ae,bV,bW,bs,noRefTV,bf,bQ,bM,ak];apply hK)
   ((first|refine aL [⟨2,_,_,_,h3⟩] fun K hK=>?_|refine aP (aL [⟨2,_,_,_,h3⟩] fun K hK=>?_)|refine aP (aP (aL [⟨2,_,_,_,h3⟩] fun K hK=>?_)));simp(disch:=omega) only[kc,de,bj.a,aM,aa,aY,bU,bI,ac,bO,cq,ae,bV,bW,bs,noRefTV,bf,bQ,bM,aU,aO,aR,aX,aN,ab,aS,cp];apply hK)
   refine bL rfl (bi ?_)
   show da _ _ _ _
   ((refine bK [] [] (by simp) fun K hK=>?_);simp(disch:=omega) only[kc,aM,aa,aU,aO,aR,aX,aN,ab,aS,cd];apply hK)
   refine⟨g',by omega,aT ⟨by rw[q2];rfl,trivial⟩ ?_⟩
   simp[di,b9,b8,q1]
theorem F9 {P:Program} {p q t n:Nat} (h:kh P t=some n) (hn:n≠1): ∀x∈[(p,q,t)],kh P x.2.2≠some 1:=fun x hx=>by
 have:x=(p,q,t):=by simpa using hx
 subst this
 rw[h]
 intro h'
 injection h' with h'
 exact hn h'
theorem zX {s:AS} {p q t a r i j b r' i' j':Nat} (h1:s.tmps[p]?=some (.one (.ptr a r i j))) (h2:s.tmps[q]?=some (.one (.ptr b r' i' j'))) (hne:b≠a):wF [(p,q,t)] s:=fun x hx a2 r2 i2 j2 b2 r3 i3 j3 g1 g2=>by
 have:x=(p,q,t):=by simpa using hx
 subst this
 simp only[h1]at g1
 simp only[h2]at g2
 injection g1 with g1;injection g1 with g1;injection g1 with g1
 injection g2 with g2;injection g2 with g2;injection g2 with g2
 subst g1 g2
 exact hne
def tq (a b:Int):Int:=iw (!(decide (a<0)==decide (b<0))) (a.natAbs/b.natAbs)
def tr (a b:Int):Int:=iw (decide (a<0)) (a.natAbs%b.natAbs)
theorem Gd (a b:Int):tr a b+b*tq a b=a:=by
 have h:=Nat.div_add_mod a.natAbs b.natAbs
 have h':(b.natAbs:Int)*((a.natAbs/b.natAbs:Nat):Int)+((a.natAbs%b.natAbs:Nat):Int)=(a.natAbs:Int):=by
  have:=congrArg (Nat.cast (R:=Int)) h
  simpa using this
 unfold tq tr iw
 generalize a.natAbs/b.natAbs=q at*
 generalize a.natAbs%b.natAbs=r at*
 by_cases ha:a<0<;>by_cases hb:b<0
 ·rw[decide_eq_true ha,decide_eq_true hb]
  show -(r:Int)+b*(q:Int)=a
  rw[show(b.natAbs:Int)= -b by omega,show(a.natAbs:Int)= -a by omega,Int.neg_mul]at h';omega
 ·rw[decide_eq_true ha,decide_eq_false hb]
  show -(r:Int)+b* -(q:Int)=a
  rw[show(b.natAbs:Int)=b by omega,show(a.natAbs:Int)= -a by omega]at h';rw[Int.mul_neg];omega
 ·rw[decide_eq_false ha,decide_eq_true hb]
  show(r:Int)+b* -(q:Int)=a
  rw[show(b.natAbs:Int)= -b by omega,show(a.natAbs:Int)=a by omega,Int.neg_mul]at h';rw[Int.mul_neg];omega
 rw[decide_eq_false ha,decide_eq_false hb]
 show(r:Int)+b*(q:Int)=a
 rw[show(b.natAbs:Int)=b by omega,show(a.natAbs:Int)=a by omega]at h';omega
theorem Ge (a b:Int):(tr a b).natAbs=a.natAbs%b.natAbs:=mT _ _
theorem Gc (a b:Int):(tq a b).natAbs=a.natAbs/b.natAbs:=mT _ _
theorem BL {a b:Int} (hb:b≠0):(tr a b).natAbs<b.natAbs:=by rw[Ge];exact Nat.mod_lt _ (by omega)
theorem za {a b:Int} (hb:b≠0) (h:0<=tr a b):a/b=tq a b/\a%b=tr a b:=by
 have h1:=Gd a b
 have h2:=BL (a:=a) hb
 rcases Int.lt_or_gt_of_ne hb with hn|hp
 ·exact(Int.ediv_emod_unique' hn).2 ⟨h1,h,by omega⟩
 exact(Int.ediv_emod_unique hp).2 ⟨h1,h,by omega⟩
theorem AP {a b:Int} (hb:b<0) (h:tr a b<0):a/b=tq a b+1/\a%b=tr a b+b.natAbs:=by
 have h1:=Gd a b
 have h2:=BL (a:=a) (b:=b) (by omega)
 refine(Int.ediv_emod_unique' hb).2 ⟨?_,by omega,by omega⟩
 rw[Int.mul_add,Int.mul_one];omega
theorem AQ {a b:Int} (hb:0<b) (h:tr a b<0):a/b=tq a b-1/\a%b=tr a b+b.natAbs:=by
 have h1:=Gd a b
 have h2:=BL (a:=a) (b:=b) (by omega)
 refine(Int.ediv_emod_unique hb).2 ⟨?_,by omega,by omega⟩
 rw[Int.mul_sub,Int.mul_one];omega
theorem Sz.le {x y:Int} {k:Nat} (h:Sz y k) (hx:x.natAbs<=y.natAbs):Sz x k:=Nat.lt_of_le_of_lt hx h
theorem wv {k:Nat} (h:0<k):Sz 1 k:=by unfold Sz;exact Nat.one_lt_pow (by omega) (by decide)
theorem DV:Bh 1:=wv (by omega)
theorem FU {z:Int} (h:z<0):sg z= -1:=by simp[sg,h]
theorem uN {z:Int} (h:0<=z):0<=sg z:=by unfold sg;split<;>(try split)<;>omega
theorem Dz (a b:Int) (hb0:b≠0) (ha:Bh a) (hb:Bh b):CallC Tryz.prog 100 [tZ a,tZ b] ⟨[],.tup [(true,cZ (a/b)),(true,cZ (a%b)),(false,[.p (.raw (.bool true))])]⟩:=by
 have la:=ha.len
 have lb:=hb.len
 have t1:=j8 (bT a.natAbs) ha.bg.len
 have t2:=j8 (bT b.natAbs) hb.bg.len
 rw[jh]at t1 t2
 have hl0:(bT b.natAbs).length≠0:=fun h=>hb0 (by have:=gW.1 h;omega)
 have hd:=Ee a.natAbs b.natAbs (by omega) la lb
 have bq:Bh (tq a b):=ha.le (by rw[Gc];exact Nat.div_le_self _ _)
 have br:Bh (tr a b):=hb.le (Nat.le_of_lt (BL hb0))
 have hm1:=kN (!(decide (a<0)==decide (b<0))) (bT (a.natAbs/b.natAbs)) (ce _) (by have:=bq.bg.len;rwa[Gc]at this)
 have hm2:=kN (decide (a<0)) (bT (a.natAbs%b.natAbs)) (ce _) (by have:=br.bg.len;rwa[Ge]at this)
 rw[bN,show iw _ _=tq a b from rfl]at hm1
 rw[bN,show iw _ _=tr a b from rfl]at hm2
 have hs:=qb (tr a b) br.bg
 have p0:= @za a b hb0
 have p1:= @AP a b
 have p2:= @AQ a b
 generalize tq a b=Q at*
 generalize tr a b=R at*
 by_cases hR:R<0
 ·have hm3:=kN false (bT b.natAbs) (ce _) (by omega)
  rw[bN,show iw false b.natAbs=((b.natAbs:Nat):Int)from rfl]at hm3
  have hA:=Dx R (b.natAbs:Int) br (by unfold Bh Sz;rw[Int.natAbs_natCast];exact hb)
  have hs2:=qb b hb.bg
  have h1:=ws 1 (by omega) (by omega)
  rw[FU hR]at hs
  by_cases hbn:b<0
  ·obtain⟨e1,e2⟩:=p1 hbn hR
   rw[e1,e2]
   rw[FU hbn]at hs2
   have hA2:=Dx Q 1 bq DV
   refine bG Tryz.func100 rfl (by kernel_rfl) ?_;rw[Tryz.ntmps100]
   (refine aL [] fun K hK=>?_;simp(disch:=omega) only[kc,aM,aa,tZ,cw,aj,dP,bU,bI,cellsOf,isPure,cQ,bD,af,cy,cx,ab,d4,aN];apply hK)
   (refine cL cJ [⟨2,_,_,_,t1⟩,⟨5,_,_,_,t2⟩] [] (by kernel_rfl) (by simp) fun K hK=>?_;simp(disch:=omega) only[kc,de,bj.a,aM,aa,bY,aZ,df,dU,bD,af,d4,packT,dG,aY,bU,bI,ac,bO,cq,ae,bV,bW,bs,noRefTV,bf,bQ,bM,ak];apply hK)
   (refine aP (aL [] fun K hK=>?_);simp(disch:=omega) only[kc,aM,aa,be,aZ,aV,bE,aU,aO,aR,aX,aN,ab,aS,cp];apply hK)
   refine bL rfl (bi ?_)
   show da _ _ _ _
   (refine aL [⟨2,_,_,_,hd⟩] fun K hK=>?_;simp(disch:=omega) only[kc,de,bj.a,aM,aa,aY,bU,bI,ac,bO,cq,ae,bV,bW,bs,noRefTV,bf,bQ,bM,cK,aU];apply hK)
   (refine cL cJ [⟨6,_,_,_,hm1⟩,⟨10,_,_,_,hm2⟩] [] (by kernel_rfl) (by simp) fun K hK=>?_;simp(disch:=omega) only[kc,cw,de,tZ,bj.a,aM,aa,bY,aZ,dv,eI,az,bD,af,d4,packT,d6,aU,aO,aR,aX,aS,fV,aY,bU,bI,ac,bO,cq,ae,bV,bW,bs,noRefTV,bf,bQ,bM,ak,cy,cx,ab,cQ,bo,ew,cU,bS,cellsOf,ai,isPure,bu,bz,bx];apply hK)
   refine da.weak (aT (tm:=[jk,jk,.one (.ptr 2 0 0 0),.one (.ptr 3 0 0 0),.one (.ptr 4 0 0 0),.one (.ptr 5 0 0 0),.raw (.bool false),jk,de (bT b.natAbs),jk,jk,.one (.ptr 11 0 0 0),.one (.ptr 12 0 0 0),jk,jk,jk,jk,jk,jk,jk,jk,jk,jk,jk,jk,jk,jk,jk,jk,jk,jk,jk,jk,jk,jk,jk,jk,jk,jk,jk,jk,jk,jk,jk,jk,jk,jk,jk,jk,jk,jk,jk,jk,jk,jk,jk,jk,jk,jk,jk,jk]) (l:=[(2,w7 (decide (a<0)) (bT a.natAbs)),(3,w7 true (bT b.natAbs)),(4,yW),(5,yW),(11,w7 (decide (Q<0)) (bT Q.natAbs)),(12,w7 true (bT R.natAbs))]) ⟨rfl,rfl,rfl,rfl,rfl,rfl,trivial⟩ (by simp[di,b9,b8])) ?_
   (refine aP (aL [⟨1,_,_,_,hs⟩] fun K hK=>?_);simp(disch:=omega) only[kc,tZ,cw,bj.a,aM,aa,de,Hm,aZ,af,d4,packT,bS,cf,ai,aY,bU,bI,ac,bO,cq,ae,bV,bW,bs,isPure,noRefTV,bf,bQ,bM,aU,aO,aR,aX,aN,ab,aS];apply hK)
   refine bJ rfl ?_
   (refine cL cJ [⟨2,_,_,_,hm3⟩,⟨3,_,_,_,hA⟩] [] (by kernel_rfl) (by simp) fun K hK=>?_;simp(disch:=omega) only[kc,de,tZ,cp,cw,bj.a,aM,aa,aZ,af,d4,packT,bS,cf,ai,aY,bU,bI,ac,bO,aN,ab,cq,ae,bV,bW,bs,noRefTV,bf,bQ,bM,ak,isPure,bo,ew,cU,cellsOf,cQ,bu,bz,bx];apply hK)
   (refine aP (aL [⟨1,_,_,_,hs2⟩] fun K hK=>?_);simp(disch:=omega) only[kc,tZ,cw,bj.a,aM,aa,aZ,bD,af,d4,packT,bS,cf,ai,aY,bU,bI,ac,bO,cq,ae,bV,bW,bs,isPure,noRefTV,bf,bQ,bM,aU,aO,aR,aX,aN,ab,aS];apply hK)
   refine bJ rfl ?_
   (refine rj [(12,4,42)] cJ [⟨1,_,_,_,h1⟩,⟨2,_,_,_,hA2⟩] [] (by kernel_rfl) (F9 (n:=2) (by simp only[bS,cf,cx,df,dU,dG,aV,s8,jx,dv,eI,d6,fV]) (by decide)) (zX rfl rfl (by decide)) (by simp) fun K hK=>?_;simp(disch:=omega) only[kc,tZ,cp,bj.a,aM,aa,aZ,bD,af,d4,packT,bS,cf,ai,aY,bU,bI,ac,bO,aN,ab,cq,ae,bV,bW,bs,noRefTV,bf,bQ,bM,ak,isPure,bo,ew,cU,cellsOf,cQ,bu,bz,bx];apply hK)
   (refine bC ⟨.inr rfl,bF rfl ?_ rfl⟩;simp(disch:=omega) only[kc,cH,Tryz.results100,eP,bH,bD,af,d4,packT,bS,cf,aa,ai,dF,cZ])
  obtain⟨e1,e2⟩:=p2 (by omega) hR
  rw[e1,e2]
  have hs3:=uN (z:=b) (by omega)
  have hA2:=I6 Q 1 bq DV
  refine bG Tryz.func100 rfl (by kernel_rfl) ?_;rw[Tryz.ntmps100]
  (refine aL [] fun K hK=>?_;simp(disch:=omega) only[kc,aM,aa,tZ,cp,aj,dP,bU,bI,cellsOf,isPure,cQ,bD,af,cy,cx,ab,d4,aN];apply hK)
  (refine cL cJ [⟨2,_,_,_,t1⟩,⟨5,_,_,_,t2⟩] [] (by kernel_rfl) (by simp) fun K hK=>?_;simp(disch:=omega) only[kc,de,bj.a,aM,aa,bY,aZ,df,dU,bD,af,d4,packT,dG,aY,bU,bI,ac,bO,cq,ae,bV,bW,bs,noRefTV,bf,bQ,bM,ak];apply hK)
  (refine aP (aL [] fun K hK=>?_);simp(disch:=omega) only[kc,aM,aa,be,aZ,aV,bE,aU,aO,aR,aX,aN,ab,aS,cp];apply hK)
  refine bL rfl (bi ?_)
  show da _ _ _ _
  (refine aL [⟨2,_,_,_,hd⟩] fun K hK=>?_;simp(disch:=omega) only[kc,de,bj.a,aM,aa,aY,bU,bI,ac,bO,cq,ae,bV,bW,bs,noRefTV,bf,bQ,bM,cK,aU];apply hK)
  (refine cL cJ [⟨6,_,_,_,hm1⟩,⟨10,_,_,_,hm2⟩] [] (by kernel_rfl) (by simp) fun K hK=>?_;simp(disch:=omega) only[kc,cp,de,tZ,cw,bj.a,aM,aa,bY,aZ,dv,eI,az,bD,af,d4,packT,d6,aU,aO,aR,aX,aS,fV,aY,bU,bI,ac,bO,cq,ae,bV,bW,bs,noRefTV,bf,bQ,bM,ak,cy,cx,ab,cQ,bo,ew,cU,bS,cellsOf,ai,isPure,bu,bz,bx];apply hK)
  refine da.weak (aT (tm:=[jk,jk,.one (.ptr 2 0 0 0),.one (.ptr 3 0 0 0),.one (.ptr 4 0 0 0),.one (.ptr 5 0 0 0),.raw (.bool false),jk,de (bT b.natAbs),jk,jk,.one (.ptr 11 0 0 0),.one (.ptr 12 0 0 0),jk,jk,jk,jk,jk,jk,jk,jk,jk,jk,jk,jk,jk,jk,jk,jk,jk,jk,jk,jk,jk,jk,jk,jk,jk,jk,jk,jk,jk,jk,jk,jk,jk,jk,jk,jk,jk,jk,jk,jk,jk,jk,jk,jk,jk,jk,jk,jk]) (l:=[(2,w7 (decide (a<0)) (bT a.natAbs)),(3,w7 false (bT b.natAbs)),(4,yW),(5,yW),(11,w7 (decide (Q<0)) (bT Q.natAbs)),(12,w7 true (bT R.natAbs))]) ⟨rfl,rfl,rfl,rfl,rfl,rfl,trivial⟩ (by simp[di,b9,b8])) ?_
  (refine aP (aL [⟨1,_,_,_,hs⟩] fun K hK=>?_);simp(disch:=omega) only[kc,tZ,cw,bj.a,aM,aa,de,Hm,aZ,af,d4,packT,bS,cf,ai,aY,bU,bI,ac,bO,cq,ae,bV,bW,bs,isPure,noRefTV,bf,bQ,bM,aU,aO,aR,aX,aN,ab,aS];apply hK)
  refine bJ rfl ?_
  (refine cL cJ [⟨2,_,_,_,hm3⟩,⟨3,_,_,_,hA⟩] [] (by kernel_rfl) (by simp) fun K hK=>?_;simp(disch:=omega) only[kc,de,tZ,cp,cw,bj.a,aM,aa,aZ,af,d4,packT,bS,cf,ai,aY,bU,bI,ac,bO,aN,ab,cq,ae,bV,bW,bs,noRefTV,bf,bQ,bM,ak,isPure,bo,ew,cU,cellsOf,cQ,bu,bz,bx];apply hK)
  (refine aP (aL [⟨1,_,_,_,hs2⟩] fun K hK=>?_);simp(disch:=omega) only[kc,tZ,cp,bj.a,aM,aa,aZ,bD,af,d4,packT,bS,cf,ai,aY,bU,bI,ac,bO,cq,ae,bV,bW,bs,isPure,noRefTV,bf,bQ,bM,aU,aO,aR,aX,aN,ab,aS];apply hK)
  refine bL rfl (bi ?_)
  show da _ _ _ _
  (refine rj [(12,4,42)] cJ [⟨1,_,_,_,h1⟩,⟨2,_,_,_,hA2⟩] [] (by kernel_rfl) (F9 (n:=2) (by simp only[bS,cf,cx,df,dU,dG,aV,s8,jx,dv,eI,d6,fV]) (by decide)) (zX rfl rfl (by decide)) (by simp) fun K hK=>?_;simp(disch:=omega) only[kc,tZ,cp,bj.a,aM,aa,aZ,bD,af,d4,packT,bS,cf,ai,aY,bU,bI,ac,bO,aN,ab,cq,ae,bV,bW,bs,noRefTV,bf,bQ,bM,ak,isPure,bo,ew,cU,cellsOf,cQ,bu,bz,bx];apply hK)
  (refine bC ⟨.inr rfl,bF rfl ?_ rfl⟩;simp(disch:=omega) only[kc,cH,Tryz.results100,eP,bH,bD,af,d4,packT,bS,cf,aa,ai,dF,cZ])
 obtain⟨e1,e2⟩:=p0 (by omega)
 rw[e1,e2]
 have hs3:=uN (z:=R) (by omega)
 refine bG Tryz.func100 rfl (by kernel_rfl) ?_;rw[Tryz.ntmps100]
 (refine aL [] fun K hK=>?_;simp(disch:=omega) only[kc,aM,aa,tZ,aj,dP,bU,bI,cellsOf,isPure,cQ,bD,af,cy,cx,ab,d4,aN];apply hK)
 (refine cL cJ [⟨2,_,_,_,t1⟩,⟨5,_,_,_,t2⟩] [] (by kernel_rfl) (by simp) fun K hK=>?_;simp(disch:=omega) only[kc,de,bj.a,aM,aa,bY,aZ,df,dU,bD,af,d4,packT,dG,aY,bU,bI,ac,bO,cq,ae,bV,bW,bs,noRefTV,bf,bQ,bM,ak];apply hK)
 (refine aP (aL [] fun K hK=>?_);simp(disch:=omega) only[kc,aM,aa,be,aZ,aV,bE,aU,aO,aR,aX,aN,ab,aS,cp];apply hK)
 refine bL rfl (bi ?_)
 show da _ _ _ _
 (refine aL [⟨2,_,_,_,hd⟩] fun K hK=>?_;simp(disch:=omega) only[kc,de,bj.a,aM,aa,aY,bU,bI,ac,bO,cq,ae,bV,bW,bs,noRefTV,bf,bQ,bM,cK,aU];apply hK)
 (refine cL cJ [⟨6,_,_,_,hm1⟩,⟨10,_,_,_,hm2⟩] [] (by kernel_rfl) (by simp) fun K hK=>?_;simp(disch:=omega) only[kc,de,tZ,cp,bj.a,aM,aa,bY,aZ,dv,eI,az,bD,af,d4,packT,d6,aU,aO,aR,aX,aS,fV,aY,bU,bI,ac,bO,cq,ae,bV,bW,bs,noRefTV,bf,bQ,bM,ak,cy,cx,ab,cQ,bo,ew,cU,bS,cellsOf,ai,isPure,bu,bz,bx];apply hK)
 refine da.weak (aT (tm:=[jk,jk,.one (.ptr 2 0 0 0),.one (.ptr 3 0 0 0),.one (.ptr 4 0 0 0),.one (.ptr 5 0 0 0),.raw (.bool false),jk,de (bT b.natAbs),jk,jk,.one (.ptr 11 0 0 0),.one (.ptr 12 0 0 0),jk,jk,jk,jk,jk,jk,jk,jk,jk,jk,jk,jk,jk,jk,jk,jk,jk,jk,jk,jk,jk,jk,jk,jk,jk,jk,jk,jk,jk,jk,jk,jk,jk,jk,jk,jk,jk,jk,jk,jk,jk,jk,jk,jk,jk,jk,jk,jk]) (l:=[(2,w7 (decide (a<0)) (bT a.natAbs)),(3,w7 (decide (b<0)) (bT b.natAbs)),(4,yW),(5,yW),(11,w7 (decide (Q<0)) (bT Q.natAbs)),(12,w7 false (bT R.natAbs))]) ⟨rfl,rfl,rfl,rfl,rfl,rfl,trivial⟩ (by simp[di,b9,b8])) ?_
 (refine aP (aL [⟨1,_,_,_,hs⟩] fun K hK=>?_);simp(disch:=omega) only[kc,tZ,cp,bj.a,aM,aa,de,Hm,aZ,af,d4,packT,bS,cf,ai,aY,bU,bI,ac,bO,cq,ae,bV,bW,bs,isPure,noRefTV,bf,bQ,bM,aU,aO,aR,aX,aN,ab,aS];apply hK)
 refine bL rfl (bi ?_)
 show da _ _ _ _
 (refine rj [(12,4,42)] cJ [] [] (by kernel_rfl) (F9 (n:=2) (by simp only[bS,cf,cx,df,dU,dG,aV,s8,jx,dv,eI,d6,fV]) (by decide)) (zX rfl rfl (by decide)) (by simp) fun K hK=>?_;simp(disch:=omega) only[kc,aM,aa,aZ,af,d4,packT,bS,cf,ai,bo,ew,cU,cellsOf,isPure,cQ,bu,bz,bx,bD,aN,ab];apply hK)
 (refine bC ⟨.inr rfl,bF rfl ?_ rfl⟩;simp(disch:=omega) only[kc,cH,Tryz.results100,eP,bH,bD,af,d4,packT,bS,cf,aa,ai,dF,cZ,cp])
theorem K0 (a b:Int) (hb0:b≠0) (ha:Bh a) (hb:Bh b):CallC Tryz.prog 56 [tZ a,tZ b] ⟨[],tZ (a/b)⟩:=by
 have h1:=Dz a b hb0 ha hb
 refine bG Tryz.func56 rfl (by kernel_rfl) ?_;rw[Tryz.ntmps56]
 (refine aL [] fun K hK=>?_;simp(disch:=omega) only[kc,aM,aa,tZ,aj,dP,bU,bI,cellsOf,isPure,cQ,bD,af,cy,cx,ab,d4];apply hK)
 (refine aL [⟨2,_,_,_,h1⟩] fun K hK=>?_;simp(disch:=omega) only[kc,tZ,cZ,bj.a,aM,aa,aZ,bD,af,d4,packT,bS,cf,ai,aY,bU,bI,ac,bO,cq,ae,bV,bW,bs,isPure,noRefTV,bf,bQ,bM,cK,aU,cy,cx,ab,cQ,bo,ew,cU,cellsOf,bu,bz,bx];apply hK)
 (refine aL [] fun K hK=>?_;simp(disch:=omega) only[kc,aM,aZ,bD,af,d4,packT,bS,cf,aa,ai,bo,ew,cU,cellsOf,isPure,cQ,bu,bz,bx];apply hK)
 (refine bC ⟨.inr rfl,bF rfl ?_ rfl⟩;simp(disch:=omega) only[kc,cH,Tryz.results56,bH,bD,af,d4,packT,bS,cf,aa,ai,tZ])
def fR {α:Type} (f:α->List PV) (r:List α):List PV:=[.sl (ls f r)]
abbrev eF (M:List (List Int)):TV:= .one (.p (.sl (ls (fR fZ) M)))
abbrev rOk (n:Nat) (r:List Int):Prop:=1<=r.length/\r.length<=16/\r.length=n
def Ap (M:List (List Int)):Prop:=1<=M.length/\M.length<=16/\ ∀r∈M,rOk (M.headD []).length r
instance (M:List (List Int)):Decidable (Ap M):=by unfold Ap;exact inferInstance
def Kv (M:List (List Int)):TV:=if Ap M then .tup [(false,[.p (.raw (.int .i64 (M.length:Int)))]),(false,[.p (.raw (.int .i64 ((M.headD []).length:Int)))]),(false,[.p (.raw (.bool true))])]
 else .tup [(false,[.p (.raw (.int .i64 0))]),(false,[.p (.raw (.int .i64 0))]),(false,[.p (.raw (.bool false))])]
theorem iv {M:List (List Int)} (h: ¬Ap M):Kv M= .tup [(false,[.p (.raw (.int .i64 0))]),(false,[.p (.raw (.int .i64 0))]),(false,[.p (.raw (.bool false))])]:=by unfold Kv;rw[if_neg h]
theorem nE {M:List (List Int)} (h:Ap M):Kv M= .tup [(false,[.p (.raw (.int .i64 (M.length:Int)))]),(false,[.p (.raw (.int .i64 ((M.headD []).length:Int)))]),(false,[.p (.raw (.bool true))])]:=by unfold Kv;rw[if_pos h]
theorem mG {M:List (List Int)} (h:1<=M.length):M[0]?=some (M.headD []):=by cases M with
 |nil=>simp at h
 |cons r M=>rfl
structure Mk (M:List (List Int)) where
 i:Nat
 hi:i<=M.length
 ok: ∀r∈M.take i,rOk (M.headD []).length r
theorem GI (M:List (List Int)):CallC Tryz.prog 87 [eF M] ⟨[],Kv M⟩:=by
 by_cases h1:M.length<1
 ·rw[iv (fun h=>by have:=h.1;omega)]
  refine bG Tryz.func87 rfl (by kernel_rfl) ?_;rw[Tryz.ntmps87]
  (refine aL [] fun K hK=>?_;simp(disch:=omega) only[kc,aM,aa,eF,aj,aN,ab];apply hK)
  (refine aP (aL [] fun K hK=>?_);simp(disch:=omega) only[kc,aM,aa,be,aZ,cb,bE,aU,aO,aR,aX,aN,ab,aS,cw,bP,reduceCtorEq,ay,cQ,b7];apply hK)
  refine bJ rfl ?_
  (refine aL [] fun K hK=>?_;simp(disch:=omega) only[kc,aM,aa,aN,ab];apply hK)
  (refine bC ⟨.inr rfl,bF rfl ?_ rfl⟩;simp(disch:=omega) only[cH,Tryz.results87,eP,bH,ah,ag,ao,dF,am])
 by_cases h2:16<M.length
 ·rw[iv (fun h=>by have:=h.2.1;omega)]
  refine bG Tryz.func87 rfl (by kernel_rfl) ?_;rw[Tryz.ntmps87]
  (refine aL [] fun K hK=>?_;simp(disch:=omega) only[kc,aM,aa,eF,aj,aN,ab];apply hK)
  (refine aP (aL [] fun K hK=>?_);simp(disch:=omega) only[kc,aM,aa,be,aZ,cb,bE,aU,aO,aR,aX,aN,ab,aS,cp,bP,cQ,cw,b7];apply hK)
  refine bJ rfl ?_
  (refine aL [] fun K hK=>?_;simp(disch:=omega) only[kc,aM,aa,aN,ab];apply hK)
  (refine bC ⟨.inr rfl,bF rfl ?_ rfl⟩;simp(disch:=omega) only[cH,Tryz.results87,eP,bH,ah,ag,ao,dF,am])
 have h0:=mG (M:=M) (by omega)
 refine bG Tryz.func87 rfl (by kernel_rfl) ?_;rw[Tryz.ntmps87]
 (refine aL [] fun K hK=>?_;simp(disch:=omega) only[kc,aM,aa,eF,aj,aN,ab];apply hK)
 (refine aP (aL [] fun K hK=>?_);simp(disch:=omega) only[kc,aM,aa,be,aZ,cb,bE,aU,aO,aR,aX,aN,ab,aS,cp,bP,cQ,b7];apply hK)
 refine bL rfl (bi ?_)
 show da _ _ _ _
 (refine aP (aL [] fun K hK=>?_);simp(disch:=omega) only[kc,aM,aa,be,aZ,cb,bE,aN,ab];apply hK)
 refine cC (G:=Mk M) (fun g=>⟨[eF M,jk,.raw (.int .i64 0),.raw (.int .i64 0),.raw (.bool false),jk,jk,jk,jk,jk,jk,jk,jk,jk,jk,eF M,.raw (.int .i64 (M.length:Int)),.raw (.int .i64 (g.i:Int)),jk,jk,jk,jk,jk,jk,jk,jk,jk,jk,jk,jk,jk,jk,jk,jk,jk,jk,jk,jk,jk,jk,jk,jk,jk,jk,jk],Hm []⟩) (fun g=>M.length-g.i) ⟨0,by omega,fun r hr=>by simp at hr⟩ ?_ ?_
 ·refine aT trivial ?_
  simp[di,b9,b8]
 rintro⟨i,hi,ok⟩
 simp only
 by_cases hm:i<M.length
 ·obtain⟨r,hr⟩:=getElem?_of_lt hm
  have hmem:r∈M:=List.mem_of_getElem? hr
  (refine aL [] fun K hK=>?_;simp(disch:=omega) only[kc,aM,eF,Hm,aU,aO,aR,aX,aS,cw];apply hK)
  refine aP (bJ rfl (bi ?_))
  refine aP (bA ?_)
  (refine aL [] fun K hK=>?_;simp(disch:=omega) only[kc,aM,aa,aQ,aZ,aW,cb,ch,hr,fR,dy,packT,dD];apply hK)
  by_cases c1:r.length<1
  ·rw[iv (fun h=>by have:=(h.2.2 r hmem).1;omega)]
   (refine aL [] fun K hK=>?_;simp(disch:=omega) only[kc,aM,aa,be,aZ,cE,bE,aU,aO,aR,aX,aN,ab,aS,cw,bP,reduceCtorEq,ay,cQ,b7,aQ,aW,aw,cb];apply hK)
   refine bJ rfl ?_
   (refine aL [] fun K hK=>?_;simp(disch:=omega) only[kc,aM,aa,aN,ab];apply hK)
   (refine bC ⟨.inr rfl,bF rfl ?_ rfl⟩;simp(disch:=omega) only[cH,Tryz.results87,eP,bH,ah,ag,ao,dF,am])
  by_cases c2:16<r.length
  ·rw[iv (fun h=>by have:=(h.2.2 r hmem).2.1;omega)]
   (refine aL [] fun K hK=>?_;simp(disch:=omega) only[kc,aM,aa,be,aZ,cE,bE,aU,aO,aR,aX,aN,ab,aS,cp,bP,cQ,cw,b7,reduceCtorEq,ay,aQ,aW,aw,cb];apply hK)
   refine bJ rfl ?_
   (refine aL [] fun K hK=>?_;simp(disch:=omega) only[kc,aM,aa,aN,ab];apply hK)
   (refine bC ⟨.inr rfl,bF rfl ?_ rfl⟩;simp(disch:=omega) only[cH,Tryz.results87,eP,bH,ah,ag,ao,dF,am])
  by_cases c3:r.length=(M.headD []).length
  ·(refine aL [] fun K hK=>?_;simp(disch:=omega) only[kc,aM,aa,be,aZ,cE,bE,aU,aO,aR,aX,aN,ab,aS,cp,bP,cQ,b7,aQ,aW,aw,cb,ch,h0,fR,dy,packT,dD,cw];apply hK)
   refine bL rfl (bi ?_)
   show da _ _ _ _
   ((refine bK [] [] (by simp) fun K hK=>?_);simp(disch:=omega) only[kc,aM,aU,aO,aR,aX,aN,ab,aS,cd];apply hK)
   refine⟨⟨i+1,by omega,fun r' hr'=>?_⟩,by simp only;omega,aT trivial ?_⟩
   ·rw[List.take_add_one,hr]at hr'
    rcases List.mem_append.1 hr' with h|h
    ·exact ok r' h
    have:r'=r:=by simpa using h
    subst this
    exact⟨by omega,by omega,c3⟩
   simp[di,b9,b8]
  rw[iv (fun h=>by have:=(h.2.2 r hmem).2.2;omega)]
  (refine aL [] fun K hK=>?_;simp(disch:=omega) only[kc,aM,aa,be,aZ,cE,bE,aU,aO,aR,aX,aN,ab,aS,cp,bP,cQ,b7,aQ,aW,aw,cb,ch,h0,fR,dy,packT,dD,Bool.not_false];apply hK)
  refine bJ rfl ?_
  (refine aL [] fun K hK=>?_;simp(disch:=omega) only[kc,aM,aa,aN,ab];apply hK)
  (refine bC ⟨.inr rfl,bF rfl ?_ rfl⟩;simp(disch:=omega) only[cH,Tryz.results87,eP,bH,ah,ag,ao,dF,am])
 have hsh:Ap M:=⟨by omega,by omega,fun r hr=>ok r (by rw[List.take_of_length_le (by omega)];exact hr)⟩
 rw[nE hsh]
 (refine aL [] fun K hK=>?_;simp(disch:=omega) only[kc,aM,eF,Hm,aU,aO,aR,aX,aS,cp];apply hK)
 refine aP (bL rfl (ck ?_))
 show da _ _ _ _
 (refine cL cJ [] [] (by kernel_rfl) (by simp) fun K hK=>?_;simp(disch:=omega) only[kc,aM,aa,be,aZ,cb,bE,aQ,aN,ab,aW,aw,ch,h0,fR,dy,packT,dD,cE];apply hK)
 (refine bC ⟨.inr rfl,bF rfl ?_ rfl⟩;simp(disch:=omega) only[cH,Tryz.results87,eP,bH,ah,ag,ao,dF,am])
def Ls (M:List (List Int)):Prop:=Ap M/\M.length=(M.headD []).length
instance (M:List (List Int)):Decidable (Ls M):=by unfold Ls;exact inferInstance
def Jl (M:List (List Int)):TV:=if Ls M then .tup [(false,[.p (.raw (.int .i64 (M.length:Int)))]),(false,[.p (.raw (.bool true))])]else .tup [(false,[.p (.raw (.int .i64 0))]),(false,[.p (.raw (.bool false))])]
theorem wG (M:List (List Int)):CallC Tryz.prog 78 [eF M] ⟨[],Jl M⟩:=by
 have hS:=GI M
 by_cases h1:Ap M
 ·rw[nE h1]at hS
  by_cases h2:M.length=(M.headD []).length
  ·rw[show Jl M=_ from if_pos ⟨h1,h2⟩]
   refine bG Tryz.func78 rfl (by kernel_rfl) ?_;rw[Tryz.ntmps78]
   (refine aL [] fun K hK=>?_;simp(disch:=omega) only[kc,aM,eF,aj,aN,ab];apply hK)
   (refine aL [⟨1,_,_,_,hS⟩] fun K hK=>?_;simp(disch:=omega) only[kc,eF,bj.a,aM,aa,aY,bU,bI,ac,bO,cq,ae,bV,bW,bs,noRefTV,bf,bQ,bM,cK,aU];apply hK)
   (refine aP (aL [] fun K hK=>?_);simp(disch:=omega) only[kc,aM,aa,dM,aU,fD,bP,aO,aR,aX,aS,cw,cQ,b7];apply hK)
   refine bL rfl (bi ?_)
   show da _ _ _ _
   (refine aL [] fun K hK=>?_;simp(disch:=omega) only[kc,aM,aa,aN,ab];apply hK)
   (refine bC ⟨.inr rfl,bF rfl ?_ rfl⟩;simp(disch:=omega) only[cH,Tryz.results78,eP,bH,ah,ag,ao,dF,am])
  rw[show Jl M=_ from if_neg (fun h=>h2 h.2)]
  refine bG Tryz.func78 rfl (by kernel_rfl) ?_;rw[Tryz.ntmps78]
  (refine aL [] fun K hK=>?_;simp(disch:=omega) only[kc,aM,eF,aj,aN,ab];apply hK)
  (refine aL [⟨1,_,_,_,hS⟩] fun K hK=>?_;simp(disch:=omega) only[kc,eF,bj.a,aM,aa,aY,bU,bI,ac,bO,cq,ae,bV,bW,bs,noRefTV,bf,bQ,bM,cK,aU];apply hK)
  (refine aP (aL [] fun K hK=>?_);simp(disch:=omega) only[kc,aM,aa,dM,aU,fD,bP,aO,aR,aX,aS,cp,Bool.not_false,cQ,b7];apply hK)
  refine bJ rfl ?_
  (refine aL [] fun K hK=>?_;simp(disch:=omega) only[kc,aM,aN,ab];apply hK)
  (refine bC ⟨.inr rfl,bF rfl ?_ rfl⟩;simp(disch:=omega) only[cH,Tryz.results78,eP,bH,ah,ag,ao,dF,am])
 rw[iv h1]at hS
 rw[show Jl M=_ from if_neg (fun h=>h1 h.1)]
 refine bG Tryz.func78 rfl (by kernel_rfl) ?_;rw[Tryz.ntmps78]
 (refine aL [] fun K hK=>?_;simp(disch:=omega) only[kc,aM,eF,aj,aN,ab];apply hK)
 (refine aL [⟨1,_,_,_,hS⟩] fun K hK=>?_;simp(disch:=omega) only[kc,eF,bj.a,aM,aa,aY,bU,bI,ac,bO,cq,ae,bV,bW,bs,noRefTV,bf,bQ,bM,cK,aU];apply hK)
 (refine aP (aL [] fun K hK=>?_);simp(disch:=omega) only[kc,aM,aa,dM,aU,fD,Bool.not_false,bP,reduceCtorEq,aO,aR,aX,cQ,ay,b7,aN,ab];apply hK)
 refine bJ rfl ?_
 (refine aL [] fun K hK=>?_;simp(disch:=omega) only[kc,aM,aN,ab];apply hK)
 (refine bC ⟨.inr rfl,bF rfl ?_ rfl⟩;simp(disch:=omega) only[cH,Tryz.results78,eP,bH,ah,ag,ao,dF,am])
section
def BV:PV->PV
 | .raw (.slice none 0 0)=> .sl []
 |x=>x
def Ak:AV->AV
 | .p x=> .p (BV x)
 |x=>x
def zO (o:OObj):OObj:={o with elems:=o.elems.map (List.map Ak)}
theorem I0 {X:Nat->Prop} {w:World} {x:PV} {v:Value} (h:ee X w x v):ee X w (BV x) v:=by
 unfold BV
 split
 ·cases h;exact .nil none 0
 exact h
theorem IZ {ρ:Rho} {H:OH} {X:Nat->Prop} {w:World} {x:AV} {v:Value} (h:x.rel ρ H X w v):(Ak x).rel ρ H X w v:=by
 cases x with
 |p x=>exact I0 h
 |sl a r off len=>exact h
 |ptr a r i j=>exact h
 |junk=>exact h
section
variable {H:OH} {d:Nat}
def zH (H:OH) (d:Nat):OH:=bD H d ((H d).map zO)
theorem ql {a r:Nat} {o:OObj} (h:(zH H d a)[r]?=some o): ∃o',(H a)[r]?=some o'/\((a=d/\o=zO o')\/o=o'):=by
 unfold zH at h
 by_cases ha:a=d
 ·subst ha
  rw[dr,aH]at h
  obtain⟨o',h1,h2⟩:=Option.map_eq_some_iff.1 h
  exact⟨o',h1,.inl ⟨rfl,h2.symm⟩⟩
 rw[cz ha]at h
 exact⟨o,h,.inr rfl⟩
theorem Gq {a r:Nat} {o:OObj} (h:(H a)[r]?=some o): ∃o',(zH H d a)[r]?=some o'/\o'.es=o.es/\o'.elems.length=o.elems.length:=by
 unfold zH
 by_cases ha:a=d
 ·subst ha
  exact⟨zO o,by rw[dr,aH,h];rfl,rfl,by simp[zO]⟩
 exact⟨o,by rw[cz ha];exact h,rfl,rfl⟩
theorem Jq (X:Nat->Prop) (ρ:Rho):Xo X ρ (zH H d)=Xo X ρ H:=by
 funext b
 apply propext
 constructor
 ·rintro(h|⟨a,r,o,c,h1,h2⟩)
  ·exact .inl h
  obtain⟨o',g1,_⟩:=ql h1
  exact .inr ⟨a,r,o',c,g1,h2⟩
 rintro(h|⟨a,r,o,c,h1,h2⟩)
 ·exact .inl h
 obtain⟨o',g1,_⟩:=Gq (d:=d) h1
 exact .inr ⟨a,r,o',c,g1,h2⟩
theorem yB {ρ:Rho} {X:Nat->Prop} {w:World} {x:AV} {v:Value} (h:x.rel ρ H X w v):x.rel ρ (zH H d) X w v:=by
 cases x with
 |p x=>exact h
 |junk=>trivial
 |sl a r off len=>
  obtain⟨o,h1,h2,h3⟩:=h
  obtain⟨o',g1,g2,g3⟩:=Gq (d:=d) h1
  exact⟨o',g1,by omega,by rw[g2];exact h3⟩
 |ptr a r i j=>
  obtain⟨o,b,c,h1,h2,h3,h4⟩:=h
  obtain⟨o',g1,g2,g3⟩:=Gq (d:=d) h1
  exact⟨o',b,c,g1,h2,by omega,by rw[g2];exact h4⟩
theorem Lp {ρ:Rho} {X:Nat->Prop} {w:World} {t:TV} {v:Value} (h:t.rel ρ H X w v):t.rel ρ (zH H d) X w v:=by
 have agg: ∀{cs:List AV} {v:Value},dL ρ H X w cs v->dL ρ (zH H d) X w cs v:=fun{cs v} ⟨vs,h1,h2,h3⟩=>
  ⟨vs,h1,h2,fun j x hx=>by obtain⟨u,u1,u2,u3⟩:=h3 j x hx;exact⟨u,u1,u2,yB u3⟩⟩
 cases t with
 |one x=>exact yB (x:=x) h
 |agg cs=>exact agg h
 |fn f cs=>obtain⟨u,h1,h2⟩:=h;exact⟨u,agg h1,h2⟩
 |tup ts=>
  obtain⟨vs,h1,h2,h3⟩:=h
  refine⟨vs,h1,h2,fun j b cs hj=>?_⟩
  obtain⟨u,u1,u2⟩:=h3 j b cs hj
  refine⟨u,u1,?_⟩
  rcases u2 with⟨e,g⟩|⟨e,x,hx,g⟩
  ·exact .inl ⟨e,agg g⟩
  exact .inr ⟨e,x,hx,yB g⟩
theorem Gr {ρ:Rho} {X:Nat->Prop} {w:World} {a r:Nat} {o:OObj} (h:objRel ρ H X w a r o):objRel ρ (zH H d) X w a r (zO o)/\objRel ρ (zH H d) X w a r o:=by
 obtain⟨h1,h2,h3⟩:=h
 refine⟨⟨fun e he=>?_,h2,?_⟩,⟨h1,h2,?_⟩⟩
 ·simp only[zO,List.mem_map]at he
  obtain⟨e',he',rfl⟩:=he
  simp only[List.length_map,zO]
  exact h1 e' he'
 ·cases hρ:ρ a r with
  |none=>rw[hρ]at h3;simp only at h3⊢;simp[zO,h3]
  |some bc=>
   obtain⟨b,c⟩:=bc
   rw[hρ]at h3
   obtain⟨cells,g1,g2,g3,g4,g5⟩:=h3
   refine⟨cells,g1,g2,by simpa[zO] using g3,g4,fun i e j x hi hj=>?_⟩
   simp only[zO,aH]at hi
   obtain⟨e',he',rfl⟩:=Option.map_eq_some_iff.1 hi
   simp only[aH]at hj
   obtain⟨x',hx',rfl⟩:=Option.map_eq_some_iff.1 hj
   obtain⟨v,v1,v2,v3⟩:=g5 i e' j x' he' hx'
   exact⟨v,v1,v2,IZ (yB v3)⟩
 cases hρ:ρ a r with
 |none=>rw[hρ]at h3;exact h3
 |some bc=>
  obtain⟨b,c⟩:=bc
  rw[hρ]at h3
  obtain⟨cells,g1,g2,g3,g4,g5⟩:=h3
  refine⟨cells,g1,g2,g3,g4,fun i e j x hi hj=>?_⟩
  obtain⟨v,v1,v2,v3⟩:=g5 i e j x hi hj
  exact⟨v,v1,v2,yB v3⟩
end
theorem jd {s:AS} (d:Nat):eg s ⟨s.tmps,zH s.H d⟩:=by
 rintro w0 O X a w ⟨h1,hsz,ρ,hinv,htm⟩
 refine⟨h1,hsz,ρ,⟨hinv.keep,fun a r o ho=>?_,fun a r a' r' o o' b c c' ho ho' hb hb'=>?_,fun a r o b c ho hb=>?_,hinv.bar,fun a r o ho=>?_⟩,fun t x hx=>?_⟩
 ·obtain⟨o',g1,g2⟩:=ql ho
  show objRel ρ (zH s.H d) (Xo X ρ (zH s.H d)) w a r o
  rw[Jq]
  rcases g2 with⟨_,rfl⟩|rfl
  ·exact(Gr (hinv.objs a r o' g1)).1
  exact(Gr (hinv.objs a r o g1)).2
 ·obtain⟨p,g1,_⟩:=ql ho
  obtain⟨p',g2,_⟩:=ql ho'
  exact hinv.inj a r a' r' p p' b c c' g1 g2 hb hb'
 ·obtain⟨p,g1,_⟩:=ql ho
  exact hinv.old a r p b c g1 hb
 ·obtain⟨o',g1,g2⟩:=ql ho
  have:=hinv.self a r o' g1
  rcases g2 with⟨_,rfl⟩|rfl
  ·intro e he x hx
   simp only[zO,List.mem_map]at he
   obtain⟨e',he',rfl⟩:=he
   simp only[List.mem_map]at hx
   obtain⟨x',hx',rfl⟩:=hx
   have:=this e' he' x' hx'
   cases x'<;>first|exact this|trivial
  exact this
 obtain⟨v,v1,v2⟩:=htm t x hx
 refine⟨v,v1,?_⟩
 show x.rel ρ (zH s.H d) (Xo X ρ (zH s.H d)) w v
 rw[Jq]
 exact Lp v2
theorem GK {s:AS} (k:Nat) (hk:s.tmps[k]?=some (.raw (.slice none 0 0))):eg s ⟨s.tmps.set k (.one (.p (.sl []))),s.H⟩:=by
 rintro w0 O X a w ⟨h1,hsz,ρ,hinv,htm⟩
 refine⟨h1,by simpa using hsz,ρ,hinv,fun t x hx=>?_⟩
 by_cases htk:t=k
 ·subst htk
  obtain⟨v,v1,v2⟩:=htm t _ hk
  have hlt:=(List.getElem?_eq_some_iff.1 hk).1
  rw[List.getElem?_set_self hlt]at hx
  injection hx with hx
  subst hx
  have v2:ee (Xo X ρ s.H) w (.raw (.slice none 0 0)) v:=v2
  cases v2
  exact⟨_,v1,ee.nil none 0⟩
 rw[List.getElem?_set_ne (fun h=>htk h.symm)]at hx
 exact htm t x hx
end
end Go.Proofs.YtfgeomlagfomgaaGreatDoor
