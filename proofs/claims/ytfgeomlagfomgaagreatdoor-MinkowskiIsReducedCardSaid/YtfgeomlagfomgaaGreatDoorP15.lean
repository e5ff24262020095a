/-
  Part 16 of a proof (walks and plain facts).
-/
import Derived.Test.YtfgeomlagfomgaaGreatDoorP14
import Derived.Lib.BitFns
set_option linter.all false
set_option maxRecDepth 100000
set_option maxHeartbeats 64000000
open Nat renaming reduceAdd → aa
open Go.Value renaming oneCell' → ab
open List renaming getElem?_cons_zero → ag
open List renaming getElem?_cons_succ → ah
open Nat renaming le_refl → ai
open List renaming replicate → aj
open Int renaming reduceToNat → aw
open Int renaming natCast_nonneg → ax
open List renaming getElem?_append_right → aB
open List renaming getElem?_eq_none → aC
namespace Go.Proofs.YtfgeomlagfomgaaGreatDoor
open Go.RowKit
def dE:Nat->Nat->List Nat
 |0,_=>[]
 |n+1,x=>x%4294967296::dE n (x/4294967296)
theorem dA: ∀n x,(dE n x).length=n
 |0,_=>rfl
 |n+1,x=>by simp[dE,dA n]
theorem mI: ∀n x,Lmb (dE n x)
 |0,_=>fun a h=>by simp[dE]at h
 |n+1,x=>by rw[dE,fm];exact⟨Nat.mod_lt _ (by omega),mI n _⟩
theorem ux: ∀n x,natV (dE n x)=x%4294967296^n
 |0,x=>by simp[dE,natV,Nat.mod_one]
 |n+1,x=>by
  rw[dE,natV,ux n,Nat.pow_succ,Nat.mul_comm (4294967296^n),Nat.mod_mul]
theorem il {n x:Nat} (h:x<4294967296^n):natV (dE n x)=x:=by rw[ux,Nat.mod_eq_of_lt h]
theorem AU: ∀{l:List Nat},Lmb l->l=dE l.length (natV l)
 |[],_=>rfl
 |a::l,h=>by
  rw[fm]at h
  have h1:(a+4294967296*natV l)%4294967296=a:=by omega
  have h2:(a+4294967296*natV l)/4294967296=natV l:=by omega
  show a::l=dE (l.length+1) (natV (a::l))
  rw[dE,natV,h1,h2,<- AU h.2]
theorem xh {l:List Nat} {n x:Nat} (h:Lmb l) (hn:l.length=n) (hx:natV l=x):l=dE n x:=by
 subst hn hx;exact AU h
theorem gY: ∀{n x i:Nat},i<n->(dE n x)[i]?=some (x/4294967296^i%4294967296)
 |0,_,_,h=>by omega
 |n+1,x,0,_=>by simp[dE]
 |n+1,x,i+1,h=>by
  rw[dE,ah,gY (by omega),Nat.div_div_eq_div_mul,Nat.pow_succ,Nat.mul_comm 4294967296]
theorem qg {n x:Nat} (h:x<4294967296^n):fE (dE n x)=bT x:=by
 rw[gy (mI _ _),il h]
theorem oV {l:List Nat} {i a:Nat} (h:l[i]?=some a):natV (l.drop i)=a+4294967296*natV (l.drop (i+1)):=by rw[fY h,natV]
/-! Short division. -/
theorem FK {a b Y:Nat} (hb:0<b) (ha:a<4294967296):(a+4294967296*Y)/b%4294967296=(Y%b*4294967296+a)/b/\(a+4294967296*Y)/b/4294967296=Y/b/\(a+4294967296*Y)%b=(Y%b*4294967296+a)%b:=by
 have h1:=Nat.div_add_mod Y b
 have h2:=Nat.mod_lt Y hb
 generalize hq:Y/b=q at*
 generalize hr:Y%b=r at*
 have e:a+4294967296*Y=b*(4294967296*q)+(r*4294967296+a):=by rw[<- h1];grind
 have hlt:(r*4294967296+a)/b<4294967296:=by
  rw[Nat.div_lt_iff_lt_mul hb]
  have:(r+1)*4294967296<=b*4294967296:=Nat.mul_le_mul_right _ (by omega)
  omega
 rw[e,Nat.mul_add_div hb,Nat.mul_add_mod]
 generalize(r*4294967296+a)/b=t at*
 refine⟨by omega,by omega,Nat.mul_add_mod _ _ _⟩
theorem IA {l:List Nat} {i a b n:Nat} (hn:l.length=n) (hi:i<n) (ha:l[i]?=some a) (ha':a<4294967296) (hb:0<b):
  (l.take (i+1)++dE (n-(i+1)) (natV (l.drop (i+1))/b)).set i ((natV (l.drop (i+1))%b*4294967296+a)/b)=l.take i++dE (n-i) (natV (l.drop i)/b)/\
  (natV (l.drop (i+1))%b*4294967296+a)%b=natV (l.drop i)%b:=by
 obtain⟨h1,h2,h3⟩:=FK (Y:=natV (l.drop (i+1))) hb ha'
 rw[oV ha]
 refine⟨?_,h3.symm⟩
 rw[show n-i=n-(i+1)+1 by omega,dE,h1,h2,List.take_add_one,ha]
 simp only[Option.toList_some,List.append_assoc,List.singleton_append]
 rw[List.set_append_right _ _ (by simp;omega)]
 have e:i-(l.take i).length=0:=by simp;omega
 rw[e,List.set_cons_zero]
/-! Shifts. -/
theorem xU {s:Nat} (hs:s<32):2^s<=2147483648/\1<=2^s:=⟨by have:=Nat.pow_le_pow_right (n:=2) (by omega) (show s<=31 by omega);simpa using this,Nat.one_le_two_pow⟩
theorem F3 {X Y s:Nat} (hs:s<=32):(X+18446744073709551616*Y)/2^s%4294967296=X/2^s%4294967296:=by
 have e:18446744073709551616*Y=2^s*(2^(32-s)*(4294967296*Y)):=by
  rw[<- Nat.mul_assoc,<- Nat.pow_add,show s+(32-s)=32 by omega];grind
 rw[e,Nat.add_mul_div_left _ _ (Nat.two_pow_pos s)]
 have e2:2^(32-s)*(4294967296*Y)=4294967296*(2^(32-s)*Y):=by grind
 rw[e2,Nat.add_mul_mod_self_left]
theorem Ll {l:List Nat} (hl:Lmb l) {i s:Nat} (hs:s<=32):natV l/2^s/4294967296^i%4294967296=(l.getD i 0+4294967296*l.getD (i+1) 0)/2^s%4294967296:=by
 have e:natV l/2^s/4294967296^i=natV (l.drop i)/2^s:=by
  rw[Nat.div_div_eq_div_mul,Nat.mul_comm,<- Nat.div_div_eq_div_mul]
  congr 1
  by_cases hi:i<=l.length
  ·have h1:natV l=natV (l.take i)+4294967296^i*natV (l.drop i):=by
    conv=>lhs;rw[<- List.take_append_drop i l]
    rw[jr,List.length_take,Nat.min_eq_left hi]
   have h2:=gK hl i
   rw[h1,Nat.add_mul_div_left _ _ (Nat.pow_pos (by omega)),Nat.div_eq_of_lt h2,Nat.zero_add]
  rw[List.drop_eq_nil_iff.2 (by omega)]
  have h2:=ik hl
  have h3:4294967296^l.length<=4294967296^i:=Nat.pow_le_pow_right (by omega) (by omega)
  rw[Nat.div_eq_of_lt (by omega)];rfl
 rw[e]
 have g: ∀j,natV (l.drop j)=l.getD j 0+4294967296*natV (l.drop (j+1)):=fun j=>by
  rw[List.getD_eq_getElem?_getD]
  cases h:l[j]? with
  |none=>
   rw[List.getElem?_eq_none_iff]at h
   rw[List.drop_eq_nil_iff.2 h,List.drop_eq_nil_iff.2 (by omega)];rfl
  |some a=>exact oV h
 rw[g i,g (i+1)]
 have e2:l.getD i 0+4294967296*(l.getD (i+1) 0+4294967296*natV (l.drop (i+1+1)))=(l.getD i 0+4294967296*l.getD (i+1) 0)+18446744073709551616*natV (l.drop (i+1+1)):=by grind
 rw[e2,F3 hs]
theorem BE {l:List Nat} (hl:Lmb l) {i s n v:Nat} (hs:s<=32) (hn:l.length=n) (hi:i<n) (hv:v=(l.getD i 0+4294967296*l.getD (i+1) 0)/2^s%4294967296):
  ((dE n (natV l/2^s)).take i++l.drop i).set i v=(dE n (natV l/2^s)).take (i+1)++l.drop (i+1):=by
 have hg:=gY (n:=n) (x:=natV l/2^s) hi
 rw[Ll hl hs,<- hv]at hg
 have hd:l.drop i=l[i]'(by omega)::l.drop (i+1):=List.drop_eq_getElem_cons (by omega)
 rw[List.set_append_right _ _ (by simp[dA];omega),List.take_add_one,hg,hd]
 have e:i-((dE n (natV l/2^s)).take i).length=0:=by simp[dA];omega
 rw[e,List.set_cons_zero]
 simp
def sW (m:List Nat) (s i:Nat):Nat:=natV (m.take i)*2^s/4294967296^i
theorem Kw {m:List Nat} (hm:Lmb m) (s i:Nat):sW m s i<2^s:=by
 unfold sW
 rw[Nat.div_lt_iff_lt_mul (Nat.pow_pos (by omega)),Nat.mul_comm]
 exact Nat.mul_lt_mul_of_pos_left (gK hm i) (Nat.two_pow_pos s)
theorem IJ {m:List Nat} {s i a:Nat} (ha:m[i]?=some a):sW m s i+a*2^s=natV (m.take (i+1))*2^s/4294967296^i/\(sW m s i+a*2^s)/4294967296=sW m s (i+1):=by
 have h1:=dq ha
 have e:natV (m.take (i+1))*2^s=natV (m.take i)*2^s+4294967296^i*(a*2^s):=by rw[h1];grind
 have h2:sW m s i+a*2^s=natV (m.take (i+1))*2^s/4294967296^i:=by
  unfold sW
  rw[e,Nat.add_mul_div_left _ _ (Nat.pow_pos (by omega))]
 refine⟨h2,?_⟩
 rw[h2]
 unfold sW
 rw[Nat.div_div_eq_div_mul,Nat.pow_succ]
theorem Kx {m:List Nat} {s i j:Nat} (hj:j<i) (hi:i<=m.length):natV (m.take i)*2^s/4294967296^j%4294967296=natV m*2^s/4294967296^j%4294967296:=by
 have h1:natV m=natV (m.take i)+4294967296^i*natV (m.drop i):=by
  conv=>lhs;rw[<- List.take_append_drop i m]
  rw[jr,List.length_take,Nat.min_eq_left hi]
 obtain⟨d,rfl⟩: ∃d,i=j+1+d:=⟨i-(j+1),by omega⟩
 have e:natV m*2^s=natV (m.take (j+1+d))*2^s+4294967296^j*(4294967296*(4294967296^d*natV (m.drop (j+1+d))*2^s)):=by
  rw[h1,Nat.pow_add,Nat.pow_add];grind
 rw[e,Nat.add_mul_div_left _ _ (Nat.pow_pos (by omega)),Nat.add_mul_mod_self_left]
theorem uD {n x:Nat}:dE (n+1) x=dE n x++[x/4294967296^n%4294967296]:=by
 apply List.ext_getElem?
 intro i
 rcases Nat.lt_trichotomy i n with h|h|h
 ·rw[gY (by omega),List.getElem?_append_left (by rw[dA];exact h),gY h]
 ·subst h
  rw[gY (by omega),aB (by rw[dA];exact ai _),dA,Nat.sub_self];rfl
 rw[aC (by rw[dA];omega),aC (by simp[dA];omega)]
theorem ta {a s:Nat} (h:a*2^s<18446744073709551616) (hs:s<=64):IntKind.u64.wrap ((a:Int)*2^(min s IntKind.u64.bits))=((a*2^s:Nat):Int):=by
 rw[show min s IntKind.u64.bits=s from Nat.min_eq_left hs,IntKind.wrap_u64]
 have e:(a:Int)*2^s=((a*2^s:Nat):Int):=by simp
 rw[e]
 omega
theorem Af {a s:Nat} (hs:s<=64):Int.fdiv (a:Int) (2^(min s IntKind.u64.bits))=((a/2^s:Nat):Int):=by
 rw[show min s IntKind.u64.bits=s from Nat.min_eq_left hs]
 have e:(2:Int)^s=((2^s:Nat):Int):=by simp
 rw[e,Int.fdiv_eq_ediv_of_nonneg _ (ax _)]
 simp
theorem oO (m:List Nat) (s:Nat) (lm:Lmb m) (hs:s<32) (bm:m.length<=536870912):CallC Tryz.prog 179 [de m,.raw (.int .i64 (s:Int))] ⟨[⟨79,1,lc fU (dE (m.length+1) (natV m*2^s))⟩],.one (.sl 0 0 0 (m.length+1))⟩:=by
 have hp:=xU hs
 have ep:(m.length:Int)+1=((m.length+1:Nat):Int):=by omega
 refine bG Tryz.func179 rfl (by kernel_rfl) ?_;rw[Tryz.ntmps179]
 (refine aL [] fun K hK=>?_;simp(disch:=omega) only[kc,aM,de,aa,aj,aN,ab];apply hK)
 (refine aL [] fun K hK=>?_;simp(disch:=omega) only[kc,aM,aa,be,aZ,aV,bE,aU,aO,aR,aX,aN,ab,aS,ep,cd,cY,bU,bI,ea,cg,gn,ax,and_true,lY,cQ];apply hK)
 (refine aL [] fun K hK=>?_;simp(disch:=omega) only[kc,aM,aN,ab];apply hK)
 (refine aP (aL [] fun K hK=>?_);simp(disch:=omega) only[kc,aM,aa,be,aZ,aV,bE,aN,ab];apply hK)
 refine cC (G:=ov m.length) (fun g=>⟨[de m,.raw (.int .i64 (s:Int)),jk,jk,jk,.one (.sl 12 0 0 (m.length+1)),.raw (.int .u64 (sW m s g.i:Nat)),jk,jk,jk,jk,jk,jk,de m,.raw (.int .i64 (m.length:Int)),.raw (.int .i64 (g.i:Int)),jk,jk,jk,jk,jk,jk,jk,jk,jk,jk,jk,jk,jk,jk,jk,jk,jk,jk,jk,jk,jk,jk,jk,jk,jk],Hm [(12,[⟨79,1,lc fU (dE g.i (natV m*2^s)++aj (m.length+1-g.i) 0)⟩])]⟩) (fun g=>m.length-g.i) ⟨0,by omega⟩ ?_ ?_
 ·refine aT ⟨?_,trivial⟩ ?_
  ·simp[bD,Hm,dE]
  simp[di,b9,b8,sW,natV]
 rintro⟨i,hi⟩
 simp only
 have hcl:=Kw lm s i
 by_cases hm:i<m.length
 ·obtain⟨a,ha⟩:=getElem?_of_lt hm
  have ha':=dY lm ha
  obtain⟨k1,k2⟩:=IJ (s:=s) ha
  have hlow:=Kx (m:=m) (s:=s) (i:=i+1) (j:=i) (by omega) (by omega)
  rw[<- k1]at hlow
  have hmul:a*2^s<=4294967295*2147483648:=Nat.mul_le_mul (by omega) hp.1
  have e1:=ta (a:=a) (s:=s) (by omega) (by omega)
  have e2:=vX (sW m s i) (a*2^s) (by omega) (by omega)
  rw[qN a (sW m s i) s hcl]at e2
  have e3:IntKind.u32.wrap ((a*2^s+sW m s i:Nat):Int)=((natV m*2^s/4294967296^i%4294967296:Nat):Int):=by rw[q9,Nat.add_comm,hlow]
  have e4:Int.fdiv ((a*2^s+sW m s i:Nat):Int) (2^(min 32 IntKind.u64.bits))=((sW m s (i+1):Nat):Int):=by rw[Du,Nat.add_comm,k2]
  have hz:m.length+1-i=(m.length-i)+1:=by omega
  have hg:=p8 (dE i (natV m*2^s)) (m.length-i)
  have hset:=ol (dE i (natV m*2^s)) (m.length-i) (natV m*2^s/4294967296^i%4294967296)
  rw[dA]at hg hset
  rw[<- uD]at hset
  rw[hz]
  obtain⟨c1,hc1⟩: ∃c1,c1=sW m s (i+1):=⟨_,rfl⟩
  obtain⟨P1,hP1⟩: ∃P1,P1=dE (i+1) (natV m*2^s):=⟨_,rfl⟩
  rw[<- hc1]at e4
  rw[<- hP1]at hset
  clear k1 k2 hlow
  generalize sW m s i=c0 at*
  generalize natV m*2^s/4294967296^i%4294967296=dg at*
  generalize dE i (natV m*2^s)=P0 at*
  generalize hal:a*2^s=al at*
  (refine aL [] fun K hK=>?_;simp(disch:=omega) only[kc,aM,de,Hm,aU,aO,aR,aX,aS,cw];apply hK)
  refine aP (bJ rfl (bi ?_))
  refine aP (bA ?_)
  (refine aL [] fun K hK=>?_;simp(disch:=omega) only[kc,aM,aa,aQ,aZ,aW,aV,ch,ha,fU,cg,packT,cW];apply hK)
  (refine aL [] fun K hK=>?_;simp(disch:=omega) only[kc,aM,aa,ct,aU,Tryz.underlying79,dn,eG,aO,aR,aX,aS,ax,e1,e2];apply hK)
  (refine aL [] fun K hK=>?_;simp(disch:=omega) only[kc,aM,aa,ct,aU,Tryz.underlying78,dI,e3,aQ,aZ,aW,aV,cg,cQ,bo,ew,cU,dp,fU,hg,cellsOf,ai,isPure,bu,ff,hset,bz,bx];apply hK)
  ((refine bK [] [] (by simp) fun K hK=>?_);simp(disch:=omega) only[kc,aM,aa,aU,aO,aR,aX,aN,ab,aS,Int.reduceLE,aw,e4];apply hK)
  show da _ _ _ _
  ((refine bK [] [] (by simp) fun K hK=>?_);simp(disch:=omega) only[kc,aM,aU,aO,aR,aX,aN,ab,aS,cd];apply hK)
  refine⟨⟨i+1,by omega⟩,by simp only;omega,aT ⟨?_,trivial⟩ ?_⟩
  ·show _=[(⟨_,_,lc fU (dE (i+1) (natV m*2^s)++aj (m.length+1-(i+1)) 0)⟩:OObj)]
   rw[show m.length+1-(i+1)=m.length-i by omega,<- hP1];rfl
  simp[di,b9,b8,hc1]
 have hie:i=m.length:=by omega
 subst hie
 have hc:sW m s m.length=natV m*2^s/4294967296^m.length:=by unfold sW;rw[List.take_length]
 have hd:sW m s m.length%4294967296=sW m s m.length:=Nat.mod_eq_of_lt (by omega)
 have e3:IntKind.u32.wrap ((sW m s m.length:Nat):Int)=((natV m*2^s/4294967296^m.length%4294967296:Nat):Int):=by rw[q9,hc]
 have hz:m.length+1-m.length=0+1:=by omega
 have hg:=p8 (dE m.length (natV m*2^s)) 0
 have hset:=ol (dE m.length (natV m*2^s)) 0 (natV m*2^s/4294967296^m.length%4294967296)
 rw[dA]at hg hset
 rw[<- uD,List.replicate_zero,List.append_nil]at hset
 rw[hz]
 clear hc hd
 generalize dE (m.length+1) (natV m*2^s)=R at*
 generalize dE m.length (natV m*2^s)=P0 at*
 generalize natV m*2^s/4294967296^m.length%4294967296=dg at*
 generalize sW m s m.length=c0 at*
 (refine aL [] fun K hK=>?_;simp(disch:=omega) only[kc,aM,de,Hm,aU,aO,aR,aX,aS,cp];apply hK)
 refine aP (bL rfl (ck ?_))
 show da _ _ _ _
 (refine aL [] fun K hK=>?_;simp(disch:=omega) only[kc,aM,aa,be,aZ,aV,bE,ct,aU,Tryz.underlying78,dI,e3,aQ,aW,cg,cQ,bo,ew,cU,dp,fU,hg,cellsOf,ai,isPure,bu,ff,hset,bz,bx];apply hK)
 (refine aL [] fun K hK=>?_;simp(disch:=omega) only[kc,aM];apply hK)
 refine bC ⟨.inr rfl,_,eg.refl _,?_⟩
 refine⟨.one (.sl 12 0 0 (m.length+1)),12,?_,rfl,?_,rfl⟩
 ·simp(disch:=omega) only[cH,Tryz.results179,bH,ah,ag]
 show _=[_]
 simp[renO,pR]
def De (l:List Nat) (b i:Nat):List Nat:=l.take i++dE (l.length-i) (natV (l.drop i)/b)
theorem Iz (l:List Nat) (b:Nat) {i:Nat} (h:i<=l.length):(De l b i).length=l.length:=by simp[De,dA];omega
theorem qE (l:List Nat) (b:Nat) (ll:Lmb l) (hb:0<b) (hb':b<4294967296) (hl:0<l.length) (bl:l.length<=536870912):
  oA Tryz.prog 177 [.undef,.raw (.int .u32 (b:Int))] 0 0 l.length ⟨79,1,lc fU l⟩ ⟨79,1,lc fU (dE l.length (natV l/b))⟩ (.raw (.int .u32 ((natV l%b:Nat):Int))):=by
 refine oJ Tryz.func177 rfl (by kernel_rfl) (by simp) hl (by simp[lc]) (fc _ _) rfl (by simp[lc,dA]) (fc _ _) rfl ?_
 rw[Tryz.ntmps177]
 (refine cn [] [] (by kernel_rfl) (by simp) fun K hK=>?_;simp(disch:=omega) only[kc,aM,aa,aj,aN,ab];apply hK)
 (refine cn [] [] (by kernel_rfl) (by simp) fun K hK=>?_;simp(disch:=omega) only[kc,aM,aN,ab];apply hK)
 have e0:(l.length:Int)-1=(l.length:Int)-1:=rfl
 (refine dw (cn [] [] (by kernel_rfl) (by simp) fun K hK=>?_);simp(disch:=omega) only[kc,aM,aa,be,aZ,aV,aU,aO,aR,aX,aN,ab,aS,cd];apply hK)
 refine iB (G:=ov l.length) (fun g=>⟨[.one (.sl 0 0 0 l.length),.raw (.int .u32 (b:Int)),jk,jk,jk,.raw (.int .u64 ((natV (l.drop g.i)%b:Nat):Int)),.raw (.int .i64 ((g.i:Int)-1)),jk,jk,jk,jk,jk,jk,jk,jk,jk,jk,jk,jk,jk,jk,jk,jk,jk,jk,jk,jk,jk,jk,jk,jk,jk,jk,jk,jk,jk],Hm [(0,[⟨79,1,lc fU (De l b g.i)⟩])]⟩) (fun g=>g.i) ⟨l.length,by omega⟩ ?_ ?_
 ·refine aT ⟨?_,trivial⟩ ?_
  ·simp[De,dE,famH]
  simp[di,b9,b8,natV]
 rintro⟨i,hi⟩
 simp only
 by_cases h0:0<i
 ·obtain⟨j,rfl⟩: ∃j,i=j+1:=⟨i-1,by omega⟩
  obtain⟨a,ha⟩:=getElem?_of_lt (l:=l) (k:=j) (by omega)
  have ha':=dY ll ha
  have ej:((j+1:Nat):Int)-1=(j:Int):=by omega
  obtain⟨q1,q2⟩:=IA (b:=b) rfl (show j<l.length by omega) ha ha' hb
  have hlen:=Iz l b hi
  have hget:(De l b (j+1))[j]?=some a:=by
   unfold De
   rw[List.getElem?_append_left (by simp;omega),List.getElem?_take,if_pos (by omega),ha]
  change (De l b (j+1)).set j _=De l b j at q1
  have hr:=Nat.mod_lt (natV (l.drop (j+1))) hb
  generalize natV (l.drop (j+1))%b=r at*
  obtain⟨r',hr'⟩: ∃r',r'=natV (l.drop j)%b:=⟨_,rfl⟩
  rw[<- hr']at q2
  have hcast:((natV (l.drop j):Nat):Int)%(b:Int)=(r':Int):=by rw[hr'];simp
  have e1:=ta (a:=r) (s:=32) (by omega) (by omega)
  have e2:=vX (r*2^32) a (by omega) (by omega)
  rw[pU r a 32 (by omega),show r*2^32+a=r*4294967296+a from rfl]at e2
  have e3:Int.tdiv ((r*4294967296+a:Nat):Int) (b:Int)=(((r*4294967296+a)/b:Nat):Int):=(Int.ofNat_tdiv _ _).symm
  have e4:Int.tmod ((r*4294967296+a:Nat):Int) (b:Int)=(r':Int):=by rw[<- q2];exact(Int.ofNat_tmod _ _).symm
  have hq:(r*4294967296+a)/b<4294967296:=by
   rw[Nat.div_lt_iff_lt_mul hb]
   have:(r+1)*4294967296<=b*4294967296:=Nat.mul_le_mul_right _ (by omega)
   omega
  generalize(r*4294967296+a)/b=qd at*
  have e5:IntKind.u64.wrap (qd:Int)=(qd:Int):=by rw[IntKind.wrap_u64];omega
  have e6:IntKind.u32.wrap (qd:Int)=(qd:Int):=by rw[IntKind.wrap_u32];omega
  generalize De l b (j+1)=S at*
  obtain⟨S',hS'⟩: ∃S',S'=De l b j:=⟨_,rfl⟩
  rw[<- hS']at q1
  (refine dw (cn [] [] (by kernel_rfl) (by simp) fun K hK=>?_);simp(disch:=omega) only[kc,aM,ej,Hm,aU,aO,aR,aX,aN,ab,aS,ax,cw];apply hK)
  refine iq rfl (fC ?_)
  refine dw (f7 ?_)
  (refine cn [] [] (by kernel_rfl) (by simp) fun K hK=>?_;simp(disch:=omega) only[kc,aM,aa,aU,aO,aR,aX,aN,ab,aS,Int.reduceLE,aw,e1,aQ,aZ,aW,aV,cg,cQ,dp,fU,hget,packT,cW,ct,Tryz.underlying79,dn,eG,e2];apply hK)
  (refine cn [] [] (by kernel_rfl) (by simp) fun K hK=>?_;simp(disch:=omega) only[kc,aM,aa,ct,aU,Tryz.underlying79,dn,eG,aO,aR,aX,aS,e3,e5,cQ,Tryz.underlying78,dI,e6,aQ,aZ,aW,aV,cg,bo,ew,cU,dp,fU,hget,cellsOf,ai,isPure,bu,ff,q1,bz,bx];apply hK)
  ((refine fB [] [] (by kernel_rfl) (by simp) fun K hK=>?_);simp(disch:=omega) only[kc,aM,aa,ct,aU,Tryz.underlying79,dn,eG,aO,aR,aX,aS,e4,cQ];apply hK)
  show gZ _ _ _ _ _
  ((refine fB [] [] (by kernel_rfl) (by simp) fun K hK=>?_);simp(disch:=omega) only[kc,aM,aa,aU,aO,aR,aX,aN,ab,aS,cd];apply hK)
  refine⟨⟨j,by omega⟩,by simp only;omega,aT ⟨?_,trivial⟩ ?_⟩
  ·show _=[(⟨_,_,lc fU (De l b j)⟩:OObj)]
   rw[<- hS'];rfl
  simp[di,b9,b8,hcast]
 have hi0:i=0:=by omega
 subst hi0
 have hr:natV l%b<4294967296:=Nat.lt_trans (Nat.mod_lt _ hb) hb'
 have hS:De l b 0=dE l.length (natV l/b):=by simp[De]
 rw[hS,List.drop_zero]
 generalize natV l%b=r at*
 generalize dE l.length (natV l/b)=S at*
 have e6:IntKind.u32.wrap (r:Int)=(r:Int):=by rw[IntKind.wrap_u32];omega
 (refine dw (cn [] [] (by kernel_rfl) (by simp) fun K hK=>?_);simp(disch:=omega) only[kc,aM,Hm,aU,aO,aR,aX,aN,ab,aS,cp];apply hK)
 refine gV rfl (gf ?_)
 show gZ _ _ _ _ _
 (refine cn [] [] (by kernel_rfl) (by simp) fun K hK=>?_;simp(disch:=omega) only[kc,aM,aa,ct,aU,Tryz.underlying78,dI,e6];apply hK)
 refine m7 ⟨.inr rfl,_,eg.refl _,rfl,lV _,?_⟩
 simp(disch:=omega) only[cH,Tryz.results177,bH,ah,ag]
def yj (l:List Nat) (s i:Nat):List Nat:=(dE l.length (natV l/2^s)).take i++l.drop i
theorem IK (l:List Nat) (s:Nat) {i:Nat} (h:i<=l.length):(yj l s i).length=l.length:=by simp[yj,dA];omega
theorem BD {l:List Nat} {s i j a:Nat} (hi:i<=j) (h:l[j]?=some a):(yj l s i)[j]?=some a:=by
 have hj:=(List.getElem?_eq_some_iff.1 h).1
 unfold yj
 have e:((dE l.length (natV l/2^s)).take i).length=i:=by simp[dA];omega
 rw[aB (by omega),e,List.getElem?_drop,show i+(j-i)=j by omega,h]
theorem tu (l:List Nat) (s:Nat) (ll:Lmb l) (hs:s<32) (hl:0<l.length) (bl:l.length<=536870912):
  oA Tryz.prog 181 [.undef,.raw (.int .i64 (s:Int))] 0 0 l.length ⟨79,1,lc fU l⟩ ⟨79,1,lc fU (dE l.length (natV l/2^s))⟩ (.tup []):=by
 refine oJ Tryz.func181 rfl (by kernel_rfl) (by simp) hl (by simp[lc]) (fc _ _) rfl (by simp[lc,dA]) (fc _ _) rfl ?_
 rw[Tryz.ntmps181]
 (refine cn [] [] (by kernel_rfl) (by simp) fun K hK=>?_;simp(disch:=omega) only[kc,aM,aa,aj,be,aZ,aV,aN,ab];apply hK)
 refine iB (G:=ov l.length) (fun g=>⟨[.one (.sl 0 0 0 l.length),.raw (.int .i64 (s:Int)),jk,jk,jk,jk,jk,.raw (.int .i64 (l.length:Int)),.raw (.int .i64 (g.i:Int)),jk,jk,jk,jk,jk,jk,jk,jk,jk,jk,jk,jk,jk,jk,jk,jk,jk,jk,jk,jk,jk,jk,jk,jk,jk,jk,jk,jk,jk],Hm [(0,[⟨79,1,lc fU (yj l s g.i)⟩])]⟩) (fun g=>l.length-g.i) ⟨0,by omega⟩ ?_ ?_
 ·refine aT ⟨?_,trivial⟩ ?_
  ·simp[yj,famH]
  simp[di,b9,b8]
 rintro⟨i,hi⟩
 simp only
 have hlen:=IK l s hi
 by_cases hm:i<l.length
 ·obtain⟨a,ha⟩:=getElem?_of_lt hm
  have ha':=dY ll ha
  have hget:=BD (s:=s) (ai i) ha
  have hga:l.getD i 0=a:=by rw[List.getD_eq_getElem?_getD,ha];rfl
  have ei:(i:Int)+1=((i+1:Nat):Int):=by omega
  obtain⟨S',hS'⟩: ∃S',S'=yj l s (i+1):=⟨_,rfl⟩
  by_cases hm2:i+1<l.length
  ·obtain⟨b,hb⟩:=getElem?_of_lt hm2
   have hb':=dY ll hb
   have hget2:=BD (s:=s) (show i<=i+1 by omega) hb
   have hgb:l.getD (i+1) 0=b:=by rw[List.getD_eq_getElem?_getD,hb];rfl
   have hset:=BE (v:=(b*4294967296+a)/2^s%4294967296) ll (show s<=32 by omega) rfl hm (by rw[hga,hgb,Nat.add_comm,Nat.mul_comm])
   change (yj l s i).set i _=yj l s (i+1)at hset
   rw[<- hS']at hset
   have e1:=ta (a:=b) (s:=32) (by omega) (by omega)
   have e2:=vX a (b*2^32) (by omega) (by omega)
   rw[qN b a 32 (by omega),show b*2^32+a=b*4294967296+a from rfl]at e2
   have e3:=Af (a:=b*4294967296+a) (s:=s) (by omega)
   have e4:=q9 ((b*4294967296+a)/2^s)
   generalize(b*4294967296+a)/2^s=qd at*
   generalize yj l s i=S at*
   (refine cn [] [] (by kernel_rfl) (by simp) fun K hK=>?_;simp(disch:=omega) only[kc,aM,Hm,aU,aO,aR,aX,aS,cw];apply hK)
   refine dw (iq rfl (fC ?_))
   refine dw (f7 ?_)
   (refine cn [] [] (by kernel_rfl) (by simp) fun K hK=>?_;simp(disch:=omega) only[kc,aM];apply hK)
   (refine cn [] [] (by kernel_rfl) (by simp) fun K hK=>?_;simp(disch:=omega) only[kc,aM,aa,aQ,aZ,aW,aV,cg,cQ,dp,fU,hget,packT,cW,ct,aU,Tryz.underlying79,dn,eG];apply hK)
   (refine dw (cn [] [] (by kernel_rfl) (by simp) fun K hK=>?_);simp(disch:=omega) only[kc,aM,aa,aU,aO,aR,aX,aN,ab,aS,ei,cd,be,aZ,aV,cw];apply hK)
   refine iq rfl ?_
   ((refine fB [] [] (by kernel_rfl) (by simp) fun K hK=>?_);simp(disch:=omega) only[kc,aM,aa,aU,aO,aR,aX,aN,ab,aS,ei,cd,aQ,aZ,aW,aV,cg,cQ,dp,fU,hget2,packT,cW,ct,Tryz.underlying79,dn,eG,Int.reduceLE,aw,e1,e2];apply hK)
   show gZ _ _ _ _ _
   ((refine fB [] [] (by kernel_rfl) (by simp) fun K hK=>?_);simp(disch:=omega) only[kc,aM,aa,aU,aO,aR,aX,aS,ax,e3,ct,Tryz.underlying78,dI,e4,aQ,aZ,aW,aV,cg,cQ,bo,ew,cU,dp,fU,hget,cellsOf,ai,isPure,bu,ff,hset,bz,bx];apply hK)
   show gZ _ _ _ _ _
   ((refine fB [] [] (by kernel_rfl) (by simp) fun K hK=>?_);simp(disch:=omega) only[kc,aM,aU,aO,aR,aX,aN,ab,aS,cd];apply hK)
   refine⟨⟨i+1,by omega⟩,by simp only;omega,aT ⟨?_,trivial⟩ ?_⟩
   ·show _=[(⟨_,_,lc fU (yj l s (i+1))⟩:OObj)]
    rw[<- hS'];rfl
   simp[di,b9,b8]
  have hgb:l.getD (i+1) 0=0:=by rw[List.getD_eq_getElem?_getD,aC (by omega)];rfl
  have hset:=BE (v:=a/2^s%4294967296) ll (show s<=32 by omega) rfl hm (by rw[hga,hgb];rfl)
  change (yj l s i).set i _=yj l s (i+1)at hset
  rw[<- hS']at hset
  have e3:=Af (a:=a) (s:=s) (by omega)
  have e4:=q9 (a/2^s)
  generalize a/2^s=qd at*
  generalize yj l s i=S at*
  (refine cn [] [] (by kernel_rfl) (by simp) fun K hK=>?_;simp(disch:=omega) only[kc,aM,Hm,aU,aO,aR,aX,aS,cw];apply hK)
  refine dw (iq rfl (fC ?_))
  refine dw (f7 ?_)
  (refine cn [] [] (by kernel_rfl) (by simp) fun K hK=>?_;simp(disch:=omega) only[kc,aM];apply hK)
  (refine cn [] [] (by kernel_rfl) (by simp) fun K hK=>?_;simp(disch:=omega) only[kc,aM,aa,aQ,aZ,aW,aV,cg,cQ,dp,fU,hget,packT,cW,ct,aU,Tryz.underlying79,dn,eG];apply hK)
  (refine dw (cn [] [] (by kernel_rfl) (by simp) fun K hK=>?_);simp(disch:=omega) only[kc,aM,aa,aU,aO,aR,aX,aN,ab,aS,ei,cd,be,aZ,aV,cp];apply hK)
  refine gV rfl (fC ?_)
  show gZ _ _ _ _ _
  ((refine fB [] [] (by kernel_rfl) (by simp) fun K hK=>?_);simp(disch:=omega) only[kc,aM,aa,aU,aO,aR,aX,aS,ax,e3,ct,Tryz.underlying78,dI,e4,aQ,aZ,aW,aV,cg,cQ,bo,ew,cU,dp,fU,hget,cellsOf,ai,isPure,bu,ff,hset,bz,bx];apply hK)
  show gZ _ _ _ _ _
  ((refine fB [] [] (by kernel_rfl) (by simp) fun K hK=>?_);simp(disch:=omega) only[kc,aM,aU,aO,aR,aX,aN,ab,aS,cd];apply hK)
  refine⟨⟨i+1,by omega⟩,by simp only;omega,aT ⟨?_,trivial⟩ ?_⟩
  ·show _=[(⟨_,_,lc fU (yj l s (i+1))⟩:OObj)]
   rw[<- hS'];rfl
  simp[di,b9,b8]
 have hie:i=l.length:=by omega
 subst hie
 have hS:yj l s l.length=dE l.length (natV l/2^s):=by
  unfold yj
  rw[List.drop_length,List.append_nil,List.take_of_length_le (by rw[dA];exact ai _)]
 rw[hS]
 generalize dE l.length (natV l/2^s)=S at*
 (refine cn [] [] (by kernel_rfl) (by simp) fun K hK=>?_;simp(disch:=omega) only[kc,aM,Hm,aU,aO,aR,aX,aS,cp];apply hK)
 refine dw (gV rfl (gf ?_))
 refine⟨.inl rfl,_,eg.refl _,rfl,lV _,?_⟩
 simp(disch:=omega) only[cH,Tryz.results181,eP,Option.map_some]
section
theorem CT {l:List Nat} {n x y:Nat} (hn:l.length=n+2) (hx:l[n+1]?=some x) (hy:l[n]?=some y):natV l=(x*4294967296+y)*4294967296^n+natV (l.take n):=by
 have h1:=dq hx
 have h2:=dq hy
 rw[List.take_of_length_le (by omega)]at h1
 rw[h1,h2,Nat.pow_succ];grind
theorem CU {l:List Nat} {n x y z:Nat} (hn:l.length=n+3) (hx:l[n+2]?=some x) (hy:l[n+1]?=some y) (hz:l[n]?=some z):natV l=((x*4294967296+y)*4294967296+z)*4294967296^n+natV (l.take n):=by
 have h1:=dq hx
 have h2:=dq hy
 have h3:=dq hz
 rw[List.take_of_length_le (by omega)]at h1
 rw[h1,h2,h3,Nat.pow_succ,Nat.pow_succ];grind
structure td (u v:List Nat) (n v1 v2 u2 u1 u0:Nat):Prop where
 lu:Lmb u
 lv:Lmb v
 nu:u.length=n+3
 nv:v.length=n+2
 hv1:v[n+1]?=some v1
 hv2:v[n]?=some v2
 hu2:u[n+2]?=some u2
 hu1:u[n+1]?=some u1
 hu0:u[n]?=some u0
 top:2147483648<=v1
 lt:natV u<natV v*4294967296
section
variable {u v:List Nat} {n v1 v2 u2 u1 u0:Nat} (h:td u v n v1 v2 u2 u1 u0)
include h
theorem td.vpos:0<natV v:=by
 have:=h.lt
 by_cases hv:natV v=0
 ·rw[hv]at this;omega
 omega
theorem td.bv1:v1<4294967296:=dY h.lv h.hv1
theorem td.bv2:v2<4294967296:=dY h.lv h.hv2
theorem td.bu2:u2<4294967296:=dY h.lu h.hu2
theorem td.bu1:u1<4294967296:=dY h.lu h.hu1
theorem td.bu0:u0<4294967296:=dY h.lu h.hu0
theorem td.eV:natV v=(v1*4294967296+v2)*4294967296^n+natV (v.take n):=CT h.nv h.hv1 h.hv2
theorem td.eU:natV u=((u2*4294967296+u1)*4294967296+u0)*4294967296^n+natV (u.take n):=CU h.nu h.hu2 h.hu1 h.hu0
theorem td.vl:natV (v.take n)<4294967296^n:=gK h.lv n
theorem td.ul:natV (u.take n)<4294967296^n:=gK h.lu n
theorem td.q_lt:natV u/natV v<4294967296:=by
 rw[Nat.div_lt_iff_lt_mul h.vpos,Nat.mul_comm];exact h.lt
theorem td.u2_le : u2 <= v1 := by
  have e1 := h.eV
  have e2 := h.eU
  have h1 := h.lt
  have h2 := h.vl
  have h3 := h.bv2
  have hL : 0 < 4294967296 ^ n := Nat.pow_pos (by omega)
  generalize 4294967296 ^ n = L at *
  by_cases hc : u2 <= v1
  · exact hc
  · exfalso
    have h4 : (v1 + 1) * 4294967296 * 4294967296 * L <= natV u := by
      rw [e2]
      have : (v1 + 1) * 4294967296 * 4294967296 * L <= ((u2 * 4294967296 + u1) * 4294967296 + u0) * L := Nat.mul_le_mul_right _ (Nat.le_trans (Nat.mul_le_mul_right _ (Nat.le_trans (Nat.mul_le_mul_right _ (show v1 + 1 <= u2 by omega)) (Nat.le_add_right _ _))) (Nat.le_add_right _ _))
      exact Nat.le_trans this (Nat.le_add_right _ _)
    have h5 : natV v * 4294967296 <= (v1 + 1) * 4294967296 * 4294967296 * L := by
      have h6 : natV v <= (v1 + 1) * 4294967296 * L := by
        rw [e1]
        have : (v1 * 4294967296 + v2) * L + L <= (v1 + 1) * 4294967296 * L := by
          have := Nat.mul_le_mul_right L (show v1 * 4294967296 + v2 + 1 <= (v1 + 1) * 4294967296 by omega)
          rw [Nat.add_mul (v1 * 4294967296 + v2) 1 L, Nat.one_mul] at this
          exact this
        omega
      calc natV v * 4294967296 <= (v1 + 1) * 4294967296 * L * 4294967296 := Nat.mul_le_mul_right _ h6
        _ = _ := by grind
    omega
structure KX (u v:List Nat) (v1 high:Nat) where
 g:Nat
 r:Nat
 eq:g*v1+r=high
 ge:natV u/natV v<=g
 le:g<=4294967297
 hr:r<4294967296
omit h in
theorem Cp {a b c:Nat} (hb:0<b) (h:a<(c+1)*b):a/b<=c:=by
 have:=(Nat.div_lt_iff_lt_mul hb).2 h
 omega
theorem td.first: ∃k:KX u v v1 (u2*4294967296+u1),k.g=(u2*4294967296+u1)/v1/\k.r=(u2*4294967296+u1)%v1:=by
 have ht:=h.top
 have hb1:=h.bv1
 have hm:=Nat.mod_lt (u2*4294967296+u1) (show 0<v1 by omega)
 have hd:=Nat.div_add_mod (u2*4294967296+u1) v1
 have hle:=h.u2_le
 have hu1:=h.bu1
 have hL:0<4294967296^n:=Nat.pow_pos (by omega)
 refine⟨⟨(u2*4294967296+u1)/v1,(u2*4294967296+u1)%v1,by rw[Nat.mul_comm];exact hd,?_,?_,by omega⟩,rfl,rfl⟩
 ·rw[Nat.le_div_iff_mul_le (by omega)]
  have e1:=h.eV
  have e2:=h.eU
  have h1:=h.ul
  have h2:=h.bu0
  refine Le (U:=natV u) (V:=natV v) (L:=4294967296^n) ?_ ?_ (Nat.div_mul_le_self _ _) hL
  ·rw[e1]
   have:v1*4294967296*4294967296^n<=(v1*4294967296+v2)*4294967296^n:=Nat.mul_le_mul_right _ (by omega)
   omega
  rw[e2]
  have:((u2*4294967296+u1)*4294967296+u0)*4294967296^n+4294967296^n<=(u2*4294967296+u1+1)*4294967296*4294967296^n:=by
   have:=Nat.mul_le_mul_right (4294967296^n) (show(u2*4294967296+u1)*4294967296+u0+1<=(u2*4294967296+u1+1)*4294967296 by omega)
   rw[Nat.add_mul ((u2*4294967296+u1)*4294967296+u0) 1,Nat.one_mul]at this
   exact this
  omega
 refine Cp (by omega) ?_
 have:u2*4294967296<=v1*4294967296:=Nat.mul_le_mul_right _ hle
 have e:(4294967297+1)*v1=v1*4294967296+2*v1:=by omega
 omega
theorem td.down (k:KX u v v1 (u2*4294967296+u1)) (hc:4294967296<=k.g\/k.r*4294967296+u0<k.g*v2):natV u/natV v<k.g:=by
 rcases hc with hc|hc
 ·have:=h.q_lt;omega
 have e1:=h.eV
 have e2:=h.eU
 have h1:=h.ul
 refine Ld (U:=natV u) (V:=natV v) (L:=4294967296^n) (high:=u2*4294967296+u1) ?_ ?_ (Nat.div_mul_le_self _ _) k.eq hc
 ·rw[e1];omega
 rw[e2,Nat.add_mul ((u2*4294967296+u1)*4294967296+u0) 1,Nat.one_mul];omega
theorem td.near {g r:Nat} (heq:g*v1+r=u2*4294967296+u1) (hB:g<=4294967296) (hc:g*v2<=r*4294967296+u0):g<=natV u/natV v+1:=by
 have e1:=h.eV
 have e2:=h.eU
 have ht:=h.top
 refine Hx (U:=natV u) (t3:=(u2*4294967296+u1)*4294967296+u0) e1 h.vl ?_ ?_ ?_ hB (by omega)
 ·rw[e2];omega
 ·have:=Nat.lt_div_mul_add (a:=natV u) h.vpos
  rw[Nat.add_mul,Nat.one_mul];omega
 rw[<- heq]
 have e:g*(v1*4294967296+v2)=g*v1*4294967296+g*v2:=by grind
 have e':(g*v1+r)*4294967296=g*v1*4294967296+r*4294967296:=by grind
 omega
theorem td.vlt:natV v<=4294967296^(n+2):=Nat.le_of_lt (by have:=ik h.lv;rw[h.nv]at this;exact this)
theorem td.right {g:Nat} (m:Gu u v g) (hi:m.i=n+2) (hge:natV u/natV v<=g) (hno:m.c+m.b<=u2):g=natV u/natV v/\m.us++[u2-(m.c+m.b)]=dE (n+3) (natV u%natV v):=by
 have hv:=m.val
 rw[hi,List.take_of_length_le (by rw[h.nv];exact ai _)]at hv
 have hU:=dq h.hu2
 rw[List.take_of_length_le (by rw[h.nu];exact ai _)]at hU
 have hml:m.us.length=n+2:=by rw[m.len,hi]
 have e:natV (m.us++[u2-(m.c+m.b)])+g*natV v=natV u:=by
  rw[ns,hml,hU]
  have:(u2-(m.c+m.b))*4294967296^(n+2)+(m.c+m.b)*4294967296^(n+2)=u2*4294967296^(n+2):=by
   rw[<- Nat.add_mul,Nat.sub_add_cancel hno]
  omega
 obtain⟨q1,q2⟩:=EC rfl hge e h.vpos
 refine⟨q1,xh (mJ m.lmb ?_) (by simp[hml]) q2⟩
 have:=h.bu2
 omega
theorem td.left {g t:Nat} (m:Gu u v g) (hi:m.i=n+2) (hle:g<=natV u/natV v+1) (hyes:u2<m.c+m.b) (ht:t=u2+4294967296-(m.c+m.b)) (a:Gz (m.us++[t]) v) (hai:a.i=n+2):
  g=natV u/natV v+1/\a.us++[(t+a.c)%4294967296]=dE (n+3) (natV u%natV v):=by
 have hv:=m.val
 rw[hi,List.take_of_length_le (by rw[h.nv];exact ai _)]at hv
 have hU:=dq h.hu2
 rw[List.take_of_length_le (by rw[h.nu];exact ai _)]at hU
 have hml:m.us.length=n+2:=by rw[m.len,hi]
 have hbu:=h.bu2
 have hmc:=m.hc
 have hmb:=m.hb
 have hav:=a.val
 have e0:(m.us++[t]).take (n+2)=m.us:=by rw[List.take_append_of_le_length (by omega),List.take_of_length_le (by omega)]
 rw[hai,e0,List.take_of_length_le (by rw[h.nv];exact ai _)]at hav
 have hW:=ik a.lmb
 rw[a.len,hai]at hW
 have e:natV m.us+t*4294967296^(n+2)+g*natV v=natV u+4294967296*4294967296^(n+2):=by
  rw[hU]
  have:t*4294967296^(n+2)+(m.c+m.b)*4294967296^(n+2)=(u2+4294967296)*4294967296^(n+2):=by
   rw[<- Nat.add_mul,ht,Nat.sub_add_cancel (by omega)]
  rw[Nat.add_mul u2]at this
  omega
 have hlt:natV u<g*natV v:=by
  have h1:=ik m.lmb
  rw[hml]at h1
  have h2:(u2+1)*4294967296^(n+2)<=(m.c+m.b)*4294967296^(n+2):=Nat.mul_le_mul_right _ (by omega)
  rw[Nat.add_mul u2 1,Nat.one_mul]at h2
  omega
 obtain⟨q1,q2,q3⟩:=Hw (T:=natV m.us) (t:=t) (c:=a.c) (W:=natV a.us) (Bn:=4294967296^(n+2)) rfl hle e hlt h.vpos h.vlt hW rfl hav a.hc (by omega)
 refine⟨q1,xh (mJ a.lmb (Nat.mod_lt _ (by omega))) (by simp[a.len,hai]) ?_⟩
 rw[ns,q2,q3];simp
end
end
theorem ma {pre u post:List Nat} {off i x:Nat} (hp:pre.length=off) (h:u[i]?=some x):(pre++(u++post))[off+i]?=some x:=by
 have hi:=(List.getElem?_eq_some_iff.1 h).1
 rw[aB (by omega),hp,Nat.add_sub_cancel_left,List.getElem?_append_left hi,h]
theorem qV {pre u post:List Nat} {off i:Nat} (v:Nat) (hp:pre.length=off) (hi:i<u.length):(pre++(u++post)).set (off+i) v=pre++(u.set i v++post):=by
 rw[List.set_append_right _ _ (by omega),hp,Nat.add_sub_cancel_left,List.set_append_left _ _ hi]
theorem qX {us u:List Nat} {i:Nat} (v:Nat) (hus:us.length=i) (hi:i<u.length):(us++u.drop i).set i v=(us++[v])++u.drop (i+1):=by
 have hd:u.drop i=u[i]::u.drop (i+1):=List.drop_eq_getElem_cons hi
 rw[hd,List.set_append_right _ _ (by omega),hus,Nat.sub_self,List.set_cons_zero,List.append_assoc];rfl
theorem we {us u:List Nat} {i x:Nat} (hus:us.length=i) (hx:u[i]?=some x):(us++u.drop i)[i]?=some x:=by
 rw[aB (by omega),hus,Nat.sub_self,List.getElem?_drop,Nat.add_zero,hx]
theorem wh {us u:List Nat} {i:Nat} (hus:us.length=i) (hi:i<=u.length):(us++u.drop i).length=u.length:=by
 rw[List.length_append,hus,List.length_drop];omega
theorem DJ {P:Program} {k:Nat} {c z:Code} {Q:Exit->AS->Prop} {s:AS} (S:Nat->AS) (p:Nat->Prop) (h1:gZ P k c (mq (fun s'=> ∃g,p g/\eg s' (S g)) Q) s) (h2: ∀g,p g->gZ P k z Q (S g)):gZ P k c (mq (gZ P k z Q) Q) s:=h1.mono fun e s' h=>by
 cases e with
 |normal=>obtain⟨g,hp,hw⟩:=h;exact(h2 g hp).weak hw
 |_=>exact h
theorem L6 (y lo b:Nat) (hy:y<4294967296) (hlo:lo<4294967296) (hb:b<=1):IntKind.u32.wrap (IntKind.u64.wrap (IntKind.u64.wrap ((y:Int)-(lo:Int))-(b:Int)))=(((y+8589934592-(lo+b))%4294967296:Nat):Int)/\
  Int.fdiv (IntKind.u64.wrap (IntKind.u64.wrap ((y:Int)-(lo:Int))-(b:Int))) (2^(min 63 IntKind.u64.bits))=(((if y<lo+b then 1 else 0):Nat):Int):=by
 constructor
 ·rw[IntKind.wrap_u32,IntKind.wrap_u64,IntKind.wrap_u64];omega
 rw[IntKind.wrap_u64,IntKind.wrap_u64]
 show Int.fdiv _ 9223372036854775808=_
 rw[Int.fdiv_eq_ediv_of_nonneg _ (by omega)]
 split<;>omega
theorem tp (pre u post v:List Nat) (off n v1 v2 u2 u1 u0:Nat) (hp:pre.length=off) (H:td u v n v1 v2 u2 u1 u0) (bR:(pre++(u++post)).length<=536870912):
  oA Tryz.prog 180 [.undef,de v] 0 off (n+3) ⟨79,1,lc fU (pre++(u++post))⟩ ⟨79,1,lc fU (pre++(dE (n+3) (natV u%natV v)++post))⟩ (.raw (.int .u32 ((natV u/natV v:Nat):Int))):=by
 have nu:=H.nu
 have nv:=H.nv
 have hv1:=H.hv1
 have hv2:=H.hv2
 have bv1:=H.bv1
 have bv2:=H.bv2
 have bu2:=H.bu2
 have bu1:=H.bu1
 have bu0:=H.bu0
 have top:=H.top
 have hqlt:=H.q_lt
 have hRl:(pre++(u++post)).length=off+(n+3)+post.length:=by simp[hp,nu];omega
 have gu2:=ma (post:=post) hp H.hu2
 have gu1:=ma (post:=post) hp H.hu1
 have gu0:=ma (post:=post) hp H.hu0
 refine oJ Tryz.func180 rfl (by kernel_rfl) (by simp) (by omega) (by simp[lc]at hRl⊢;omega) (fc _ _) rfl (by simp[lc,dA,nu]) (fc _ _) rfl ?_
 rw[Tryz.ntmps180]
 have e2:((n+2:Nat):Int)-1=((n+1:Nat):Int):=by omega
 have e3:((n+2:Nat):Int)-2=((n:Nat):Int):=by omega
 (refine cn [] [] (by kernel_rfl) (by simp) fun K hK=>?_;simp(disch:=omega) only[kc,aM,de,aa,aj,aN,ab];apply hK)
 (refine cn [] [] (by kernel_rfl) (by simp) fun K hK=>?_;simp(disch:=omega) only[kc,aM,aa,be,aZ,aV,bE,nv];apply hK)
 have a1:=ta (a:=u2) (s:=32) (by omega) (by omega)
 have a2:=vX (u2*2^32) u1 (by omega) (by omega)
 rw[pU u2 u1 32 (by omega),show u2*2^32+u1=u2*4294967296+u1 from rfl]at a2
 obtain⟨high,hhigh⟩: ∃high,high=u2*4294967296+u1:=⟨_,rfl⟩
 rw[<- hhigh]at a2
 obtain⟨k0,hk1,hk2⟩: ∃k:KX u v v1 high,k.g=high/v1/\k.r=high%v1:=by rw[hhigh];exact H.first
 have hk3:=k0.le
 have a3:Int.tdiv (high:Int) (v1:Int)=(k0.g:Int):=by rw[hk1];exact(Int.ofNat_tdiv _ _).symm
 have a4:Int.tmod (high:Int) (v1:Int)=(k0.r:Int):=by rw[hk2];exact(Int.ofNat_tmod _ _).symm
 generalize hR:pre++(u++post)=R at*
 (refine gQ cJ [] [] (by kernel_rfl) (by kernel_rfl) (by simp) fun K hK=>?_;simp(disch:=omega) only[kc,aM,aa,aQ,aZ,aW,aV,famH,cg,cQ,dp,fU,gu2,packT,cW,ct,aU,Tryz.underlying79,dn,eG,aO,aR,aX,aN,ab,aS,Int.reduceLE,aw,a1,e2,cd,gu1,a2];apply hK)
 (refine gQ cJ [] [] (by kernel_rfl) (by kernel_rfl) (by simp) fun K hK=>?_;simp(disch:=omega) only[kc,aM,aa,aU,aO,aR,aX,aN,ab,aS,e2,cd,aQ,aZ,aW,aV,ch,hv1,fU,cg,packT,cW,ct,Tryz.underlying79,dn,eG,a3,cQ,a4];apply hK)
 refine dw (DJ (fun g=>⟨[.one (.sl 0 0 off (n+3)),de v,jk,jk,jk,.raw (.int .i64 ((n+2:Nat):Int)),jk,.raw (.int .u64 (g:Int)),jk,jk,jk,jk,jk,jk,jk,jk,jk,jk,jk,jk,jk,jk,jk,jk,jk,jk,jk,jk,jk,jk,jk,jk,jk,jk,jk,jk,jk,jk,jk,jk,jk,jk,jk,jk,jk,jk,jk,jk,jk,jk,jk,jk,jk,jk,jk,jk,jk,jk,jk,jk,jk,jk,jk,jk,jk,jk,jk,jk,jk,jk,jk,jk,jk,jk,jk,jk,jk,jk,jk,jk,jk,jk,jk,jk,jk,jk,jk,jk,jk,jk,jk,jk,jk,jk,jk,jk,jk,jk,jk,jk,jk,jk,jk,jk,jk,jk,jk,jk,jk,jk,jk,jk,jk,jk,jk,jk,jk,jk,jk,jk,jk,jk,jk,jk,jk,jk,jk,jk,jk,jk,jk,jk,jk,jk,jk,jk,jk,jk,jk,jk,jk,jk,jk,jk,jk,jk,jk,jk,jk,jk,jk,jk,jk,jk,jk,jk,jk,jk,jk,jk,jk,jk,jk,jk,jk,jk,jk,jk,jk,jk,jk],Hm [(0,[⟨79,1,lc fU R⟩])]⟩) (fun g=>natV u/natV v<=g/\g<=natV u/natV v+1/\g<=4294967296) ?_ ?_)
 ·have H2:=H
  subst hhigh
  refine iB (G:=KX u v v1 (u2*4294967296+u1)) (fun k=>⟨[.one (.sl 0 0 off (n+3)),de v,jk,jk,jk,.raw (.int .i64 ((n+2:Nat):Int)),jk,.raw (.int .u64 (k.g:Int)),.raw (.int .u64 (k.r:Int)),jk,jk,jk,jk,jk,jk,jk,jk,jk,jk,jk,jk,jk,jk,jk,jk,jk,jk,jk,jk,jk,jk,jk,jk,jk,jk,jk,jk,jk,jk,jk,jk,jk,jk,jk,jk,jk,jk,jk,jk,jk,jk,jk,jk,jk,jk,jk,jk,jk,jk,jk,jk,jk,jk,jk,jk,jk,jk,jk,jk,jk,jk,jk,jk,jk,jk,jk,jk,jk,jk,jk,jk,jk,jk,jk,jk,jk,jk,jk,jk,jk,jk,jk,jk,jk,jk,jk,jk,jk,jk,jk,jk,jk,jk,jk,jk,jk,jk,jk,jk,jk,jk,jk,jk,jk,jk,jk,jk,jk,jk,jk,jk,jk,jk,jk,jk,jk,jk,jk,jk,jk,jk,jk,jk,jk,jk,jk,jk,jk,jk,jk,jk,jk,jk,jk,jk,jk,jk,jk,jk,jk,jk,jk,jk,jk,jk,jk,jk,jk,jk,jk,jk,jk,jk,jk,jk,jk,jk,jk,jk,jk,jk],Hm [(0,[⟨79,1,lc fU R⟩])]⟩) (fun k=>k.g) k0 ?_ ?_
  ·refine aT ⟨rfl,trivial⟩ ?_
   simp[di,b9,b8]
  intro k
  have kg:=k.le
  have kr:=k.hr
  have keq:=k.eq
  have kge:=k.ge
  have e5:=Du k.g
  -- the guess goes down
  have down:(4294967296<=k.g\/k.r*4294967296+u0<k.g*v2)->natV u/natV v<k.g:=H2.down k
  have next:natV u/natV v<k.g->k.r+v1<4294967296-> ∃k':KX u v v1 (u2*4294967296+u1),k'.g=k.g-1/\k'.r=k.r+v1:=fun h1 h2=>by
   refine⟨⟨k.g-1,k.r+v1,?_,by omega,by omega,h2⟩,rfl,rfl⟩
   refine Eq.trans ?_ keq
   have:k.g*v1=(k.g-1)*v1+v1:=by
    obtain⟨m,hm⟩: ∃m,k.g=m+1:=⟨k.g-1,(Nat.succ_pred_eq_of_pos (Nat.lt_of_le_of_lt (Nat.zero_le _) h1)).symm⟩
    rw[hm,Nat.add_sub_cancel,Nat.add_mul,Nat.one_mul]
   omega
  have stop:natV u/natV v<k.g->4294967296<=k.r+v1->natV u/natV v<=k.g-1/\k.g-1<=natV u/natV v+1/\k.g-1<=4294967296:=fun h1 h2=>by
   refine⟨by omega,?_,by omega⟩
   refine H2.near (r:=k.r+v1) ?_ (by omega) ?_
   ·refine Eq.trans ?_ keq
    have:k.g*v1=(k.g-1)*v1+v1:=by
     obtain⟨m,hm⟩: ∃m,k.g=m+1:=⟨k.g-1,(Nat.succ_pred_eq_of_pos (Nat.lt_of_le_of_lt (Nat.zero_le _) h1)).symm⟩
     rw[hm,Nat.add_sub_cancel,Nat.add_mul,Nat.one_mul]
    omega
   have h3:(k.g-1)*v2<=4294967296*4294967295:=Nat.mul_le_mul (by omega) (by omega)
   have h4:4294967296*4294967296<=(k.r+v1)*4294967296:=Nat.mul_le_mul_right _ h2
   omega
  have e7:(k.g:Int)-1=((k.g-1:Nat):Int)\/k.g=0:=by omega
  have e8:(k.r:Int)+(v1:Int)=((k.r+v1:Nat):Int):=by omega
  have e9:=Du (k.r+v1)
  by_cases hbig:4294967296<=k.g
  ·have hd:=down (.inl hbig)
   replace e7:=e7.resolve_right (by omega)
   (refine dw (gQ cJ [] [] (by kernel_rfl) (by kernel_rfl) (by simp) fun K hK=>?_);simp(disch:=omega) only[kc,aM,aa,de,Hm,aU,aO,aR,aX,aN,ab,aS,Int.reduceLE,aw,e5,cp,Bool.not_false,bP,reduceCtorEq,cQ,Option.map_none,aQ,aZ,ct,Tryz.underlying79,dn,b7];apply hK)
   refine iq rfl (fC ?_)
   refine f7 ?_
   (refine cn [] [] (by kernel_rfl) (by simp) fun K hK=>?_;simp(disch:=omega) only[kc,aM,aa,aU,aO,aR,aX,aN,ab,aS,e7,eG];apply hK)
   (refine cn [] [] (by kernel_rfl) (by simp) fun K hK=>?_;simp(disch:=omega) only[kc,aM,aa,aU,aO,aR,aX,aN,ab,aS,e2,cd,aQ,aZ,aW,aV,ch,hv1,fU,cg,packT,cW,ct,Tryz.underlying79,dn,eG,e8];apply hK)
   by_cases hover:4294967296<=k.r+v1
   ·(refine cn [] [] (by kernel_rfl) (by simp) fun K hK=>?_;simp(disch:=omega) only[kc,aM,aa,aU,aO,aR,aX,aN,ab,aS,Int.reduceLE,aw,e9,cp,Bool.not_false];apply hK)
    refine iq rfl (gf ?_)
    refine⟨k.g-1,stop hd hover,aT ⟨rfl,trivial⟩ ?_⟩
    simp[di,b9,b8]
   obtain⟨k',q1,q2⟩:=next hd (by omega)
   (refine cn [] [] (by kernel_rfl) (by simp) fun K hK=>?_;simp(disch:=omega) only[kc,aM,aa,aU,aO,aR,aX,aN,ab,aS,Int.reduceLE,aw,e9,cw];apply hK)
   refine gV rfl (fC ?_)
   refine⟨k',by omega,aT ⟨rfl,trivial⟩ ?_⟩
   simp[di,b9,b8,q1,q2]
  have hmul:k.g*v2<=4294967295*4294967295:=Nat.mul_le_mul (by omega) (by omega)
  have e10:(k.g:Int)*(v2:Int)=((k.g*v2:Nat):Int):=by simp
  have e11:=ta (a:=k.r) (s:=32) (by omega) (by omega)
  have e12:=vX (k.r*2^32) u0 (by omega) (by omega)
  rw[pU k.r u0 32 (by omega),show k.r*2^32+u0=k.r*4294967296+u0 from rfl]at e12
  by_cases hc:k.r*4294967296+u0<k.g*v2
  ·have hd:=down (.inr hc)
   replace e7:=e7.resolve_right (fun e=>by rw[e]at hd;exact absurd hd (Nat.not_lt_zero _))
   generalize k.g*v2=gv at*
   (refine dw (gQ cJ [] [] (by kernel_rfl) (by kernel_rfl) (by simp) fun K hK=>?_);simp(disch:=omega) only[kc,aM,aa,de,Hm,aU,aO,aR,aX,aN,ab,aS,Int.reduceLE,aw,e5,cw,bP,cQ,e3,cd,aQ,aZ,aW,aV,ch,hv2,fU,cg,packT,cW,ct,Tryz.underlying79,dn,eG,e10,e11,dp,gu0,e12,b7];apply hK)
   refine iq rfl (fC ?_)
   refine f7 ?_
   (refine cn [] [] (by kernel_rfl) (by simp) fun K hK=>?_;simp(disch:=omega) only[kc,aM,aa,aU,aO,aR,aX,aN,ab,aS,e7,eG];apply hK)
   (refine cn [] [] (by kernel_rfl) (by simp) fun K hK=>?_;simp(disch:=omega) only[kc,aM,aa,aU,aO,aR,aX,aN,ab,aS,e2,cd,aQ,aZ,aW,aV,ch,hv1,fU,cg,packT,cW,ct,Tryz.underlying79,dn,eG,e8];apply hK)
   by_cases hover:4294967296<=k.r+v1
   ·(refine cn [] [] (by kernel_rfl) (by simp) fun K hK=>?_;simp(disch:=omega) only[kc,aM,aa,aU,aO,aR,aX,aN,ab,aS,Int.reduceLE,aw,e9,cp,Bool.not_false];apply hK)
    refine iq rfl (gf ?_)
    refine⟨k.g-1,stop hd hover,aT ⟨rfl,trivial⟩ ?_⟩
    simp[di,b9,b8]
   obtain⟨k',q1,q2⟩:=next hd (by omega)
   (refine cn [] [] (by kernel_rfl) (by simp) fun K hK=>?_;simp(disch:=omega) only[kc,aM,aa,aU,aO,aR,aX,aN,ab,aS,Int.reduceLE,aw,e9,cw];apply hK)
   refine gV rfl (fC ?_)
   refine⟨k',by omega,aT ⟨rfl,trivial⟩ ?_⟩
   simp[di,b9,b8,q1,q2]
  have hnear:=H2.near keq (by omega) (Nat.le_of_not_lt hc)
  generalize k.g*v2=gv at*
  (refine dw (gQ cJ [] [] (by kernel_rfl) (by kernel_rfl) (by simp) fun K hK=>?_);simp(disch:=omega) only[kc,aM,aa,de,Hm,aU,aO,aR,aX,aN,ab,aS,Int.reduceLE,aw,e5,cw,bP,cQ,e3,cd,aQ,aZ,aW,aV,ch,hv2,fU,cg,packT,cW,ct,Tryz.underlying79,dn,eG,e10,e11,dp,gu0,e12,cp,b7];apply hK)
  refine gV rfl (gf ?_)
  refine⟨k.g,⟨kge,hnear,by omega⟩,aT ⟨rfl,trivial⟩ ?_⟩
  simp[di,b9,b8]
 rintro g ⟨hg1,hg2,hg3⟩
 subst hR
 clear gu2 gu1 gu0 a1 a2 a3 a4 hk1 hk2 hk3 k0
 (refine cn [] [] (by kernel_rfl) (by simp) fun K hK=>?_;simp(disch:=omega) only[kc,aM,de,Hm,aN,ab];apply hK)
 (refine dw (cn [] [] (by kernel_rfl) (by simp) fun K hK=>?_);simp(disch:=omega) only[kc,aM,aN,ab];apply hK)
 refine iB (G:=Gu u v g) (fun m=>⟨[.one (.sl 0 0 off (n+3)),de v,jk,jk,jk,.raw (.int .i64 ((n+2:Nat):Int)),jk,.raw (.int .u64 (g:Int)),jk,.raw (.int .u64 (m.c:Int)),.raw (.int .u64 (m.b:Int)),jk,jk,jk,jk,jk,jk,jk,jk,jk,jk,jk,jk,jk,jk,jk,jk,jk,jk,jk,jk,jk,jk,jk,jk,jk,jk,jk,jk,jk,jk,jk,jk,jk,jk,jk,jk,jk,jk,jk,jk,jk,jk,jk,jk,jk,jk,jk,jk,jk,jk,jk,jk,jk,jk,jk,jk,jk,jk,jk,jk,jk,jk,jk,jk,jk,jk,jk,jk,jk,jk,jk,.raw (.int .i64 ((n+2:Nat):Int)),.raw (.int .i64 (m.i:Int)),jk,jk,jk,jk,jk,jk,jk,jk,jk,jk,jk,jk,jk,jk,jk,jk,jk,jk,jk,jk,jk,jk,jk,jk,jk,jk,jk,jk,jk,jk,jk,jk,jk,jk,jk,jk,jk,jk,jk,jk,jk,jk,jk,jk,jk,jk,jk,jk,jk,jk,jk,jk,jk,jk,jk,jk,jk,jk,jk,jk,jk,jk,jk,jk,jk,jk,jk,jk,jk,jk,jk,jk,jk,jk,jk,jk,jk,jk,jk,jk,jk,jk,jk,jk,jk,jk,jk],Hm [(0,[⟨79,1,lc fU (pre++((m.us++u.drop m.i)++post))⟩])]⟩) (fun m=>n+2-m.i) (Gu.start u v g) ?_ ?_
 ·refine aT ⟨?_,trivial⟩ ?_
  ·simp[Gu.start]
  simp[di,b9,b8,Gu.start]
 intro m
 have hmi:=m.hi
 have hmc:=m.hc
 have hmb:=m.hb
 have hml:=m.len
 by_cases hlt:m.i<n+2
 ·obtain⟨x,hx⟩:=getElem?_of_lt (l:=v) (k:=m.i) (by omega)
  obtain⟨y,hy⟩:=getElem?_of_lt (l:=u) (k:=m.i) (by omega)
  have hx':=dY H.lv hx
  have hy':=dY H.lu hy
  obtain⟨c1,c2⟩:=xO hg3 hx' hmc
  have hgx:g*x<=4294967296*4294967295:=Nat.mul_le_mul hg3 (by omega)
  have e4:(g:Int)*(x:Int)=((g*x:Nat):Int):=by simp
  have e5:(m.c:Int)+((g*x:Nat):Int)=((m.c+g*x:Nat):Int):=by simp
  have hseg:=we hml hy
  have hsl:=wh (u:=u) hml (by omega)
  have hget:=ma (post:=post) hp hseg
  have hlo:(m.c+g*x)%4294967296<4294967296:=Nat.mod_lt _ (by omega)
  obtain⟨b1,b2⟩:=L6 y ((m.c+g*x)%4294967296) m.b hy' hlo hmb
  obtain⟨m',q1,q2,q3,q4⟩:=HW m (l:=(y+8589934592-((m.c+g*x)%4294967296+m.b))%4294967296) (b':=if y<(m.c+g*x)%4294967296+m.b then 1 else 0) hg3 hx hy H.lv (Nat.mod_lt _ (by omega)) (by split<;>omega) (by split<;>omega)
  have hset:=qV (post:=post) ((y+8589934592-((m.c+g*x)%4294967296+m.b))%4294967296) hp (show m.i<(m.us++u.drop m.i).length by omega)
  rw[qX _ hml (by omega)]at hset
  have e6:=q9 (m.c+g*x)
  have e7:=Du (m.c+g*x)
  have hrl:(pre++((m.us++u.drop m.i)++post)).length=off+(n+3)+post.length:=by simp only[List.length_append]at hRl hsl⊢;omega
  generalize(m.c+g*x)%4294967296=lo at*
  generalize(m.c+g*x)/4294967296=hi' at*
  generalize g*x=gx at*
  generalize(if y<lo+m.b then 1 else 0:Nat)=nb at*
  generalize(y+8589934592-(lo+m.b))%4294967296=nl at*
  generalize hRR:pre++((m.us++u.drop m.i)++post)=RR at*
  (refine cn [] [] (by kernel_rfl) (by simp) fun K hK=>?_;simp(disch:=omega) only[kc,aM,de,Hm,aU,aO,aR,aX,aS,cw];apply hK)
  refine dw (iq rfl (fC ?_))
  refine dw (f7 ?_)
  (refine cn [] [] (by kernel_rfl) (by simp) fun K hK=>?_;simp(disch:=omega) only[kc,aM];apply hK)
  (refine cn [] [] (by kernel_rfl) (by simp) fun K hK=>?_;simp(disch:=omega) only[kc,aM,aa,aQ,aZ,aW,aV,ch,hx,fU,cg,packT,cW,ct,aU,Tryz.underlying79,dn,eG,aO,aR,aX,aS,e4,e5];apply hK)
  (refine cn [] [] (by kernel_rfl) (by simp) fun K hK=>?_;simp(disch:=omega) only[kc,aM,aa,aQ,aZ,aW,aV,cg,cQ,dp,fU,hget,packT,cW,ct,aU,Tryz.underlying79,dn,eG,Tryz.underlying78,dI,e6,aO,aR,aX,aS];apply hK)
  (refine cn [] [] (by kernel_rfl) (by simp) fun K hK=>?_;simp(disch:=omega) only[kc,aM,aa,ct,aU,Tryz.underlying78,dI,b1,aQ,aZ,aW,aV,cg,cQ,bo,ew,cU,dp,fU,hget,cellsOf,ai,isPure,bu,ff,hset,bz,bx];apply hK)
  (refine cn [] [] (by kernel_rfl) (by simp) fun K hK=>?_;simp(disch:=omega) only[kc,aM,aa,aU,aO,aR,aX,aN,ab,aS,Int.reduceLE,aw,e7];apply hK)
  ((refine fB [] [] (by kernel_rfl) (by simp) fun K hK=>?_);simp(disch:=omega) only[kc,aM,aa,aU,aO,aR,aX,aN,ab,aS,Int.reduceLE,aw,b2];apply hK)
  show gZ _ _ _ _ _
  ((refine fB [] [] (by kernel_rfl) (by simp) fun K hK=>?_);simp(disch:=omega) only[kc,aM,aU,aO,aR,aX,aN,ab,aS,cd];apply hK)
  refine⟨m',by omega,aT ⟨?_,trivial⟩ ?_⟩
  ·rw[q1,q2];rfl
  simp[di,b9,b8,q1,q3,q4]
 have hie:m.i=n+2:=by omega
 have hseg:(m.us++u.drop m.i)[n+2]?=some u2:=by
  have:=we hml (show u[m.i]?=some u2 by rw[hie];exact H.hu2)
  rwa[hie]at this⊢
 have hsl:=wh (u:=u) hml (by omega)
 have hget:=ma (post:=post) hp hseg
 have hset:=fun t=>qV (post:=post) t hp (show n+2<(m.us++u.drop m.i).length by omega)
 have hse: ∀t,(m.us++u.drop m.i).set (n+2) t=m.us++[t]:=fun t=>by
  have:=qX (u:=u) t hml (by omega)
  rw[List.drop_eq_nil_iff.2 (show u.length<=m.i+1 by omega),List.append_nil,hie]at this
  rw[hie];exact this
 simp only[hse]at hset
 obtain⟨b1,b2⟩:=L6 u2 m.c m.b bu2 hmc hmb
 have hrl:(pre++((m.us++u.drop m.i)++post)).length=off+(n+3)+post.length:=by simp only[List.length_append]at hRl hsl⊢;omega
 by_cases hno:m.c+m.b<=u2
 ·have b3:(u2:Int)-(m.c:Int)-(m.b:Int)=((u2-(m.c+m.b):Nat):Int):=by omega
  have b4:Int.fdiv ((u2-(m.c+m.b):Nat):Int) (2^(min 63 IntKind.u64.bits))=0:=by
   rw[Af (by omega)]
   have:(u2-(m.c+m.b))/2^63=0:=Nat.div_eq_of_lt (by omega)
   rw[this];rfl
  have hnl:u2-(m.c+m.b)<4294967296:=by omega
  obtain⟨q1,q2⟩:=H.right m hie hg1 hno
  have hs:=hset (u2-(m.c+m.b))
  rw[q2]at hs
  have e7:IntKind.u32.wrap (g:Int)=((natV u/natV v:Nat):Int):=by rw[q9,q1];omega
  generalize u2-(m.c+m.b)=nl at*
  generalize hRR:pre++((m.us++u.drop m.i)++post)=RR at*
  (refine cn [] [] (by kernel_rfl) (by simp) fun K hK=>?_;simp(disch:=omega) only[kc,aM,de,Hm,aU,aO,aR,aX,aS,cp];apply hK)
  refine dw (gV rfl (gf ?_))
  show gZ _ _ _ _ _
  (refine cn [] [] (by kernel_rfl) (by simp) fun K hK=>?_;simp(disch:=omega) only[kc,aM,aa,aQ,aZ,aW,aV,cg,cQ,dp,fU,hget,packT,cW,ct,aU,Tryz.underlying79,dn,eG,aO,aR,aX,aS,b3];apply hK)
  (refine cn [] [] (by kernel_rfl) (by simp) fun K hK=>?_;simp(disch:=omega) only[kc,aM,aa,ct,aU,Tryz.underlying78,dI,BU,aQ,aZ,aW,aV,cg,cQ,bo,ew,cU,dp,fU,hget,cellsOf,ai,isPure,bu,ff,hs,bz,bx];apply hK)
  (refine dw (cn [] [] (by kernel_rfl) (by simp) fun K hK=>?_);simp(disch:=omega) only[kc,aM,aa,aU,aO,aR,aX,aN,ab,aS,Int.reduceLE,aw,b4,cw];apply hK)
  refine iq rfl ?_
  (refine cn [] [] (by kernel_rfl) (by simp) fun K hK=>?_;simp(disch:=omega) only[kc,aM,aa,ct,aU,Tryz.underlying78,dI,e7];apply hK)
  refine m7 ⟨.inr rfl,⟨[.one (.sl 0 0 off (n+3)),jk,jk,jk,.raw (.int .u32 ((natV u/natV v:Nat):Int)),jk,jk,jk,jk,jk,jk,jk,jk,jk,jk,jk,jk,jk,jk,jk,jk,jk,jk,jk,jk,jk,jk,jk,jk,jk,jk,jk,jk,jk,jk,jk,jk,jk,jk,jk,jk,jk,jk,jk,jk,jk,jk,jk,jk,jk,jk,jk,jk,jk,jk,jk,jk,jk,jk,jk,jk,jk,jk,jk,jk,jk,jk,jk,jk,jk,jk,jk,jk,jk,jk,jk,jk,jk,jk,jk,jk,jk,jk,jk,jk,jk,jk,jk,jk,jk,jk,jk,jk,jk,jk,jk,jk,jk,jk,jk,jk,jk,jk,jk,jk,jk,jk,jk,jk,jk,jk,jk,jk,jk,jk,jk,jk,jk,jk,jk,jk,jk,jk,jk,jk,jk,jk,jk,jk,jk,jk,jk,jk,jk,jk,jk,jk,jk,jk,jk,jk,jk,jk,jk,jk,jk,jk,jk,jk,jk,jk,jk,jk,jk,jk,jk,jk,jk,jk,jk,jk,jk,jk,jk,jk,jk,jk,jk,jk,jk,jk],Hm [(0,[⟨79,1,lc fU (pre++(dE (n+3) (natV u%natV v)++post))⟩])]⟩,aT ⟨rfl,trivial⟩ (by simp[di,b9,b8]),rfl,lV _,?_⟩
  simp(disch:=omega) only[cH,Tryz.results180,bH,ah,ag]
 rw[if_pos (by omega)]at b2
 obtain⟨t,ht⟩: ∃t,t=u2+4294967296-(m.c+m.b):=⟨_,rfl⟩
 have ht4:t<4294967296:=by omega
 rw[show(u2+8589934592-(m.c+m.b))%4294967296=t by omega]at b1
 have hs:=hset t
 have lu':Lmb (m.us++[t]):=mJ m.lmb ht4
 have nu':(m.us++[t]).length=n+3:=by rw[List.length_append,hml,hie];rfl
 have hleft:=fun a hai=>H.left m hie hg2 (by omega) ht a hai
 have htop:(m.us++[t])[n+2]?=some t:=by rw[aB (by omega),hml,hie,Nat.sub_self];rfl
 clear hset hse hno ht
 generalize hRR:pre++((m.us++u.drop m.i)++post)=RR at*
 (refine cn [] [] (by kernel_rfl) (by simp) fun K hK=>?_;simp(disch:=omega) only[kc,aM,de,Hm,aU,aO,aR,aX,aS,cp];apply hK)
 refine dw (gV rfl (gf ?_))
 show gZ _ _ _ _ _
 (refine cn [] [] (by kernel_rfl) (by simp) fun K hK=>?_;simp(disch:=omega) only[kc,aM,aa,aQ,aZ,aW,aV,cg,cQ,dp,fU,hget,packT,cW,ct,aU,Tryz.underlying79,dn,eG,aO,aR,aX,aS];apply hK)
 (refine cn [] [] (by kernel_rfl) (by simp) fun K hK=>?_;simp(disch:=omega) only[kc,aM,aa,ct,aU,Tryz.underlying78,dI,b1,aQ,aZ,aW,aV,cg,cQ,bo,ew,cU,dp,fU,hget,cellsOf,ai,isPure,bu,ff,hs,bz,bx];apply hK)
 (refine dw (cn [] [] (by kernel_rfl) (by simp) fun K hK=>?_);simp(disch:=omega) only[kc,aM,aa,aU,aO,aR,aX,aN,ab,aS,Int.reduceLE,aw,b2,cp];apply hK)
 refine gV rfl (fC ?_)
 show gZ _ _ _ _ _
 (refine cn [] [] (by kernel_rfl) (by simp) fun K hK=>?_;simp(disch:=omega) only[kc,aM,aN,ab];apply hK)
 (refine dw (cn [] [] (by kernel_rfl) (by simp) fun K hK=>?_);simp(disch:=omega) only[kc,aM,aN,ab];apply hK)
 refine iB (G:=Gz (m.us++[t]) v) (fun a=>⟨[.one (.sl 0 0 off (n+3)),de v,jk,jk,jk,.raw (.int .i64 ((n+2:Nat):Int)),jk,.raw (.int .u64 (g:Int)),jk,.raw (.int .u64 (a.c:Int)),jk,jk,jk,jk,jk,jk,jk,jk,jk,jk,jk,jk,jk,jk,jk,jk,jk,jk,jk,jk,jk,jk,jk,jk,jk,jk,jk,jk,jk,jk,jk,jk,jk,jk,jk,jk,jk,jk,jk,jk,jk,jk,jk,jk,jk,jk,jk,jk,jk,jk,jk,jk,jk,jk,jk,jk,jk,jk,jk,jk,jk,jk,jk,jk,jk,jk,jk,jk,jk,jk,jk,jk,jk,jk,jk,jk,jk,jk,jk,jk,jk,jk,jk,jk,jk,jk,jk,jk,jk,jk,jk,jk,jk,jk,jk,jk,jk,jk,jk,jk,jk,jk,jk,jk,jk,jk,jk,jk,jk,jk,jk,jk,jk,jk,jk,jk,jk,jk,jk,jk,jk,jk,jk,jk,jk,.raw (.int .i64 ((n+2:Nat):Int)),.raw (.int .i64 (a.i:Int)),jk,jk,jk,jk,jk,jk,jk,jk,jk,jk,jk,jk,jk,jk,jk,jk,jk,jk,jk,jk,jk,jk,jk,jk,jk,jk,jk,jk,jk,jk,jk,jk,jk,jk],Hm [(0,[⟨79,1,lc fU (pre++((a.us++(m.us++[t]).drop a.i)++post))⟩])]⟩) (fun a=>n+2-a.i) (Gz.start _ _) ?_ ?_
 ·refine aT ⟨?_,trivial⟩ ?_
  ·simp[Gz.start,bD]
  simp[di,b9,b8,Gz.start]
 intro a
 have hai:=a.hi
 have hac:=a.hc
 have hal:=a.len
 generalize m.us++[t]=U' at*
 have hsl2:=wh (u:=U') hal (by omega)
 have hrl2:(pre++((a.us++U'.drop a.i)++post)).length=off+(n+3)+post.length:=by simp only[List.length_append]at hsl2⊢;omega
 by_cases hlt2:a.i<n+2
 ·obtain⟨x,hx⟩:=getElem?_of_lt (l:=v) (k:=a.i) (by omega)
  obtain⟨y,hy⟩:=getElem?_of_lt (l:=U') (k:=a.i) (by omega)
  have hx':=dY H.lv hx
  have hy':=dY lu' hy
  have hget2:=ma (post:=post) hp (we hal hy)
  have hset2:=qV (post:=post) ((a.c+(y+x))%4294967296) hp (show a.i<(a.us++U'.drop a.i).length by omega)
  rw[qX _ hal (by omega)]at hset2
  obtain⟨a',q1,q2,q3⟩:=GP a hx hy H.lv lu'
  have e4:(a.c:Int)+((y:Int)+(x:Int))=((a.c+(y+x):Nat):Int):=by omega
  have e6:=q9 (a.c+(y+x))
  have e7:=Du (a.c+(y+x))
  generalize(a.c+(y+x))%4294967296=nl at*
  generalize(a.c+(y+x))/4294967296=nc at*
  generalize hR2:pre++((a.us++U'.drop a.i)++post)=R2 at*
  (refine cn [] [] (by kernel_rfl) (by simp) fun K hK=>?_;simp(disch:=omega) only[kc,aM,de,Hm,aU,aO,aR,aX,aS,cw];apply hK)
  refine dw (iq rfl (fC ?_))
  refine dw (f7 ?_)
  (refine cn [] [] (by kernel_rfl) (by simp) fun K hK=>?_;simp(disch:=omega) only[kc,aM];apply hK)
  (refine gQ cJ [] [] (by kernel_rfl) (by kernel_rfl) (by simp) fun K hK=>?_;simp(disch:=omega) only[kc,aM,aa,aQ,aZ,aW,aV,cg,cQ,dp,fU,hget2,packT,cW,ct,aU,Tryz.underlying79,dn,eG,ch,hx,aO,aR,aX,aS,e4];apply hK)
  (refine cn [] [] (by kernel_rfl) (by simp) fun K hK=>?_;simp(disch:=omega) only[kc,aM,aa,ct,aU,Tryz.underlying78,dI,e6,aQ,aZ,aW,aV,cg,cQ,bo,ew,cU,dp,fU,hget2,cellsOf,ai,isPure,bu,ff,hset2,bz,bx];apply hK)
  ((refine fB [] [] (by kernel_rfl) (by simp) fun K hK=>?_);simp(disch:=omega) only[kc,aM,aa,aU,aO,aR,aX,aN,ab,aS,Int.reduceLE,aw,e7];apply hK)
  show gZ _ _ _ _ _
  ((refine fB [] [] (by kernel_rfl) (by simp) fun K hK=>?_);simp(disch:=omega) only[kc,aM,aU,aO,aR,aX,aN,ab,aS,cd];apply hK)
  refine⟨a',by omega,aT ⟨?_,trivial⟩ ?_⟩
  ·rw[q1,q2];rfl
  simp[di,b9,b8,q1,q3]
 have hae:a.i=n+2:=by omega
 obtain⟨q1,q2⟩:=hleft a hae
 have hget2:(pre++((a.us++U'.drop a.i)++post))[off+(n+2)]?=some t:=by
  have:=ma (post:=post) hp (we hal (show U'[a.i]?=some t by rw[hae];exact htop))
  rwa[hae]at this⊢
 have hset2:=qV (post:=post) ((t+a.c)%4294967296) hp (show a.i<(a.us++U'.drop a.i).length by omega)
 rw[qX _ hal (by omega),List.drop_eq_nil_iff.2 (show U'.length<=a.i+1 by omega),List.append_nil,q2,hae]at hset2
 have e4:IntKind.u32.wrap ((t:Int)+(a.c:Int))=(((t+a.c)%4294967296:Nat):Int):=by rw[<- q9];congr 1<;>omega
 have e5:(g:Int)-1=((natV u/natV v:Nat):Int):=by rw[q1];simp
 have e6:IntKind.u32.wrap ((natV u/natV v:Nat):Int)=((natV u/natV v:Nat):Int):=by rw[q9];congr 1;exact Nat.mod_eq_of_lt hqlt
 have e8:IntKind.u64.wrap ((natV u/natV v:Nat):Int)=((natV u/natV v:Nat):Int):=by
  generalize natV u/natV v=qq at*
  rw[IntKind.wrap_u64];omega
 have hRe:pre++((a.us++U'.drop a.i)++post)=pre++((a.us++U'.drop (n+2))++post):=by rw[hae]
 generalize(t+a.c)%4294967296=nl at*
 rw[<- hRe]at hset2
 generalize hR2:pre++((a.us++U'.drop a.i)++post)=R2 at*
 (refine cn [] [] (by kernel_rfl) (by simp) fun K hK=>?_;simp(disch:=omega) only[kc,aM,de,Hm,aU,aO,aR,aX,aS,cp];apply hK)
 refine dw (gV rfl (gf ?_))
 show gZ _ _ _ _ _
 (refine cn [] [] (by kernel_rfl) (by simp) fun K hK=>?_;simp(disch:=omega) only[kc,aM,aa,aQ,aZ,aW,aV,cg,cQ,dp,fU,hget2,packT,cW,ct,aU,Tryz.underlying78,dI,BU,aO,aR,aX,aS,e4,bo,ew,cU,cellsOf,ai,isPure,bu,ff,hset2,bz,bx];apply hK)
 (refine cn [] [] (by kernel_rfl) (by simp) fun K hK=>?_;simp(disch:=omega) only[kc,aM,aa,aU,aO,aR,aX,aN,ab,aS,e5,e8,ct,Tryz.underlying78,dI,e6];apply hK)
 refine m7 ⟨.inr rfl,⟨[.one (.sl 0 0 off (n+3)),jk,jk,jk,.raw (.int .u32 ((natV u/natV v:Nat):Int)),jk,jk,jk,jk,jk,jk,jk,jk,jk,jk,jk,jk,jk,jk,jk,jk,jk,jk,jk,jk,jk,jk,jk,jk,jk,jk,jk,jk,jk,jk,jk,jk,jk,jk,jk,jk,jk,jk,jk,jk,jk,jk,jk,jk,jk,jk,jk,jk,jk,jk,jk,jk,jk,jk,jk,jk,jk,jk,jk,jk,jk,jk,jk,jk,jk,jk,jk,jk,jk,jk,jk,jk,jk,jk,jk,jk,jk,jk,jk,jk,jk,jk,jk,jk,jk,jk,jk,jk,jk,jk,jk,jk,jk,jk,jk,jk,jk,jk,jk,jk,jk,jk,jk,jk,jk,jk,jk,jk,jk,jk,jk,jk,jk,jk,jk,jk,jk,jk,jk,jk,jk,jk,jk,jk,jk,jk,jk,jk,jk,jk,jk,jk,jk,jk,jk,jk,jk,jk,jk,jk,jk,jk,jk,jk,jk,jk,jk,jk,jk,jk,jk,jk,jk,jk,jk,jk,jk,jk,jk,jk,jk,jk,jk,jk,jk,jk],Hm [(0,[⟨79,1,lc fU (pre++(dE (n+3) (natV u%natV v)++post))⟩])]⟩,aT ⟨rfl,trivial⟩ (by simp[di,b9,b8]),rfl,lV _,?_⟩
 simp(disch:=omega) only[cH,Tryz.results180,bH,ah,ag]
section
theorem mO: ∀(k n x:Nat),dE (k+n) x=dE k x++dE n (x/4294967296^k)
 |0,n,x=>by simp[dE]
 |k+1,n,x=>by
  rw[show k+1+n=(k+n)+1 by omega,dE,mO k n,dE,Nat.div_div_eq_div_mul,Nat.pow_succ,Nat.mul_comm 4294967296];rfl
theorem sn: ∀(k x:Nat),dE k (x%4294967296^k)=dE k x
 |0,x=>rfl
 |k+1,x=>by
  rw[dE,dE,Nat.pow_succ,Nat.mul_comm (4294967296^k),Nat.mod_mul_right_mod,Nat.mod_mul_right_div_self,sn k]
theorem o8 (k n x y:Nat) (hx:x<4294967296^k):dE (k+n) (y*4294967296^k+x)=dE k x++dE n y:=by
 have hp:0<4294967296^k:=Nat.pow_pos (by omega)
 rw[mO,<- sn k (y*4294967296^k+x),Nat.mul_comm y,Nat.mul_add_mod,Nat.mod_eq_of_lt hx,Nat.mul_add_div hp,Nat.div_eq_of_lt hx,Nat.add_zero]
theorem uE: ∀n,dE n 0=aj n 0
 |0=>rfl
 |n+1=>by rw[dE,Nat.zero_mod,Nat.zero_div,uE n];rfl
def gF (A V k:Nat):Nat:=A%(V*4294967296^k)
def lD (A V k:Nat):Nat:=A/(V*4294967296^k)*4294967296^k
section
variable {A V k:Nat} (hV:0<V)
include hV
theorem Fx : gF A V (k + 1) / 4294967296 ^ k < V * 4294967296 := by
  have hp : 0 < 4294967296 ^ k := Nat.pow_pos (by omega)
  rw [Nat.div_lt_iff_lt_mul hp]
  have := Nat.mod_lt A (show 0 < V * 4294967296 ^ (k + 1) from Nat.mul_pos hV (Nat.pow_pos (by omega)))
  rw [Nat.pow_succ] at this
  unfold gF
  rw [Nat.pow_succ]
  calc _ < V * (4294967296 ^ k * 4294967296) := this
    _ = _ := by grind
omit hV in
theorem Fz:gF A V k=gF A V (k+1)/4294967296^k%V*4294967296^k+gF A V (k+1)%4294967296^k:=by
 unfold gF
 have e:V*4294967296^(k+1)=V*4294967296^k*4294967296:=by rw[Nat.pow_succ];grind
 have h1:A%(V*4294967296^k)=A%(V*4294967296^(k+1))%(V*4294967296^k):=by rw[e,Nat.mod_mul_right_mod]
 rw[h1]
 generalize A%(V*4294967296^(k+1))=x
 rw[Nat.mul_comm V,Nat.mod_mul]
 generalize 4294967296^k=p
 rw[Nat.add_comm,Nat.mul_comm p]
theorem Fr:lD A V k=lD A V (k+1)+gF A V (k+1)/4294967296^k/V*4294967296^k:=by
 unfold lD gF
 have hp:0<4294967296^k:=Nat.pow_pos (by omega)
 have e:V*4294967296^(k+1)=V*4294967296^k*4294967296:=by rw[Nat.pow_succ];grind
 have h1:=Nat.div_add_mod A (V*4294967296^(k+1))
 generalize hq:A/(V*4294967296^(k+1))=q at*
 generalize hr:A%(V*4294967296^(k+1))=r at*
 have h2:A/(V*4294967296^k)=q*4294967296+r/4294967296^k/V:=by
  rw[<- h1,e,Nat.mul_assoc (V*4294967296^k),Nat.mul_add_div (Nat.mul_pos hV hp),Nat.div_div_eq_div_mul,Nat.mul_comm (4294967296^k) V,Nat.mul_comm 4294967296]
 rw[h2,Nat.pow_succ]
 grind
theorem pf:gF A V (k+1)/4294967296^k/V<4294967296:=by
 rw[Nat.div_lt_iff_lt_mul hV,Nat.mul_comm]
 exact Fx hV
end
theorem Ik {A V k m:Nat} (hV:0<V) (hk:k<m) (hb:lD A V (k+1)<4294967296^m):(dE m (lD A V (k+1))).set k (gF A V (k+1)/4294967296^k/V)=dE m (lD A V k):=by
 have hd:=pf (A:=A) (k:=k) hV
 rw[Fr (A:=A) (k:=k) hV]
 generalize gF A V (k+1)/4294967296^k/V=d at*
 obtain⟨q,hq⟩: ∃q,lD A V (k+1)=q*4294967296^(k+1):=⟨_,rfl⟩
 rw[hq]
 obtain⟨r,rfl⟩: ∃r,m=k+(1+r):=⟨m-(k+1),by omega⟩
 have e1:q*4294967296^(k+1)=(q*4294967296)*4294967296^k+0:=by rw[Nat.pow_succ];grind
 have e2:q*4294967296^(k+1)+d*4294967296^k=(q*4294967296+d)*4294967296^k+0:=by rw[Nat.pow_succ];grind
 have hp:0<4294967296^k:=Nat.pow_pos (by omega)
 rw[e2,o8 _ _ _ _ hp,e1,o8 _ _ _ _ hp,List.set_append_right _ _ (by rw[dA];exact ai _),dA,Nat.sub_self,Nat.add_comm 1 r,dE,dE,List.set_cons_zero]
 have a1:(q*4294967296+d)%4294967296=d:=by omega
 have a2:(q*4294967296+d)/4294967296=q*4294967296/4294967296:=by omega
 rw[a1,a2]
theorem It {A V k nb na:Nat} (hk:k+nb<=na):dE (na+1) (gF A V (k+1))=dE k (gF A V (k+1))++(dE (nb+1) (gF A V (k+1)/4294967296^k)++dE (na-(k+nb)) (gF A V (k+1)/4294967296^(k+nb+1))):=by
 conv=>lhs;rw[show na+1=k+((nb+1)+(na-(k+nb))) by omega]
 rw[mO,mO,Nat.div_div_eq_div_mul,<- Nat.pow_add,show k+(nb+1)=k+nb+1 by omega]
theorem Fy {A V k nb na:Nat} (hV:0<V) (hVB:V<=4294967296^nb) (hk:k+nb<=na):dE k (gF A V (k+1))++(dE (nb+1) (gF A V (k+1)/4294967296^k%V)++dE (na-(k+nb)) (gF A V (k+1)/4294967296^(k+nb+1)))=dE (na+1) (gF A V k):=by
 have hp:0<4294967296^k:=Nat.pow_pos (by omega)
 have hz:gF A V (k+1)/4294967296^(k+nb+1)=0:=by
  apply Nat.div_eq_of_lt
  have:=Nat.mod_lt A (show 0<V*4294967296^(k+1)from Nat.mul_pos hV (Nat.pow_pos (by omega)))
  unfold gF
  refine Nat.lt_of_lt_of_le this ?_
  have e:4294967296^(k+nb+1)=4294967296^nb*4294967296^(k+1):=by rw[<- Nat.pow_add];congr 1;omega
  rw[e]
  exact Nat.mul_le_mul_right _ hVB
 have hm:=Nat.mod_lt (gF A V (k+1)/4294967296^k) hV
 rw[Fz (A:=A) (V:=V) (k:=k),hz]
 generalize gF A V (k+1)/4294967296^k%V=u at*
 rw[<- sn k (gF A V (k+1))]
 have hx:=Nat.mod_lt (gF A V (k+1)) hp
 generalize gF A V (k+1)%4294967296^k=x at*
 have hu:u<4294967296^(nb+1):=by
  have:4294967296^nb<=4294967296^(nb+1):=Nat.pow_le_pow_right (by omega) (by omega)
  omega
 rw[show na+1=k+((nb+1)+(na-(k+nb))) by omega,o8 _ _ _ _ hx]
 congr 1
 have:=o8 (nb+1) (na-(k+nb)) u 0 hu
 rw[Nat.zero_mul,Nat.zero_add]at this
 exact this.symm
/-! The shift. -/
theorem wY: ∀(x:Nat),x≠0->x<18446744073709551616->1<=Lib.bitLen x/\2^(Lib.bitLen x-1)<=x/\x<2^Lib.bitLen x:=fun x=>by
 induction x using Nat.strongRecOn with
 |_ x ih=>
  intro h0 hx
  have hh:=Lib.bitLen_half x h0 hx
  by_cases h1:x/2=0
  ·have hx1:x=1:=by omega
   subst hx1
   have:Lib.bitLen 1=1:=by decide
   rw[this];exact⟨by omega,by decide,by decide⟩
  obtain⟨q1,q2,q3⟩:=ih (x/2) (by omega) h1 (by omega)
  rw[hh]
  refine⟨by omega,?_,?_⟩
  ·rw[show 1+Lib.bitLen (x/2)-1=(Lib.bitLen (x/2)-1)+1 by omega,Nat.pow_succ];omega
  rw[Nat.add_comm,Nat.pow_succ];omega
def lz (x:Nat):Nat:=32-Lib.bitLen x
theorem HG {x : Nat} (h0 : x ≠ 0) (hx : x < 4294967296) : lz x < 32 /\ 2147483648 <= x * 2 ^ lz x /\ x * 2 ^ lz x < 4294967296 := by
  obtain ⟨h1, h2, h3⟩ := wY x h0 (by omega)
  have h4 := Lib.bitLen_le x 32 (by omega) (by simpa using hx)
  unfold lz
  refine ⟨by omega, ?_, ?_⟩
  · calc 2147483648 = 2 ^ (Lib.bitLen x - 1) * 2 ^ (32 - Lib.bitLen x) := by
          rw [<- Nat.pow_add, show Lib.bitLen x - 1 + (32 - Lib.bitLen x) = 31 by omega]
      _ <= _ := Nat.mul_le_mul_right _ h2
  · calc x * 2 ^ (32 - Lib.bitLen x) < 2 ^ Lib.bitLen x * 2 ^ (32 - Lib.bitLen x) := Nat.mul_lt_mul_of_pos_right h3 (Nat.two_pow_pos _)
      _ = 4294967296 := by rw [<- Nat.pow_add, show Lib.bitLen x + (32 - Lib.bitLen x) = 32 by omega]
theorem II {b n x s : Nat} (hl : (bT b).length = n + 1) (hx : (bT b)[n]? = some x) (hs : 2147483648 <= x * 2 ^ s /\ x * 2 ^ s < 4294967296) (hs32 : s < 32) :
    b * 2 ^ s < 4294967296 ^ (n + 1) /\ 2147483648 * 4294967296 ^ n <= b * 2 ^ s := by
  have h1 := dq hx
  rw [List.take_of_length_le (by omega), bN] at h1
  have h2 := gK (ce b) n
  have hp : 0 < 4294967296 ^ n := Nat.pow_pos (by omega)
  have hps := xU hs32
  constructor
  · -- b < (x + 1) B^n, and (x + 1) 2^s <= B, for x 2^s < B and 2^s divides B
    have h3 : (x + 1) * 2 ^ s <= 4294967296 := by
      have e : 4294967296 = 2 ^ (32 - s) * 2 ^ s := by rw [<- Nat.pow_add, show 32 - s + s = 32 by omega]
      rw [e] at hs ⊢
      exact Nat.mul_le_mul_right _ (Nat.lt_of_mul_lt_mul_right hs.2)
    calc b * 2 ^ s < (x + 1) * 4294967296 ^ n * 2 ^ s := by
          refine Nat.mul_lt_mul_of_pos_right ?_ (Nat.two_pow_pos s)
          rw [h1, Nat.add_mul, Nat.one_mul]; omega
      _ = (x + 1) * 2 ^ s * 4294967296 ^ n := by grind
      _ <= 4294967296 * 4294967296 ^ n := Nat.mul_le_mul_right _ h3
      _ = 4294967296 ^ (n + 1) := by rw [Nat.pow_succ, Nat.mul_comm]
  · calc 2147483648 * 4294967296 ^ n <= x * 2 ^ s * 4294967296 ^ n := Nat.mul_le_mul_right _ hs.1
      _ = x * 4294967296 ^ n * 2 ^ s := by grind
      _ <= b * 2 ^ s := Nat.mul_le_mul_right _ (by omega)
end
end Go.Proofs.YtfgeomlagfomgaaGreatDoor
