/-
  Part 13 of a proof (walks and plain facts).
-/
import Derived.Test.YtiollbhgpiiodaaGreatDoorQ11
set_option linter.all false
set_option maxRecDepth 100000
set_option maxHeartbeats 64000000
open Nat renaming reduceAdd → aa
open Nat renaming reduceEqDiff → ab
open List renaming replicate → ae
open Nat renaming reduceBEq → af
open List renaming getElem?_eq_none → ar
open List renaming length_replicate → ay
open List renaming getElem?_map → az
namespace Go.Proofs.YtiollbhgpiiodaaGreatDoor
open Go.RowKit
theorem nO: ∀(l:List Nat) (k v o:Nat),l[k]?=some o->natV (l.set k v)+o*4294967296^k=natV l+v*4294967296^k
 |[],k,v,o,h=>by simp at h
 |a::l,0,v,o,h=>by simp at h;subst h;simp[natV];omega
 |a::l,k+1,v,o,h=>by
  simp at h;have:=nO l k v o h;simp only[List.set_cons_succ,natV,Nat.pow_succ];have e1:o*(4294967296^k*4294967296)=4294967296*(o*4294967296^k):=by rw[<- Nat.mul_assoc,Nat.mul_comm]
  have e2:v*(4294967296^k*4294967296)=4294967296*(v*4294967296^k):=by rw[<- Nat.mul_assoc,Nat.mul_comm]
  rw[e1,e2];omega
theorem qR {l:List Nat} (h:Lmb l) {k v:Nat} (hv:v<4294967296):Lmb (l.set k v):=fun a ha=>by
 rcases List.mem_or_eq_of_mem_set ha with ha|rfl
 ·exact h a ha
 exact hv
theorem lP (n:Nat):natV (ae n 0)=0:=by induction n with
 |zero=>rfl
 |succ n ih=>simp[List.replicate_succ,natV,ih]
theorem bG {l:List Nat} {i a:Nat} (h:l[i]?=some a):natV (l.take (i+1))=natV (l.take i)+a*4294967296^i:=by
 obtain⟨h1,rfl⟩:=List.getElem?_eq_some_iff.1 h;rw[List.take_succ_eq_append_getElem h1,jl,List.length_take,Nat.min_eq_left (by omega)];simp[natV,Nat.mul_comm]
theorem kR (n:Nat):ae n [AV.p (.raw (.int .u32 0))]=lc fU (ae n 0):=by simp[lc,fU]
theorem dA (l:List Nat) (k v:Nat):(lc fU l).set k [AV.p (.raw (.int .u32 (v:Int)))]=lc fU (l.set k v):=by simp[lc,fU,List.map_set]
structure HU (A B:List Nat) where
 i:Nat
 O:List Nat
 hi:i<=A.length
 len:O.length=A.length+B.length
 lmb:Lmb O
 val:natV O=natV (A.take i)*natV B
 zero: ∀k,i+B.length<=k->k<A.length+B.length->O[k]?=some 0
structure Kn (A B:List Nat) (i a:Nat) where
 j:Nat
 O:List Nat
 c:Nat
 hj:j<=B.length
 len:O.length=A.length+B.length
 lmb:Lmb O
 hc:c<4294967296
 val:natV O+c*4294967296^(i+j)=natV (A.take i)*natV B+a*natV (B.take j)*4294967296^i
 zero: ∀k,i+B.length<=k->k<A.length+B.length->O[k]?=some 0
theorem oS {a b:Nat} (ha:a<4294967296) (hb:b<4294967296):a*b<=18446744065119617025:=by
 have:a*b<=4294967295*4294967295:=Nat.mul_le_mul (by omega) (by omega);omega
theorem yf {A B:List Nat} {i a:Nat} (g:Kn A B i a) {y o:Nat} (hy:B[g.j]?=some y) (ho:g.O[i+g.j]?=some o) (hi:i<A.length) (ha:a<4294967296) (hy':y<4294967296):
  ∃g':Kn A B i a,g'.j=g.j+1/\g'.O=g.O.set (i+g.j) ((g.c+(a*y+o))%4294967296)/\g'.c=(g.c+(a*y+o))/4294967296:=by
 have hjl:g.j<B.length:=(List.getElem?_eq_some_iff.1 hy).1;have ho':=cq g.lmb ho;have hb:=oS ha hy';have hc:=g.hc;refine⟨⟨g.j+1,g.O.set (i+g.j) ((g.c+(a*y+o))%4294967296),(g.c+(a*y+o))/4294967296,hjl,by simp[g.len],qR g.lmb (Nat.mod_lt _ (by omega)),?_,?_,fun k h1 h2=>?_⟩,rfl,rfl,rfl⟩
 ·generalize a*y=p at*
  omega
 ·have h1:=nO g.O (i+g.j) ((g.c+(a*y+o))%4294967296) o ho;have h2:=bG hy;have h3:=g.val;rw[h2,show i+(g.j+1)=i+g.j+1 by omega,Nat.pow_succ,Nat.mul_add a,Nat.add_mul];have e1:a*(y*4294967296^g.j)*4294967296^i=a*y*4294967296^(i+g.j):=by
   rw[<- Nat.mul_assoc,Nat.mul_assoc,<- Nat.pow_add,Nat.add_comm g.j i]
  rw[e1];generalize 4294967296^(i+g.j)=X at*
  generalize a*y=p at*
  have e2:(g.c+(p+o))=(g.c+(p+o))%4294967296+4294967296*((g.c+(p+o))/4294967296):=(Nat.mod_add_div _ _).symm;generalize hr:(g.c+(p+o))%4294967296=r at*
  generalize hq:(g.c+(p+o))/4294967296=q at*
  generalize natV (g.O.set (i+g.j) r)=N at*
  generalize natV g.O=M at*
  generalize natV (A.take i)*natV B=U at*
  generalize a*natV (B.take g.j)*4294967296^i=V at*
  -- N + o X = M + r X, M + c X = U + V, c + p + o = r + B q
  have e3:g.c*X+(p*X+o*X)=r*X+q*(X*4294967296):=by
   have:=congrArg (· *X) e2;simp only[Nat.add_mul]at this;rw[this]
   congr 1
   rw[Nat.mul_comm 4294967296 q,Nat.mul_assoc,Nat.mul_comm 4294967296 X]
  omega
 rw[List.getElem?_set_ne (by omega)];exact g.zero k h1 h2
theorem ye {A B:List Nat} {i a:Nat} (hA:A[i]?=some a) (g:Kn A B i a) (hj: ¬g.j<B.length): ∃g':HU A B,g'.i=i+1/\g'.O=g.O.set (i+B.length) g.c:=by
 have hi:=(List.getElem?_eq_some_iff.1 hA).1;have hjl:=g.hj;have e:g.j=B.length:=by omega
 have hz:=g.zero (i+B.length) (Nat.le_refl _) (by omega);refine⟨⟨i+1,g.O.set (i+B.length) g.c,hi,by simp[g.len],qR g.lmb g.hc,?_,fun k h1 h2=>?_⟩,rfl,rfl⟩
 ·have h1:=nO g.O (i+B.length) g.c 0 hz;have h2:=g.val;rw[e,List.take_length]at h2;rw[bG hA,Nat.add_mul];have e1:a*4294967296^i*natV B=a*natV B*4294967296^i:=by rw[Nat.mul_assoc,Nat.mul_comm (4294967296^i),<- Nat.mul_assoc]
  rw[e1];omega
 rw[List.getElem?_set_ne (by omega)];exact g.zero k (by omega) h2
theorem GN (a b:Int):gD (!(decide (a<0)==decide (b<0))) (a.natAbs*b.natAbs)=a*b:=by
 have h:=Int.natAbs_mul a b;unfold gD;rcases Int.lt_or_le a 0 with ha|ha<;>rcases Int.lt_or_le b 0 with hb|hb
 ·have:0<a*b:=Int.mul_pos_of_neg_of_neg ha hb;simp[ha,hb];omega
 ·have:a*b<=0:=Int.mul_nonpos_of_nonpos_of_nonneg (by omega) hb;have hb': ¬b<0:=by omega
  simp[ha,hb'];omega
 ·have:a*b<=0:=Int.mul_nonpos_of_nonneg_of_nonpos ha (by omega);have ha': ¬a<0:=by omega
  simp[ha',hb];omega
 have:0<=a*b:=Int.mul_nonneg ha hb;have ha': ¬a<0:=by omega
 have hb': ¬b<0:=by omega
 simp[ha',hb'];omega
abbrev tU (neg:Bool) (A:List Nat):List OObj:=[⟨32,2,[[.p (.raw (.bool neg)),.p (.sl (ls fU A))]]⟩]
abbrev tn:List OObj:=[⟨32,2,[[.raw (.bool false),.raw (.slice none 0 0)]]⟩]
theorem ib (a b:Int) (ha:Bh a) (hb:Bh b):CallC Tryz.prog 8 [tZ a,tZ b] ⟨[],tZ (a*b)⟩:=by
 have la:=ha.len;have lb:=hb.len;have hlA:=aU a.natAbs;have hlB:=aU b.natAbs;have vA:=aN a.natAbs;have vB:=aN b.natAbs;refine aS Tryz.func8 rfl Tryz.ntmps8 (aT (k:=?_));generalize aL a.natAbs=A at*
 generalize aL b.natAbs=B at*
 have e0:((A.length:Int)+(B.length:Int)).toNat=A.length+B.length:=by omega
 refine aX (aP e0 @kR) (k:=aF (aK (k:=?_)));refine aO (G:=HU A B) (fun g=>⟨(jk::jk::.one (.ptr 2 0 0 0)::.one (.ptr 3 0 0 0)::.one (.ptr 4 0 0 0)::.one (.sl 18 0 0 (A.length+B.length))::j4 (j4 (j4 (jk::jk::dw A::rN A.length::rN g.i::j16 (j16 (j16 (j4 (jk::jk::[])))))))),Hm [(2,tU (decide (a<0)) A),(3,tU (decide (b<0)) B),(4,tn),(18,[⟨56,1,lc fU g.O⟩])]⟩) (fun g=>A.length-g.i) ⟨0,ae (A.length+B.length) 0,by omega,by simp,fun x hx=>by simp at hx;omega,by simp[lP,natV],fun k h1 h2=>by rw[List.getElem?_replicate,if_pos h2]⟩ ?_ ?_
 ·refine aE ⟨rfl,rfl,rfl,rfl,trivial⟩ ?_;simp[wk]
 rintro⟨i,O,hi,len,lmb,val,zero⟩;simp only;by_cases hm:i<A.length
 ·obtain⟨x,hx⟩:=getElem?_of_lt hm;have hx':=cq hlA hx;refine aK (k:=bv rfl (aF (aG (aX hx (k:=bC (k:=aF (aK (k:=?_))))))));refine aO (G:=Kn A B i x) (fun g=>⟨(jk::jk::.one (.ptr 2 0 0 0)::.one (.ptr 3 0 0 0)::.one (.ptr 4 0 0 0)::.one (.sl 18 0 0 (A.length+B.length))::rN i::.raw (.int .u32 (x:Int))::.raw (.int .u64 (g.c:Int))::j4 (j4 (jk::jk::jk::dw A::rN A.length::rN i::j4 (jk::dw B::rN B.length::rN g.j::j16 (j16 (j4 (j4 (j4 (jk::jk::[]))))))))),Hm [(2,tU (decide (a<0)) A),(3,tU (decide (b<0)) B),(4,tn),(18,[⟨56,1,lc fU g.O⟩])]⟩) (fun g=>B.length-g.j) ⟨0,O,0,by omega,len,lmb,by omega,by simpa[natV] using val,zero⟩ ?_ ?_
  ·refine aE ⟨rfl,rfl,rfl,rfl,trivial⟩ ?_;simp[wk]
  intro g;by_cases hn:g.j<B.length
  ·obtain⟨y,hy⟩:=getElem?_of_lt hn;have hy':=cq hlB hy;have hlen:=g.len;obtain⟨o,ho⟩:=getElem?_of_lt (show i+g.j<g.O.length by omega);have ho':=cq g.lmb ho;have hb:=oS hx' hy';have hgc:=g.hc;obtain⟨g',q1,q2,q3⟩:=yf g hy ho hm hx' hy';have e1:((i:Int)+(g.j:Int)).toNat=i+g.j:=by omega
   have e2:(x:Int)*(y:Int)=((x*y:Nat):Int):=by simp
   generalize hp:x*y=p at*
   have e3:IntKind.u32.wrap ((g.c:Int)+((p:Int)+(o:Int)))=(((g.c+(p+o))%4294967296:Nat):Int):=by rw[<- tI];congr 1<;>omega
   have e4:Int.fdiv ((g.c:Int)+((p:Int)+(o:Int))) (2^(min 32 IntKind.u64.bits))=(((g.c+(p+o))/4294967296:Nat):Int):=by rw[<- Kc];congr 1<;>omega
   refine aK (k:=bv rfl (aF (aG (aX hy (k:=aX (aP e2 (aP e1 ho)) (k:=aX (aP e3 (aP e1 (aP ho @dA))) (k:=gV e4 (k:=bW (k:=?_)))))))));refine⟨g',by omega,aE ⟨rfl,rfl,rfl,by rw[q2];rfl,trivial⟩ ?_⟩;simp[wk,q1,q3]
  have hgj:=g.hj;have hgc:=g.hc;have hgl:=g.len;obtain⟨g',q1,q2⟩:=ye hx g hn;have e1:((i:Int)+(B.length:Int)).toNat=i+B.length:=by omega
  have e3:IntKind.u32.wrap (g.c:Int)=(g.c:Int):=by rw[tI];omega
  refine aK (k:=bE rfl ?_);show bL _ _ _ _;have hz:=g.zero (i+B.length) (Nat.le_refl _) (by omega);refine fc (aP e3 (aP e1 (aP hz @dA))) (k:=bW (k:=?_));refine⟨g',by omega,aE ⟨rfl,rfl,rfl,by rw[q2];rfl,trivial⟩ ?_⟩;simp[wk,q1]
 have hfin:natV O=a.natAbs*b.natAbs:=by
  have:i=A.length:=by omega
  rw[val,this,List.take_length,vA,vB]
 have h4:=jz (!(decide (a<0)==decide (b<0))) O lmb (by omega);rw[hfin,GN]at h4;refine aK (k:=bE rfl ?_);show bL _ _ _ _;refine bL.weak (bT 18 (bQ rfl)) ?_;have eT:List.take (A.length+B.length) O=O:=List.take_of_length_le (by omega);simp(disch:=omega) only[kd,tZ,ab,eT];refine bN [⟨6,_,_,_,h4⟩] (k:=aV @Tryz.results8)
def dblL:List Nat->Nat->List Nat
 |[],b=>[b]
 |x::l,b=>(2*x+b)%4294967296::dblL l (x/2147483648)
theorem yj: ∀(l:List Nat) (b:Nat),Lmb l->b<=1->natV (dblL l b)=2*natV l+b
 |[],b,_,_=>by simp[dblL,natV]
 |x::l,b,hl,hb=>by
  rw[dP]at hl;have hx:=hl.1;simp only[dblL,natV,yj l (x/2147483648) hl.2 (by omega)];omega
theorem Cb: ∀(l:List Nat) (b:Nat),Lmb l->b<=1->Lmb (dblL l b)
 |[],b,_,hb=>by simp[dblL,Lmb];omega
 |x::l,b,hl,hb=>by
  rw[dP]at hl;have hx:=hl.1;rw[dblL,dP];exact⟨Nat.mod_lt _ (by omega),Cb l _ hl.2 (by omega)⟩
theorem BB: ∀(l:List Nat) (b:Nat),(dblL l b).length=l.length+1
 |[],b=>rfl
 |x::l,b=>by simp[dblL,BB l]
theorem pY (a b n:Nat) (h:b<2^n):(a*2^n)|||b=a*2^n+b:=by
 have:=Nat.shiftLeft_add_eq_or_of_lt h a;rw[Nat.shiftLeft_eq]at this;exact this.symm
theorem uh (a b n:Nat) (h:b<2^n):b|||(a*2^n)=a*2^n+b:=by rw[Nat.or_comm,pY a b n h]
theorem To (a b:Nat) (ha:a<4294967296) (hb:b<4294967296):IntKind.u32.wrap (((BitVec.ofInt IntKind.u32.bits (a:Int)|||BitVec.ofInt IntKind.u32.bits (b:Int)).toNat:Nat):Int)=((a|||b:Nat):Int):=by
 rw[tI];show(((BitVec.ofInt 32 (a:Int)|||BitVec.ofInt 32 (b:Int)).toNat%4294967296:Nat):Int)=_;rw[BitVec.toNat_or];have e: ∀x:Nat,x<4294967296->(BitVec.ofInt 32 (x:Int)).toNat=x:=fun x hx=>by rw[BitVec.toNat_ofInt];show((x:Int)%4294967296).toNat=x;omega
 rw[e a ha,e b hb,Nat.mod_eq_of_lt];exact Nat.or_lt_two_pow (n:=32) ha hb
theorem Ag (a b:Nat) (ha:a<18446744073709551616) (hb:b<18446744073709551616):IntKind.u64.wrap (((BitVec.ofInt IntKind.u64.bits (a:Int)|||BitVec.ofInt IntKind.u64.bits (b:Int)).toNat:Nat):Int)=((a|||b:Nat):Int):=by
 rw[IntKind.wrap_u64];show((BitVec.ofInt 64 (a:Int)|||BitVec.ofInt 64 (b:Int)).toNat:Int)%_=_;rw[BitVec.toNat_or];have e: ∀x:Nat,x<18446744073709551616->(BitVec.ofInt 64 (x:Int)).toNat=x:=fun x hx=>by rw[BitVec.toNat_ofInt];show((x:Int)%18446744073709551616).toNat=x;omega
 rw[e a ha,e b hb];have:=Nat.or_lt_two_pow (n:=64) ha hb;generalize a|||b=c at*
 omega
theorem UF (a b:Nat) (ha:a<4294967296) (hb:b<4294967296):IntKind.u32.wrap (((BitVec.ofInt IntKind.u32.bits (a:Int)&&&BitVec.ofInt IntKind.u32.bits (b:Int)).toNat:Nat):Int)=((a&&&b:Nat):Int):=by
 rw[tI];show(((BitVec.ofInt 32 (a:Int)&&&BitVec.ofInt 32 (b:Int)).toNat%4294967296:Nat):Int)=_;rw[BitVec.toNat_and];have e: ∀x:Nat,x<4294967296->(BitVec.ofInt 32 (x:Int)).toNat=x:=fun x hx=>by rw[BitVec.toNat_ofInt];show((x:Int)%4294967296).toNat=x;omega
 rw[e a ha,e b hb,Nat.mod_eq_of_lt];exact Nat.lt_of_le_of_lt Nat.and_le_left ha
structure Vv (l:List Nat) (b:Nat) where
 i:Nat
 o:List Nat
 c:Nat
 hi:i<=l.length
 hc:c<=1
 ho:o.length=i
 h:o++dblL (l.drop i) c=dblL l b
theorem Lm (l:List Nat) (b:Nat) (lm:Lmb l) (hb:b<=1) (bl:l.length<=1073741824):CallC Tryz.prog 125 [dw l,.raw (.int .u32 (b:Int))] ⟨[],dw (dblL l b)⟩:=by
 refine aS Tryz.func125 rfl Tryz.ntmps125 (aT (k:=bC (k:=aF (bC (k:=?_)))));refine aO (G:=Vv l b) (fun g=>⟨(dw l::.raw (.int .u32 (g.c:Int))::jk::jk::.raw (.slice none 0 0)::.one (.sl 20 0 0 g.o.length)::jk::jk::dw l::rN l.length::rN g.i::j16 (jk::[])),Hm [(20,[⟨56,1,lc fU g.o⟩])]⟩) (fun g=>l.length-g.i) ⟨0,[],b,by omega,hb,rfl,rfl⟩ ?_ ?_
 ·refine(dx (k:=5) (d:=20) 56 1 (by omega) rfl rfl).trans (aE ⟨rfl,trivial⟩ ?_);simp[wk]
 rintro⟨i,o,c,hi,hc,ho,h⟩;simp only;by_cases hm:i<l.length
 ·obtain⟨a,ha⟩:=getElem?_of_lt hm;have ha':=cq lm ha;have e1:IntKind.u32.wrap ((a:Int)*2^min 1 IntKind.u32.bits)=((2*a%4294967296:Nat):Int):=by
   rw[<- tI];congr 1;show(a:Int)*2=_;omega
  have e2:=To (2*a%4294967296) c (by omega) (by omega);have e3:(2*a%4294967296)|||c=(2*a+c)%4294967296:=by
   have:=pY (a%2147483648) c 1 (by omega);rw[show 2*a%4294967296=a%2147483648*2^1 by omega,this];omega
  rw[e3]at e2;have e4:Int.fdiv (a:Int) (2^(min 31 IntKind.u32.bits))=((a/2147483648:Nat):Int):=by
   show Int.fdiv (a:Int) 2147483648=_;rw[Int.fdiv_eq_ediv_of_nonneg _ (by omega)];omega
  refine aK (k:=bv rfl (aF (aG (aX ha (k:=aX (aP e1 (aP e2 @jg)) (k:=gV e4 (k:=bW (k:=?_))))))));refine⟨⟨i+1,o++[(2*a+c)%4294967296],a/2147483648,by omega,by omega,by simp[ho],?_⟩,by simp only;omega,aE ⟨rfl,trivial⟩ ?_⟩
  ·rw[<- h,eo ha,dblL,List.append_assoc];rfl
  simp[wk]
 refine aK (k:=bE rfl (aX @jg (k:=?_)));have hfin:dblL l b=o++[c]:=by rw[<- h,dO (by omega:l.length<=i),dblL]
 (refine bA ⟨.inr rfl,fo 20 (bQ rfl) ?_ rfl⟩;simp(disch:=omega) only[kd,Tryz.results125,dw])
 simp only[hfin];rw[List.take_of_length_le (by simp)]
structure Ur (l:List Nat) where
 i:Nat
 u:Nat
 hi:i<=l.length/\i<=2
 hu:u=natV (l.take i)
theorem fG {l:List Nat} (h:Lmb l) (k:Nat):natV (l.take k)<4294967296^k:=by
 have h1:Lmb (l.take k):=fun a ha=>h a (List.mem_of_mem_take ha)
 have h2:=fF h1;exact Nat.lt_of_lt_of_le h2 (Nat.pow_le_pow_right (by omega) (by rw[List.length_take];omega))
theorem L6 (l:List Nat) (lm:Lmb l) (bl:l.length<=1073741824):CallC Tryz.prog 116 [dw l] ⟨[],.raw (.int .u64 (natV (l.take 2):Nat))⟩:=by
 refine aS Tryz.func116 rfl Tryz.ntmps116 (aT (k:=bC (k:=aF (bC (k:=?_)))));refine aO (G:=Ur l) (fun g=>⟨(dw l::jk::.raw (.int .u64 0)::.raw (.int .u64 (g.u:Int))::rN g.i::j16 (j4 (jk::[]))),Hm []⟩) (fun g=>l.length-g.i) ⟨0,0,⟨by omega,by omega⟩,rfl⟩ ?_ ?_
 ·refine aE trivial ?_;simp[wk]
 rintro⟨i,u,hi,hu⟩;simp only;have hlt:=fG lm i;rw[<- hu]at hlt;by_cases hm:i<l.length/\i<2
 ·obtain⟨a,ha⟩:=getElem?_of_lt hm.1;have ha':=cq lm ha;have hm2:=hm.2;have hm1:=hm.1;have hu2:=bG ha;rw[<- hu]at hu2;refine aF (aK (k:=aR rfl (aH (aF (aG ?_)))));have hi2:i=0\/i=1:=by omega
  rcases hi2 with rfl|rfl
  ·have e1:IntKind.u64.wrap ((a:Int)*2^min (32*((0:Nat):Int)).toNat IntKind.u64.bits)=(a:Int):=by
    rw[IntKind.wrap_u64];show((a:Int)*1)%_=_;omega
   have hu0:u=0:=by simpa[natV] using hu
   have e2:=Ag u a (by omega) (by omega);rw[hu0,Nat.zero_or,<- hu0]at e2;refine fc (aP ha (aP e1 e2)) (k:=bW (k:=?_));refine⟨⟨1,a,⟨by omega,by omega⟩,by rw[hu2,hu0];simp⟩,by simp only;omega,aE trivial ?_⟩;simp[wk]
  have e1:IntKind.u64.wrap ((a:Int)*2^min (32*((1:Nat):Int)).toNat IntKind.u64.bits)=((a*4294967296:Nat):Int):=by
   rw[IntKind.wrap_u64];show((a:Int)*4294967296)%_=_;omega
  simp only[Nat.pow_one]at hlt;have e2:=Ag u (a*4294967296) (by omega) (by omega);rw[show a*4294967296=a*2^32 from rfl,uh _ _ _ hlt,show a*2^32=a*4294967296 from rfl]at e2;refine fc (aP ha (aP e1 e2)) (k:=bW (k:=?_));refine⟨⟨2,a*4294967296+u,⟨by omega,by omega⟩,by rw[hu2];omega⟩,by simp only;omega,aE trivial ?_⟩;simp[wk]
 have hfin:u=natV (l.take 2):=by
  rw[hu];by_cases h2:i=2
  ·rw[h2]
  rw[List.take_of_length_le (by omega),List.take_of_length_le (by omega)]
 rw[<- hfin];by_cases h3:i<l.length
 ·refine aF (aK (k:=aJ rfl (bz (bC (k:=aV @Tryz.results116)))))
 refine aF (aK (k:=aJ rfl (bz (bC (k:=aV @Tryz.results116)))))
def se (z:Int):TV:=if -9223372036854775808<=z/\z<=9223372036854775807 then .tup [(false,[.p (.raw (.int .i64 z))]),(false,[.p (.raw (.bool true))])]else .tup [(false,[.p (.raw (.int .i64 0))]),(false,[.p (.raw (.bool false))])]
theorem EC {n:Nat} (h:2<(aL n).length):18446744073709551616<=n:=by
 have h1:=vd (cn n) (by intro h0;rw[h0]at h;simp at h);rw[aN]at h1;have h2:4294967296^2<=4294967296^((aL n).length-1):=Nat.pow_le_pow_right (by omega) (by omega);omega
theorem jh {n:Nat} (h:(aL n).length<=2):n<18446744073709551616:=by
 have h1:=fF (aU n);rw[aN]at h1;have h2:4294967296^(aL n).length<=4294967296^2:=Nat.pow_le_pow_right (by omega) h;omega
theorem tP (z:Int) (h:Bg z):CallC Tryz.prog 86 [tZ z] ⟨[],se z⟩:=by
 have ht:=iU (aL z.natAbs) h.len;rw[iG]at ht;have hw:=L6 (aL z.natAbs) (aU _) h.len;have hl:=h.len;by_cases h2:2<(aL z.natAbs).length
 ·have hb:=EC h2;rw[show se z= .tup [(false,[.p (.raw (.int .i64 0))]),(false,[.p (.raw (.bool false))])] by unfold se;rw[if_neg (by omega)]];refine aS Tryz.func86 rfl Tryz.ntmps86 (aT (k:=cb [⟨2,_,_,_,ht⟩] (k:=cb [⟨1,_,_,_,hw⟩] (k:=aF (aG (aK (k:=aR rfl (bC (k:=aV @Tryz.results86)))))))))
 have hb:=jh (n:=z.natAbs) (by omega);rw[List.take_of_length_le (by omega),aN]at hw;by_cases hz:z<0
 ·have e1:IntKind.i64.wrap (IntKind.u64.wrap (0-(z.natAbs:Int)))=z\/9223372036854775808<z.natAbs:=by
   rw[IntKind.wrap_u64];by_cases hz2:z.natAbs<=9223372036854775808
   ·left;have:(0-(z.natAbs:Int))%18446744073709551616=18446744073709551616+z:=by omega
    rw[this,IntKind.wrap_i64];omega
   right;omega
  by_cases hz2:z.natAbs<=9223372036854775808
  ·replace e1:=e1.resolve_right (by omega)
   rw[show se z= .tup [(false,[.p (.raw (.int .i64 z))]),(false,[.p (.raw (.bool true))])] by unfold se;rw[if_pos (by omega)]];refine aS Tryz.func86 rfl Tryz.ntmps86 (aT (k:=cb [⟨2,_,_,_,ht⟩] (k:=cb [⟨1,_,_,_,hw⟩] (k:=aF (aG (aK (k:=aJ rfl (aK (k:=aR rfl (il e1 (k:=aV @Tryz.results86)))))))))))
  rw[show se z= .tup [(false,[.p (.raw (.int .i64 0))]),(false,[.p (.raw (.bool false))])] by unfold se;rw[if_neg (by omega)]];refine aS Tryz.func86 rfl Tryz.ntmps86 (aT (k:=cb [⟨2,_,_,_,ht⟩] (k:=cb [⟨1,_,_,_,hw⟩] (k:=aF (aG (aK (k:=aJ rfl (aK (k:=aJ rfl (aK (k:=aJ rfl (aH (bC (k:=aV @Tryz.results86))))))))))))))
 by_cases hz2:z.natAbs<9223372036854775808
 ·have e1:IntKind.i64.wrap (z.natAbs:Int)=z:=by rw[IntKind.wrap_i64];omega
  rw[show se z= .tup [(false,[.p (.raw (.int .i64 z))]),(false,[.p (.raw (.bool true))])] by unfold se;rw[if_pos (by omega)]];refine aS Tryz.func86 rfl Tryz.ntmps86 (aT (k:=cb [⟨2,_,_,_,ht⟩] (k:=cb [⟨1,_,_,_,hw⟩] (k:=aF (aG (aK (k:=aJ rfl (aK (k:=aJ rfl (aK (k:=aR rfl (il e1 (k:=aV @Tryz.results86)))))))))))))
 rw[show se z= .tup [(false,[.p (.raw (.int .i64 0))]),(false,[.p (.raw (.bool false))])] by unfold se;rw[if_neg (by omega)]];refine aS Tryz.func86 rfl Tryz.ntmps86 (aT (k:=cb [⟨2,_,_,_,ht⟩] (k:=cb [⟨1,_,_,_,hw⟩] (k:=aF (aG (aK (k:=aJ rfl (aK (k:=aJ rfl (aK (k:=aJ rfl (aH (bC (k:=aV @Tryz.results86))))))))))))))
theorem mz: ∀{l:List Nat} {i x:Nat},Lmb l->l[i]?=some x->natV l/4294967296^i%4294967296=x
 |[],i,x,_,h=>by simp at h
 |a::l,0,x,hl,h=>by
  rw[dP]at hl;simp at h;subst h;have:=hl.1;simp only[natV,Nat.pow_zero];omega
 |a::l,i+1,x,hl,h=>by
  rw[dP]at hl;have ha:=hl.1;simp at h;have:=mz hl.2 h;rw[Nat.pow_succ,Nat.mul_comm,<- Nat.div_div_eq_div_mul];simp only[natV];rw[show(a+4294967296*natV l)/4294967296=natV l by omega];exact this
theorem yv (i:Nat):4294967296^i=2^(32*i):=by rw[Nat.pow_mul]
theorem Io {a k x:Nat} (h:(aL a)[k/32]?=some x):x/2^(k%32)%2=a/2^k%2:=by
 have h1:=mz (aU a) h;rw[aN,yv]at h1;rw[<- Nat.toNat_testBit,<- Nat.toNat_testBit,<- h1,show(4294967296:Nat)=2^32 from rfl,Nat.testBit_mod_two_pow,Nat.testBit_div_two_pow];rw[show k%32+32*(k/32)=k by omega];have:k%32<32:=by omega
 simp[this]
structure R5 (a b n:Nat) where
 t:Nat
 O:List Nat
 ht:t<=32*n
 len:O.length=n
 lmb:Lmb O
 val:natV O=a/2^t/b*2^t
theorem UQ (a k:Nat):a/2^k=2*(a/2^(k+1))+a/2^k%2:=by
 rw[Nat.pow_succ,<- Nat.div_div_eq_div_mul];omega
theorem Li {a b k:Nat} (hb:0<b) (h:2*(a/2^(k+1)%b)+a/2^k%2<b):a/2^k/b=2*(a/2^(k+1)/b)/\a/2^k%b=2*(a/2^(k+1)%b)+a/2^k%2:=by
 have h1:=UQ a k;have h2:=Nat.div_add_mod (a/2^(k+1)) b;generalize a/2^(k+1)=X at*
 generalize a/2^k%2=e at*
 generalize X%b=r at*
 generalize X/b=q at*
 have h3:a/2^k=b*(2*q)+(2*r+e):=by rw[h1,<- h2,Nat.mul_left_comm b 2 q];omega
 rw[h3];exact⟨by rw[Nat.mul_add_div hb,Nat.div_eq_of_lt h,Nat.add_zero],by rw[Nat.mul_add_mod,Nat.mod_eq_of_lt h]⟩
theorem Lh {a b k:Nat} (hb:0<b) (h:b<=2*(a/2^(k+1)%b)+a/2^k%2):a/2^k/b=2*(a/2^(k+1)/b)+1/\a/2^k%b=2*(a/2^(k+1)%b)+a/2^k%2-b:=by
 have h1:=UQ a k;have h2:=Nat.div_add_mod (a/2^(k+1)) b;have hr:a/2^(k+1)%b<b:=Nat.mod_lt _ hb;have he:a/2^k%2<2:=Nat.mod_lt _ (by omega);generalize a/2^(k+1)=X at*
 generalize a/2^k%2=e at*
 generalize X%b=r at*
 generalize X/b=q at*
 have h3:a/2^k=b*(2*q+1)+(2*r+e-b):=by have:=Nat.mul_left_comm b 2 q;rw[h1,<- h2,Nat.mul_add b (2*q) 1,Nat.mul_one];omega
 have h4:2*r+e-b<b:=by omega
 rw[h3];exact⟨by rw[Nat.mul_add_div hb,Nat.div_eq_of_lt h4,Nat.add_zero],by rw[Nat.mul_add_mod,Nat.mod_eq_of_lt h4]⟩
theorem Pj {a b n k:Nat} {O:List Nat} (hb:0<b) (ht:k+1<=32*n) (len:O.length=n) (lmb:Lmb O) (val:natV O=a/2^(k+1)/b*2^(k+1)) (h:2*(a/2^(k+1)%b)+a/2^k%2<b): ∃g:R5 a b n,g.t=k/\g.O=O:=
 ⟨⟨k,O,by omega,len,lmb,by rw[val,(Li hb h).1,Nat.pow_succ,Nat.mul_comm 2,Nat.mul_assoc,Nat.mul_comm 2]⟩,rfl,rfl⟩
theorem Pi {a b n k x:Nat} {O:List Nat} (hb:0<b) (ht:k+1<=32*n) (len:O.length=n) (lmb:Lmb O) (val:natV O=a/2^(k+1)/b*2^(k+1)) (h:b<=2*(a/2^(k+1)%b)+a/2^k%2) (hx:O[k/32]?=some x): ∃g:R5 a b n,g.t=k/\g.O=O.set (k/32) (x|||2^(k%32)):=by
 have hx':=cq lmb hx;have hj:k%32<32:=Nat.mod_lt _ (by omega);have hor:x|||2^(k%32)<4294967296:=Nat.or_lt_two_pow (n:=32) hx' (Nat.pow_lt_pow_right (by omega) hj);refine⟨⟨k,O.set (k/32) (x|||2^(k%32)),by omega,by simp[len],qR lmb hor,?_⟩,rfl,rfl⟩;have h1:=mz lmb hx;have h2:=nO O (k/32) (x|||2^(k%32)) x hx;have ek:2^(k+1)=2^(32*(k/32))*2^(k%32+1):=by rw[<- Nat.pow_add];congr 1;omega
 rw[yv]at h1 h2;rw[(Lh hb h).1];generalize a/2^(k+1)/b=q at*
 have h3:x=q%2^(31-k%32)*2^(k%32+1):=by
  rw[<- h1,val,ek,Nat.mul_comm (2^(32*(k/32))),<- Nat.mul_assoc,Nat.mul_div_cancel _ (Nat.pow_pos (by omega))];rw[show(4294967296:Nat)=2^(31-k%32)*2^(k%32+1) by rw[<- Nat.pow_add,show 31-k%32+(k%32+1)=32 by omega],Nat.mul_mod_mul_right]
 have h4:x|||2^(k%32)=x+2^(k%32):=by
  have:=pY (q%2^(31-k%32)) (2^(k%32)) (k%32+1) (Nat.pow_lt_pow_right (by omega) (by omega));rw[<- h3]at this;exact this
 rw[h4]at h2⊢;rw[Nat.add_mul,<- Nat.pow_add,show k%32+32*(k/32)=k by omega,val]at h2;have h5:(2*q+1)*2^k=q*2^(k+1)+2^k:=by rw[Nat.add_mul,Nat.one_mul,Nat.mul_comm 2 q,Nat.mul_assoc,Nat.mul_comm 2 (2^k),<- Nat.pow_succ]
 rw[h5];generalize natV (O.set (k/32) (x+2^(k%32)))=N at*
 generalize x*2^(32*(k/32))=U at*
 generalize q*2^(k+1)=V at*
 generalize 2^k=W at*
 omega
theorem xU {a n:Nat} (h:(aL a).length=n):a/2^(32*n)=0:=by
 have:=fF (aU a);rw[aN,yv,h]at this;exact Nat.div_eq_of_lt this
theorem F3 {a b:Nat} (h:b<=a):0<=gF a b:=by unfold gF;split<;>(try split)<;>omega
theorem K5 {a b:Nat} (h:a<b):gF a b<0:=by rw[oE h];decide
abbrev BD (a b:Nat):TV:= .tup [(false,[.p (.sl (ls fU (aL (a/b))))]),(false,[.p (.sl (ls fU (aL (a%b))))])]
theorem pR {a b:Nat} (h:a<=b):(aL a).length<=(aL b).length:=jm (aU _) (cn _) (by rw[aN,aN];exact h)
theorem Lj (a b:Nat) (hb:0<b) (la:(aL a).length<=536870912) (lb:(aL b).length<=536870912):CallC Tryz.prog 95 [dw (aL a),dw (aL b)] ⟨[],BD a b⟩:=by
 by_cases hs:(aL a).length<=2/\(aL b).length<=2
 ·obtain⟨sa,sb⟩:=hs;have ua:=jh sa;have ub:=jh sb;have h1:=L6 (aL a) (aU _) (by omega);have h2:=L6 (aL b) (aU _) (by omega);rw[List.take_of_length_le sa,aN]at h1;rw[List.take_of_length_le sb,aN]at h2;have hq:a/b<=a:=Nat.div_le_self _ _;have hr:a%b<b:=Nat.mod_lt _ hb;have h3:=AN false (a/b) (by omega);have h4:=AN false (a%b) (by omega);rw[show gD false (a/b)=((a/b:Nat):Int)from rfl]at h3;rw[show gD false (a%b)=((a%b:Nat):Int)from rfl]at h4;have hb0:(b:Int)≠0:=by omega
  have e1:IntKind.u64.wrap (Int.tdiv (a:Int) (b:Int))=((a/b:Nat):Int):=by
   rw[Int.tdiv_eq_ediv_of_nonneg (by omega),<- Int.natCast_ediv];generalize a/b=q at*;rw[IntKind.wrap_u64];omega
  have e2:Int.tmod (a:Int) (b:Int)=((a%b:Nat):Int):=by
   rw[Int.tmod_eq_emod_of_nonneg (by omega),<- Int.natCast_emod]
  unfold BD;generalize a/b=q at*
  generalize a%b=r at*
  refine aS Tryz.func95 rfl Tryz.ntmps95 (aT (k:=aF (aK (k:=aR rfl (cb [⟨1,_,_,_,h1⟩,⟨3,_,_,_,h2⟩] (k:=d6 [⟨3,_,_,_,h3⟩,⟨8,_,_,_,h4⟩] (aP @Int.natAbs_natCast (aP @ne_eq.{1} (aP hb0 (aP @not_false_eq_true (aP e1 e2))))) (k:=aV @Tryz.results95)))))))
 refine aS Tryz.func95 rfl Tryz.ntmps95 (aT (k:=?_));by_cases h3:(aL a).length<=2
 all_goals
  (first|refine ck fun _ K=>?_|refine aF (ck fun _ K=>?_)|refine aF (aF (ck fun _ K=>?_)));simp(disch:=omega) only[kd,aa];apply K
  first|refine aJ rfl (aH ?_)|refine bV rfl (fun h=>by simp at h<;>omega) (fun _=>aH ?_)
  show bL _ _ _ _
  (first|refine ck fun _ K=>?_|refine aF (ck fun _ K=>?_)|refine aF (aF (ck fun _ K=>?_)));simp(disch:=omega) only[kd,aa,kR];apply K
  (first|refine ck fun _ K=>?_|refine aF (ck fun _ K=>?_)|refine aF (aF (ck fun _ K=>?_)));simp(disch:=omega) only[kd,aa,bu];apply K
  refine aO (G:=R5 a b (aL a).length) (fun g=>⟨(dw (aL a)::dw (aL b)::jk::jk::.one (.sl 33 0 0 (aL a).length)::dw (aL (a/2^g.t%b))::jk::jk::.raw (.int .i64 ((g.t:Int)-1))::j16 (j16 (j16 (j16 (jk::jk::[]))))),Hm [(33,[⟨56,1,lc fU g.O⟩])]⟩) (fun g=>g.t) ⟨32*(aL a).length,ae (aL a).length 0,by omega,by simp,fun x hx=>by simp at hx;omega,by rw[lP,xU rfl];simp⟩ ?_ ?_
  ·refine(dx (k:=5) (d:=900) 56 1 (by omega) rfl rfl).trans ((bT 900 (bQ (f:=fU) (l:=[]) rfl)).trans (aE ⟨rfl,trivial⟩ ?_));simp[wk,gX,fX,xU rfl,cx];rfl
  rintro⟨t,O,ht,len,lmb,val⟩;simp only;cases t with
  |zero=>
   have htr:=iU O (by omega);rw[dX lmb,val]at htr;simp only[Nat.pow_zero,Nat.div_one,Nat.mul_one]at htr;simp only[Nat.pow_zero,Nat.div_one]
   (first|refine ck fun _ K=>?_|refine aF (ck fun _ K=>?_)|refine aF (aF (ck fun _ K=>?_)));simp(disch:=omega) only[kd,dw];apply K
   first|refine aJ rfl (bz ?_)|refine bV rfl (fun h=>by simp at h<;>omega) (fun _=>bz ?_)
   show bL _ _ _ _;refine bL.weak (bT 33 (bQ rfl)) ?_;have eT:List.take (aL a).length O=O:=List.take_of_length_le (by omega);simp(disch:=omega) only[kd,eT]
   (first|refine cB [⟨1,_,_,_,htr⟩] [] fun _ K=>?_|refine aF (cB [⟨1,_,_,_,htr⟩] [] fun _ K=>?_)|refine aF (aF (cB [⟨1,_,_,_,htr⟩] [] fun _ K=>?_)));simp only[kd,dw,aa];apply K
   (refine bA ⟨.inr rfl,cd rfl ?_ rfl⟩;simp(disch:=omega) only[kd,Tryz.results95])
  |succ k=>
   have ek:((k+1:Nat):Int)-1=(k:Int):=by omega
   simp only[ek];have hki:k/32<(aL a).length:=by omega
   obtain⟨x,hx⟩:=getElem?_of_lt hki;have hx':=cq (aU a) hx;obtain⟨y,hy⟩:=getElem?_of_lt (show k/32<O.length by omega);have hy':=cq lmb hy;have hbit:=Io hx;have hq:IntKind.i64.wrap (Int.tdiv (k:Int) 32)=((k/32:Nat):Int):=by
    rw[Int.tdiv_eq_ediv_of_nonneg (by omega),IntKind.wrap_i64];omega
   have hr:Int.tmod (k:Int) 32=((k%32:Nat):Int):=by rw[Int.tmod_eq_emod_of_nonneg (by omega)];omega
   have hmin:min (k%32) IntKind.u32.bits=k%32:=by show min (k%32) 32=_;omega
   have e1:Int.fdiv (x:Int) (2^min (k%32) IntKind.u32.bits)=((x/2^(k%32):Nat):Int):=by
    rw[hmin,Int.fdiv_eq_ediv_of_nonneg _ (Int.pow_nonneg (by omega)),Int.natCast_ediv,Int.natCast_pow];rfl
   have hxl:x/2^(k%32)<=x:=Nat.div_le_self _ _;have e2:IntKind.u32.wrap (((BitVec.ofInt IntKind.u32.bits ((x/2^(k%32):Nat):Int)&&&BitVec.ofInt IntKind.u32.bits (1:Int)).toNat:Nat):Int)=((a/2^k%2:Nat):Int):=by
    rw[<- hbit,<- Nat.and_one_is_mod];exact UF (x/2^(k%32)) 1 (by omega) (by omega)
   have hbl:a/2^k%2<2:=Nat.mod_lt _ (by omega);have hrb:a/2^(k+1)%b<b:=Nat.mod_lt _ hb;have lr:=pR (Nat.le_of_lt hrb);have h1:=Lm (aL (a/2^(k+1)%b)) (a/2^k%2) (aU _) (by omega) (by omega);have h2:=iU (dblL (aL (a/2^(k+1)%b)) (a/2^k%2)) (by rw[BB];omega);rw[dX (Cb _ _ (aU _) (by omega)),yj _ _ (aU _) (by omega),aN]at h2;by_cases hge:b<=2*(a/2^(k+1)%b)+a/2^k%2
   ·obtain⟨g',q1,q2⟩:=Pi hb ht len lmb val hge hy;have hrest:=(Lh hb hge).2;have lr':=jR (n:=2*(a/2^(k+1)%b)+a/2^k%2) (k:=(aL b).length+1) (by
     have:=fF (aU b);rw[aN]at this;have hlt: ∀r e P:Nat,r<b->e<2->b<P->2*r+e<P*4294967296:=by intros;omega
     exact Nat.lt_of_lt_of_le (hlt _ _ _ hrb hbl this) (Nat.le_of_eq (Nat.pow_succ ..).symm))
    generalize 2*(a/2^(k+1)%b)+a/2^k%2=R at*
    have h3:=F6 (aL R) (aL b) (aU _) (aU _) (cn _) (cn _) (by omega) (by omega);rw[aN,aN]at h3;have hc:=F3 hge;have h4:=mp (aL R) (aL b) (aU _) (aU _) (by omega) (by omega);have h5:=iU (diffL (aL R) (aL b) 0) (by rw[jQ];omega);have hd:=iQ (aL R) (aL b) 0 (aU _) (aU _) (by omega) (pR hge) (by rw[aN,aN];exact hge);rw[aN,aN]at hd;rw[dX (jS _ _ _),show natV (diffL (aL R) (aL b) 0)=a/2^k%b by omega]at h5;have hp2:2^(k%32)<4294967296:=Nat.pow_lt_pow_right (a:=2) (n:=32) (by omega) (Nat.mod_lt _ (by omega));have e3:IntKind.u32.wrap (1*2^min (k%32) IntKind.u32.bits)=((2^(k%32):Nat):Int):=by
     rw[hmin,Int.one_mul,show((2:Int)^(k%32))=((2^(k%32):Nat):Int) by rw[Int.natCast_pow];rfl,tI,Nat.mod_eq_of_lt hp2]
    have e4:=To y (2^(k%32)) hy' hp2
    (first|refine ck fun _ K=>?_|refine aF (ck fun _ K=>?_)|refine aF (aF (ck fun _ K=>?_)));simp(disch:=omega) only[kd,dw];apply K
    first|refine aR rfl (aH ?_)|refine bV rfl (fun _=>aH ?_) (fun h=>by simp at h<;>omega)
    refine aF (aG ?_)
    (first|refine cB [⟨10,_,_,_,h1⟩,⟨11,_,_,_,h2⟩] [] fun _ K=>?_|refine aF (cB [⟨10,_,_,_,h1⟩,⟨11,_,_,_,h2⟩] [] fun _ K=>?_)|refine aF (aF (cB [⟨10,_,_,_,h1⟩,⟨11,_,_,_,h2⟩] [] fun _ K=>?_)));simp(disch:=omega) only[kd,dw,aa,hq,hx,hr,e1,e2,af];apply K
    (first|refine cB [⟨2,_,_,_,h3⟩] [] fun _ K=>?_|refine aF (cB [⟨2,_,_,_,h3⟩] [] fun _ K=>?_)|refine aF (aF (cB [⟨2,_,_,_,h3⟩] [] fun _ K=>?_)));simp(disch:=omega) only[kd,dw,aa];apply K
    first|refine aR rfl ?_|refine bV rfl (fun _=>?_) (fun h=>by simp at h<;>omega)
    (first|refine cB [⟨2,_,_,_,h4⟩,⟨3,_,_,_,h5⟩] [] fun _ K=>?_|refine aF (cB [⟨2,_,_,_,h4⟩,⟨3,_,_,_,h5⟩] [] fun _ K=>?_)|refine aF (aF (cB [⟨2,_,_,_,h4⟩,⟨3,_,_,_,h5⟩] [] fun _ K=>?_)));simp only[kd,dw,aa,af];apply K
    refine nk (aP hq (aP hy (aP hr (aP e3 (aP e4 @dA))))) (k:=bW (k:=?_));refine⟨g',by omega,aE ⟨by rw[q2];rfl,trivial⟩ ?_⟩;simp[wk,q1]
   obtain⟨g',q1,q2⟩:=Pj hb ht len lmb val (by omega);have hrest:=(Li (a:=a) (k:=k) hb (by omega)).2;rw[<- hrest]at h2 hge;have lr':=pR (Nat.le_of_lt (Nat.mod_lt (a/2^k) hb));have h3:=F6 (aL (a/2^k%b)) (aL b) (aU _) (aU _) (cn _) (cn _) (by omega) (by omega);rw[aN,aN]at h3;have hc:=K5 (a:=a/2^k%b) (b:=b) (by omega)
   (first|refine ck fun _ K=>?_|refine aF (ck fun _ K=>?_)|refine aF (aF (ck fun _ K=>?_)));simp(disch:=omega) only[kd,dw];apply K
   first|refine aR rfl (aH ?_)|refine bV rfl (fun _=>aH ?_) (fun h=>by simp at h<;>omega)
   refine aF (aG ?_)
   (first|refine cB [⟨10,_,_,_,h1⟩,⟨11,_,_,_,h2⟩] [] fun _ K=>?_|refine aF (cB [⟨10,_,_,_,h1⟩,⟨11,_,_,_,h2⟩] [] fun _ K=>?_)|refine aF (aF (cB [⟨10,_,_,_,h1⟩,⟨11,_,_,_,h2⟩] [] fun _ K=>?_)));simp(disch:=omega) only[kd,dw,aa,hq,hx,hr,e1,e2,af];apply K
   (first|refine cB [⟨2,_,_,_,h3⟩] [] fun _ K=>?_|refine aF (cB [⟨2,_,_,_,h3⟩] [] fun _ K=>?_)|refine aF (aF (cB [⟨2,_,_,_,h3⟩] [] fun _ K=>?_)));simp(disch:=omega) only[kd,dw,aa];apply K
   first|refine aJ rfl (aH ?_)|refine bV rfl (fun h=>by simp at h<;>omega) (fun _=>aH ?_)
   show bL _ _ _ _;refine bW (k:=?_);refine⟨g',by omega,aE ⟨by rw[q2];rfl,trivial⟩ ?_⟩;simp[wk,q1]
theorem NI {P:Program} {p q t n:Nat} (h:szO P t=some n) (hn:n≠1): ∀x∈[(p,q,t)],szO P x.2.2≠some 1:=fun x hx=>by
 have:x=(p,q,t):=by simpa using hx
 subst this;rw[h];intro h';injection h' with h'
 exact hn h'
theorem E3 {s:AS} {p q t a r i j b r' i' j':Nat} (h1:s.tmps[p]?=some (.one (.ptr a r i j))) (h2:s.tmps[q]?=some (.one (.ptr b r' i' j'))) (hne:b≠a):A3 [(p,q,t)] s:=fun x hx a2 r2 i2 j2 b2 r3 i3 j3 g1 g2=>by
 have:x=(p,q,t):=by simpa using hx
 subst this;simp only[h1]at g1;simp only[h2]at g2;injection g1 with g1;injection g1 with g1;injection g1 with g1
 injection g2 with g2;injection g2 with g2;injection g2 with g2
 subst g1 g2;exact hne
def tq (a b:Int):Int:=gD (!(decide (a<0)==decide (b<0))) (a.natAbs/b.natAbs)
def tr (a b:Int):Int:=gD (decide (a<0)) (a.natAbs%b.natAbs)
theorem NL (a b:Int):tr a b+b*tq a b=a:=by
 have h:=Nat.div_add_mod a.natAbs b.natAbs;have h':(b.natAbs:Int)*((a.natAbs/b.natAbs:Nat):Int)+((a.natAbs%b.natAbs:Nat):Int)=(a.natAbs:Int):=by
  have:=congrArg (Nat.cast (R:=Int)) h;simpa using this
 unfold tq tr gD;generalize a.natAbs/b.natAbs=q at*
 generalize a.natAbs%b.natAbs=r at*
 by_cases ha:a<0<;>by_cases hb:b<0
 ·rw[decide_eq_true ha,decide_eq_true hb];show -(r:Int)+b*(q:Int)=a;rw[show(b.natAbs:Int)= -b by omega,show(a.natAbs:Int)= -a by omega,Int.neg_mul]at h';omega
 ·rw[decide_eq_true ha,decide_eq_false hb];show -(r:Int)+b* -(q:Int)=a;rw[show(b.natAbs:Int)=b by omega,show(a.natAbs:Int)= -a by omega]at h';rw[Int.mul_neg];omega
 ·rw[decide_eq_false ha,decide_eq_true hb];show(r:Int)+b* -(q:Int)=a;rw[show(b.natAbs:Int)= -b by omega,show(a.natAbs:Int)=a by omega,Int.neg_mul]at h';rw[Int.mul_neg];omega
 rw[decide_eq_false ha,decide_eq_false hb];show(r:Int)+b*(q:Int)=a;rw[show(b.natAbs:Int)=b by omega,show(a.natAbs:Int)=a by omega]at h';omega
theorem NM (a b:Int):(tr a b).natAbs=a.natAbs%b.natAbs:=oc _ _
theorem NK (a b:Int):(tq a b).natAbs=a.natAbs/b.natAbs:=oc _ _
theorem Hs {a b:Int} (hb:b≠0):(tr a b).natAbs<b.natAbs:=by rw[NM];exact Nat.mod_lt _ (by omega)
theorem D8 {a b:Int} (hb:b≠0) (h:0<=tr a b):a/b=tq a b/\a%b=tr a b:=by
 have h1:=NL a b;have h2:=Hs (a:=a) hb;rcases Int.lt_or_gt_of_ne hb with hn|hp
 ·exact(Int.ediv_emod_unique' hn).2 ⟨h1,h,by omega⟩
 exact(Int.ediv_emod_unique hp).2 ⟨h1,h,by omega⟩
theorem Gn {a b:Int} (hb:b<0) (h:tr a b<0):a/b=tq a b+1/\a%b=tr a b+b.natAbs:=by
 have h1:=NL a b;have h2:=Hs (a:=a) (b:=b) (by omega);refine(Int.ediv_emod_unique' hb).2 ⟨?_,by omega,by omega⟩;rw[Int.mul_add,Int.mul_one];omega
theorem Gp {a b:Int} (hb:0<b) (h:tr a b<0):a/b=tq a b-1/\a%b=tr a b+b.natAbs:=by
 have h1:=NL a b;have h2:=Hs (a:=a) (b:=b) (by omega);refine(Int.ediv_emod_unique hb).2 ⟨?_,by omega,by omega⟩;rw[Int.mul_sub,Int.mul_one];omega
theorem Sz.le {x y:Int} {k:Nat} (h:Sz y k) (hx:x.natAbs<=y.natAbs):Sz x k:=Nat.lt_of_le_of_lt hx h
theorem mJ {k:Nat} (h:0<k):Sz 1 k:=by unfold Sz;exact Nat.one_lt_pow (by omega) (by decide)
theorem KO:Bh 1:=mJ (by omega)
theorem Nu {z:Int} (h:z<0):sg z= -1:=by simp[sg,h]
theorem yE {z:Int} (h:0<=z):0<=sg z:=by unfold sg;split<;>(try split)<;>omega
theorem AU (a b:Int) (hb0:b≠0) (ha:Bh a) (hb:Bh b):CallC Tryz.prog 62 [tZ a,tZ b] ⟨[],.tup [(true,cZ (a/b)),(true,cZ (a%b)),(false,[.p (.raw (.bool true))])]⟩:=by
 have la:=ha.len;have lb:=hb.len;have t1:=iU (aL a.natAbs) ha.bg.len;have t2:=iU (aL b.natAbs) hb.bg.len;rw[iG]at t1 t2;have hl0:(aL b.natAbs).length≠0:=fun h=>hb0 (by have:=gh.1 h;omega)
 have hd:=Lj a.natAbs b.natAbs (by omega) la lb;have bq:Bh (tq a b):=ha.le (by rw[NK];exact Nat.div_le_self _ _);have br:Bh (tr a b):=hb.le (Nat.le_of_lt (Hs hb0));have hm1:=jz (!(decide (a<0)==decide (b<0))) (aL (a.natAbs/b.natAbs)) (aU _) (by have:=bq.bg.len;rwa[NK]at this);have hm2:=jz (decide (a<0)) (aL (a.natAbs%b.natAbs)) (aU _) (by have:=br.bg.len;rwa[NM]at this);rw[aN,show gD _ _=tq a b from rfl]at hm1;rw[aN,show gD _ _=tr a b from rfl]at hm2;have hs:=kt (tr a b) br.bg;have p0:= @D8 a b hb0;have p1:= @Gn a b;have p2:= @Gp a b;generalize tq a b=Q at*
 generalize tr a b=R at*
 by_cases hR:R<0
 ·have hm3:=jz false (aL b.natAbs) (aU _) (by omega);rw[aN,show gD false b.natAbs=((b.natAbs:Nat):Int)from rfl]at hm3;have hA:=qj R (b.natAbs:Int) br (by unfold Bh Sz;rw[Int.natAbs_natCast];exact hb);have hs2:=kt b hb.bg;have h1:=eA 1 (by omega) (by omega);rw[Nu hR]at hs;by_cases hbn:b<0
  ·obtain⟨e1,e2⟩:=p1 hbn hR;rw[e1,e2];rw[Nu hbn]at hs2;have hA2:=qj Q 1 bq KO;refine aS Tryz.func62 rfl Tryz.ntmps62 (aT (k:=df [⟨2,_,_,_,t1⟩,⟨5,_,_,_,t2⟩] (k:=aF (aK (k:=aJ rfl (aH (cb [⟨2,_,_,_,hd⟩] (k:=df [⟨6,_,_,_,hm1⟩,⟨10,_,_,_,hm2⟩] (k:=?_)))))))));refine bL.weak (aE (tm:=(jk::jk::.one (.ptr 2 0 0 0)::.one (.ptr 3 0 0 0)::.one (.ptr 4 0 0 0)::.one (.ptr 5 0 0 0)::.raw (.bool false)::jk::dw (aL b.natAbs)::jk::jk::.one (.ptr 11 0 0 0)::.one (.ptr 12 0 0 0)::j16 (j16 (j16 ([]))))) (l:=[(2,tU (decide (a<0)) (aL a.natAbs)),(3,tU true (aL b.natAbs)),(4,tn),(5,tn),(11,tU (decide (Q<0)) (aL Q.natAbs)),(12,tU true (aL R.natAbs))]) ⟨rfl,rfl,rfl,rfl,rfl,rfl,trivial⟩ (by simp[wk])) ?_;refine aF (bN [⟨1,_,_,_,hs⟩] (k:=aR rfl (df [⟨2,_,_,_,hm3⟩,⟨3,_,_,_,hA⟩] (k:=aF (bN [⟨1,_,_,_,hs2⟩] (k:=aR rfl ?_))))));refine uP [(12,4,32)] d8 [⟨1,_,_,_,h1⟩,⟨2,_,_,_,hA2⟩] [] (by kernel_rfl) (NI (n:=2) (by simp only[uz,rD,pi,mL,uy,rC,mM,w5,rF,mK,AL,ux,rE]) (by decide)) (E3 rfl rfl (by decide)) fun _ K=>?_;simp(disch:=omega) only[kd,tZ,aa,ab,af];apply K
   (refine bA ⟨.inr rfl,cd rfl ?_ rfl⟩;simp(disch:=omega) only[kd,Tryz.results62,ab,aa,cZ])
  obtain⟨e1,e2⟩:=p2 (by omega) hR;rw[e1,e2];have hs3:=yE (z:=b) (by omega);have hA2:=xv Q 1 bq KO;refine aS Tryz.func62 rfl Tryz.ntmps62 (aT (k:=df [⟨2,_,_,_,t1⟩,⟨5,_,_,_,t2⟩] (k:=aF (aK (k:=aJ rfl (aH (cb [⟨2,_,_,_,hd⟩] (k:=df [⟨6,_,_,_,hm1⟩,⟨10,_,_,_,hm2⟩] (k:=?_)))))))));refine bL.weak (aE (tm:=(jk::jk::.one (.ptr 2 0 0 0)::.one (.ptr 3 0 0 0)::.one (.ptr 4 0 0 0)::.one (.ptr 5 0 0 0)::.raw (.bool false)::jk::dw (aL b.natAbs)::jk::jk::.one (.ptr 11 0 0 0)::.one (.ptr 12 0 0 0)::j16 (j16 (j16 ([]))))) (l:=[(2,tU (decide (a<0)) (aL a.natAbs)),(3,tU false (aL b.natAbs)),(4,tn),(5,tn),(11,tU (decide (Q<0)) (aL Q.natAbs)),(12,tU true (aL R.natAbs))]) ⟨rfl,rfl,rfl,rfl,rfl,rfl,trivial⟩ (by simp[wk])) ?_;refine aF (bN [⟨1,_,_,_,hs⟩] (k:=aR rfl (df [⟨2,_,_,_,hm3⟩,⟨3,_,_,_,hA⟩] (k:=aF (bN [⟨1,_,_,_,hs2⟩] (k:=aJ rfl (aH ?_)))))));refine uP [(12,4,32)] d8 [⟨1,_,_,_,h1⟩,⟨2,_,_,_,hA2⟩] [] (by kernel_rfl) (NI (n:=2) (by simp only[uz,rD,pi,mL,uy,rC,mM,w5,rF,mK,AL,ux,rE]) (by decide)) (E3 rfl rfl (by decide)) fun _ K=>?_;simp(disch:=omega) only[kd,tZ,aa,ab,af];apply K
  (refine bA ⟨.inr rfl,cd rfl ?_ rfl⟩;simp(disch:=omega) only[kd,Tryz.results62,ab,aa,cZ])
 obtain⟨e1,e2⟩:=p0 (by omega);rw[e1,e2];have hs3:=yE (z:=R) (by omega);refine aS Tryz.func62 rfl Tryz.ntmps62 (aT (k:=df [⟨2,_,_,_,t1⟩,⟨5,_,_,_,t2⟩] (k:=aF (aK (k:=aJ rfl (aH (cb [⟨2,_,_,_,hd⟩] (k:=df [⟨6,_,_,_,hm1⟩,⟨10,_,_,_,hm2⟩] (k:=?_)))))))));refine bL.weak (aE (tm:=(jk::jk::.one (.ptr 2 0 0 0)::.one (.ptr 3 0 0 0)::.one (.ptr 4 0 0 0)::.one (.ptr 5 0 0 0)::.raw (.bool false)::jk::dw (aL b.natAbs)::jk::jk::.one (.ptr 11 0 0 0)::.one (.ptr 12 0 0 0)::j16 (j16 (j16 ([]))))) (l:=[(2,tU (decide (a<0)) (aL a.natAbs)),(3,tU (decide (b<0)) (aL b.natAbs)),(4,tn),(5,tn),(11,tU (decide (Q<0)) (aL Q.natAbs)),(12,tU false (aL R.natAbs))]) ⟨rfl,rfl,rfl,rfl,rfl,rfl,trivial⟩ (by simp[wk])) ?_;refine aF (bN [⟨1,_,_,_,hs⟩] (k:=aJ rfl (aH ?_)));refine uP [(12,4,32)] d8 [] [] (by kernel_rfl) (NI (n:=2) (by simp only[uz,rD,pi,mL,uy,rC,mM,w5,rF,mK,AL,ux,rE]) (by decide)) (E3 rfl rfl (by decide)) fun _ K=>?_;simp(disch:=omega) only[kd,aa,ab];apply K
 (refine bA ⟨.inr rfl,cd rfl ?_ rfl⟩;simp(disch:=omega) only[kd,Tryz.results62,ab,aa,cZ])
theorem uI (a b:Int) (hb0:b≠0) (ha:Bh a) (hb:Bh b):CallC Tryz.prog 26 [tZ a,tZ b] ⟨[],tZ (a/b)⟩:=by
 have h1:=AU a b hb0 ha hb;refine aS Tryz.func26 rfl Tryz.ntmps26 (aT (k:=bN [⟨2,_,_,_,h1⟩] (k:=aK (k:=aV @Tryz.results26))))
abbrev rOk (n:Nat) (r:List Int):Prop:=1<=r.length/\r.length<=16/\r.length=n
def Dp (M:List (List Int)):Prop:=1<=M.length/\M.length<=16/\ ∀r∈M,rOk (M.headD []).length r
instance (M:List (List Int)):Decidable (Dp M):=by unfold Dp;exact inferInstance
def TG (M:List (List Int)):TV:=if Dp M then .tup [(false,[.p (.raw (.int .i64 (M.length:Int)))]),(false,[.p (.raw (.int .i64 ((M.headD []).length:Int)))]),(false,[.p (.raw (.bool true))])]
 else .tup [(false,[.p (.raw (.int .i64 0))]),(false,[.p (.raw (.int .i64 0))]),(false,[.p (.raw (.bool false))])]
theorem gJ {M:List (List Int)} (h: ¬Dp M):TG M= .tup [(false,[.p (.raw (.int .i64 0))]),(false,[.p (.raw (.int .i64 0))]),(false,[.p (.raw (.bool false))])]:=by unfold TG;rw[if_neg h]
theorem iE {M:List (List Int)} (h:Dp M):TG M= .tup [(false,[.p (.raw (.int .i64 (M.length:Int)))]),(false,[.p (.raw (.int .i64 ((M.headD []).length:Int)))]),(false,[.p (.raw (.bool true))])]:=by unfold TG;rw[if_pos h]
theorem je {M:List (List Int)} (h:1<=M.length):M[0]?=some (M.headD []):=by cases M with
 |nil=>simp at h
 |cons r M=>rfl
structure WA (M:List (List Int)) where
 i:Nat
 hi:i<=M.length
 ok: ∀r∈M.take i,rOk (M.headD []).length r
theorem ot (M:List (List Int)):CallC Tryz.prog 85 [dV M] ⟨[],TG M⟩:=by
 by_cases h1:M.length<1
 ·rw[gJ (fun h=>by have:=h.1;omega)];refine aS Tryz.func85 rfl Tryz.ntmps85 (aT (k:=aF (aK (k:=aR rfl (bC (k:=aV @Tryz.results85))))))
 by_cases h2:16<M.length
 ·rw[gJ (fun h=>by have:=h.2.1;omega)];refine aS Tryz.func85 rfl Tryz.ntmps85 (aT (k:=aF (aK (k:=aR rfl (bC (k:=aV @Tryz.results85))))))
 have h0:=je (M:=M) (by omega);refine aS Tryz.func85 rfl Tryz.ntmps85 (aT (k:=aF (aK (k:=aJ rfl (aH (aF (bC (k:=?_))))))));refine aO (G:=WA M) (fun g=>⟨(dV M::jk::.raw (.int .i64 0)::.raw (.int .i64 0)::.raw (.bool false)::j4 (j4 (jk::jk::dV M::rN M.length::rN g.i::j16 (j4 (j4 (jk::jk::jk::[])))))),Hm []⟩) (fun g=>M.length-g.i) ⟨0,by omega,fun r hr=>by simp at hr⟩ ?_ ?_
 ·refine aE trivial ?_;simp[wk]
 rintro⟨i,hi,ok⟩;simp only;by_cases hm:i<M.length
 ·obtain⟨r,hr⟩:=getElem?_of_lt hm;have hmem:r∈M:=List.mem_of_getElem? hr;refine aK (k:=bv rfl (aF (aG (aX hr (k:=?_)))));by_cases c1:r.length<1
  ·rw[gJ (fun h=>by have:=(h.2.2 r hmem).1;omega)];refine aK (k:=aR rfl (bC (k:=aV @Tryz.results85)))
  by_cases c2:16<r.length
  ·rw[gJ (fun h=>by have:=(h.2.2 r hmem).2.1;omega)];refine aK (k:=aR rfl (bC (k:=aV @Tryz.results85)))
  by_cases c3:r.length=(M.headD []).length
  ·refine aX h0 (k:=aJ rfl (aH (bW (k:=?_))));refine⟨⟨i+1,by omega,fun r' hr'=>?_⟩,by simp only;omega,aE trivial ?_⟩
   ·rw[List.take_add_one,hr]at hr';rcases List.mem_append.1 hr' with h|h
    ·exact ok r' h
    have:r'=r:=by simpa using h
    subst this;exact⟨by omega,by omega,c3⟩
   simp[wk]
  rw[gJ (fun h=>by have:=(h.2.2 r hmem).2.2;omega)];refine aX h0 (k:=aR rfl (bC (k:=aV @Tryz.results85)))
 have hsh:Dp M:=⟨by omega,by omega,fun r hr=>ok r (by rw[List.take_of_length_le (by omega)];exact hr)⟩;rw[iE hsh];refine aK (k:=bE rfl (iN h0 (k:=aV @Tryz.results85)))
def Ve (M:List (List Int)):Prop:=Dp M/\M.length=(M.headD []).length
instance (M:List (List Int)):Decidable (Ve M):=by unfold Ve;exact inferInstance
def RN (M:List (List Int)):TV:=if Ve M then .tup [(false,[.p (.raw (.int .i64 (M.length:Int)))]),(false,[.p (.raw (.bool true))])]else .tup [(false,[.p (.raw (.int .i64 0))]),(false,[.p (.raw (.bool false))])]
theorem A4 (M:List (List Int)):CallC Tryz.prog 75 [dV M] ⟨[],RN M⟩:=by
 have hS:=ot M;by_cases h1:Dp M
 ·rw[iE h1]at hS;by_cases h2:M.length=(M.headD []).length
  ·rw[show RN M=_ from if_pos ⟨h1,h2⟩];refine aS Tryz.func75 rfl Tryz.ntmps75 (aT (k:=cb [⟨1,_,_,_,hS⟩] (k:=aF (aK (k:=aJ rfl (aH (bC (k:=aV @Tryz.results75))))))))
  rw[show RN M=_ from if_neg (fun h=>h2 h.2)];refine aS Tryz.func75 rfl Tryz.ntmps75 (aT (k:=cb [⟨1,_,_,_,hS⟩] (k:=aF (aK (k:=aR rfl (bC (k:=aV @Tryz.results75)))))))
 rw[gJ h1]at hS;rw[show RN M=_ from if_neg (fun h=>h1 h.1)];refine aS Tryz.func75 rfl Tryz.ntmps75 (aT (k:=cb [⟨1,_,_,_,hS⟩] (k:=aF (aK (k:=aR rfl (bC (k:=aV @Tryz.results75)))))))
def gL (d:Nat) (l:List Nat):List (List AV):=l.mapIdx fun k c=>[.sl d (k+1) 0 c]
def n7 (r:List Int):OObj:=⟨32,2,lc fZ r⟩
def RC (d:Nat) (R:List (List Int)):List OObj:=⟨61,1,gL d (R.map List.length)⟩::R.map n7
def RU (d n c i:Nat):List OObj:=⟨61,1,gL d (ae i c)++ae (n-i) [.p (.sl [])]⟩::ae i (n7 (ae c 0))
theorem cf (d:Nat) (l:List Nat):(gL d l).length=l.length:=by simp[gL]
theorem og (d:Nat) (l:List Nat) (c:Nat):gL d (l++[c])=gL d l++[[.sl d (l.length+1) 0 c]]:=by simp[gL,List.mapIdx_append]
theorem RM (d:Nat) (l:List Nat):(gL d l).map (List.map Dm)=gL d l:=by
 apply List.ext_getElem?;intro k;simp only[gL,az,List.getElem?_mapIdx];cases l[k]?<;>rfl
theorem UZ (r:List Int):(lc fZ r).map (List.map Dm)=lc fZ r:=by simp[lc,fZ,Dm,Dv]
theorem J8 (d n c:Nat):([⟨61,1,ae n [.raw (.slice none 0 0)]⟩]:List OObj).map zO=RU d n c 0:=by
 simp[RU,zO,gL,Dm,Dv]
theorem Oo (d n c:Nat):RU d n c n=RC d (ae n (ae c 0)):=by
 simp[RU,RC]
theorem Hz {d n c i:Nat} (hi:i<n):(gL d (ae i c)++ae (n-i) [AV.p (PV.sl [])])[i]?=some [.p (.sl [])]:=by
 rw[List.getElem?_append_right (by simp[cf]),cf,ay,Nat.sub_self,List.getElem?_replicate,if_pos (by omega)]
theorem Oq {d n c i:Nat} (hi:i<n):
  ((⟨61,1,(gL d (ae i c)++ae (n-i) [AV.p (PV.sl [])]).set i [.sl d (i+1) 0 c]⟩::ae i (n7 (ae c 0))++[⟨32,2,ae c [.raw (.bool false),.raw (.slice none 0 0)]⟩]:List OObj)).map zO=RU d n c (i+1):=by
 have e1:(gL d (ae i c)++ae (n-i) [AV.p (PV.sl [])]).set i [.sl d (i+1) 0 c]=gL d (ae (i+1) c)++ae (n-(i+1)) [AV.p (PV.sl [])]:=by
  rw[List.set_append_right _ _ (by simp[cf]),cf,ay,Nat.sub_self,List.replicate_succ' (n:=i),og,ay,List.append_assoc]
  congr 1
  rw[show n-i=n-(i+1)+1 by omega,List.replicate_succ];rfl
 rw[e1];simp only[List.cons_append,List.map_cons,List.map_append,List.map_replicate,RU]
 congr 1
 ·simp[zO,RM,Dm,Dv]
 rw[List.replicate_succ']
 congr 1
 ·congr 1
  simp[zO,n7,UZ]
 simp[zO,n7,lc,fZ,Dm,Dv,cx,ls]
theorem Hh (d e:Nat) (l:List Nat):(gL d l).map (List.map (dq e))=gL e l:=by
 apply List.ext_getElem?;intro k;simp only[gL,az,List.getElem?_mapIdx];cases l[k]?<;>rfl
theorem Qq (e:Nat) (r:List Int):renO e (n7 r)=n7 r:=by simp[renO,n7,pQ]
theorem GO (d e:Nat) (R:List (List Int)):(RC d R).map (renO e)=RC e R:=by
 simp only[RC,List.map_cons,List.map_map]
 congr 1
 ·simp[renO,Hh]
 exact List.map_congr_left fun r _=>Qq e r
structure WE (n:Nat) where
 i:Nat
 hi:i<=n
theorem rT (n c:Nat) (hn:n<=16) (hc:c<=16):CallC Tryz.prog 64 [.raw (.int .i64 (n:Int)),.raw (.int .i64 (c:Int))] ⟨RC 0 (ae n (ae c 0)),.one (.sl 0 0 0 n)⟩:=by
 refine aS Tryz.func64 rfl Tryz.ntmps64 (aT (k:=aK (k:=aF (bC (k:=?_)))));refine aO (G:=WE n) (fun g=>⟨(.raw (.int .i64 (n:Int))::rN c::jk::jk::.raw (.slice none 0 0)::.one (.sl 8 0 0 n)::j4 (.raw (.int .i64 (n:Int))::rN g.i::j4 (j4 (jk::[])))),Hm [(8,RU 8 n c g.i)]⟩) (fun g=>n-g.i) ⟨0,by omega⟩ ?_ ?_
 ·refine(gR 8).trans (aE ⟨J8 8 n c,trivial⟩ ?_);simp[wk]
 rintro⟨i,hi⟩;simp only;by_cases hm:i<n
 ·refine aK (k:=bv rfl (aF (aG (bC (k:=?_)))));simp only[RU];have hg:=Hz (d:=8) (c:=c) hm;refine fc (aP hg (aP @ay.{0} (aP @List.all_replicate.{0} @ite_self.{1}))) (k:=bW (k:=?_));refine⟨⟨i+1,by omega⟩,by simp only;omega,(gR 8).trans (aE ⟨Oq hm,trivial⟩ ?_)⟩;simp[wk]
 have hin:i=n:=by omega
 subst hin;refine aK (k:=bE rfl ?_);show bL _ _ _ _;rw[Oo];refine bC (k:=?_);refine bA ⟨.inr rfl,_,ci.refl _,?_⟩;refine⟨.one (.sl 8 0 0 i),8,?_,rfl,?_,rfl⟩
 ·simp(disch:=omega) only[kd,Tryz.results64]
 exact(GO 8 0 _).symm
abbrev gp (d n c:Nat) (f:FF):List OObj:=⟨61,1,gL d (ae n c)⟩::(bi n c f).map n7
theorem L8 (n c:Nat) (f:FF):(bi n c f).map List.length=ae n c:=by
 apply List.ext_getElem?;intro i;rw[az,List.getElem?_replicate];by_cases h:i<n
 ·rw[bx _ _ h,if_pos h];simp[bf]
 rw[ar (by rw[aW];omega),if_neg h];rfl
theorem nM (d n c:Nat) (f:FF):RC d (bi n c f)=gp d n c f:=by rw[RC,L8]
theorem oO (n c:Nat):ae n (ae c (0:Int))=bi n c fun _ _=>0:=by
 apply List.ext_getElem?;intro i;rw[List.getElem?_replicate];by_cases h:i<n
 ·rw[bx _ _ h,if_pos h]
  congr 1
  apply List.ext_getElem?;intro j;rw[List.getElem?_replicate];by_cases h:j<c
  ·rw[aQ _ h,if_pos h]
  rw[ar (by rw[bf];omega),if_neg h]
 rw[ar (by rw[aW];omega),if_neg h]
theorem bJ {n i:Nat} (d c:Nat) (h:i<n):(gL d (ae n c))[i]?=some [.sl d (i+1) 0 c]:=by
 simp[gL,h]
theorem dU {n i:Nat} (c:Nat) (f:FF) (h:i<n):((bi n c f).map n7)[i]?=some ⟨32,2,lc fZ (bj c (f i))⟩:=by
 rw[az,bx _ _ h];rfl
def upd (f:FF) (i j:Nat) (v:Int):Nat->Nat->Int:=fun a=>if a=i then(fun b=>if b=j then v else f i b)else f a
theorem iB {n i j:Nat} (c:Nat) (f:FF) (v:Int):((bi n c f).map n7).set i ⟨32,2,(lc fZ (bj c (f i))).set j [.p (.raw (.bool (decide (v<0)))),.p (.sl (ls fU (aL v.natAbs)))]⟩=(bi n c (upd f i j v)).map n7:=by
 have e:(⟨32,2,(lc fZ (bj c (f i))).set j [.p (.raw (.bool (decide (v<0)))),.p (.sl (ls fU (aL v.natAbs)))]⟩:OObj)=n7 (bj c fun b=>if b=j then v else f i b):=by
  rw[<- rp,n7,<- zR];rfl
 rw[e,<- List.map_set,GL];rfl
theorem b7 {n c:Nat} {f g:FF} (h: ∀i j,i<n->j<c->f i j=g i j):(bi n c f).map n7=(bi n c g).map n7:=by rw[ig h]
theorem fE (d e n c:Nat) (f:FF):(gp d n c f).map (renO e)=gp e n c f:=by rw[<- nM,<- nM,GO]
theorem iv {H:OH} {d n c:Nat} {f:FF} (h:H d=gp d n c f):xg H d:=fun r o ho e he x hx=>by
 rw[h]at ho;cases r with
 |succ r=>
  rw[List.getElem?_cons_succ,az]at ho;obtain⟨l,hl,rfl⟩:=Option.map_eq_some_iff.1 ho;exact .inl (eY _ _ l e he x hx)
 |zero=>
  simp at ho;subst ho;simp only at he;obtain⟨k,hk⟩:=List.mem_iff_getElem?.1 he;have hkn:k<n:=by
   have:=(List.getElem?_eq_some_iff.1 hk).1;rwa[cf,ay]at this
  rw[bJ d c hkn]at hk;injection hk with hk
  subst hk;simp at hx;subst hx;refine .inr ⟨k+1,0,c,n7 (bj c (f k)),rfl,?_,eY _ _ _⟩;rw[h,List.getElem?_cons_succ,az,bx _ _ hkn];rfl
theorem LA {H:OH} {d n c:Nat} {f:FF} (h:H d=gp d n c f):gX H d (.one (.sl d 0 0 n))=dV (bi n c f):=by
 have e:((gL d (ae n c)).map (List.map (kJ H d)))=ls (fR fZ) (bi n c f):=by
  apply List.ext_getElem?;intro i;rw[az,iA];by_cases hi:i<n
  ·rw[bJ d c hi,bx _ _ hi];simp only[Option.map_some,List.map_cons,List.map_nil,kJ,h,List.getElem?_cons_succ,dU _ _ hi,fR,gS,zP,qQ];rw[List.drop_zero,List.take_of_length_le (by rw[bf];omega)]
  rw[ar (by rw[cf,ay];omega),ar (by rw[aW];omega)];rfl
 simp only[gX,fX,if_true,h,List.getElem?_cons_zero];rw[List.drop_zero,List.take_of_length_le (by rw[cf,ay];omega),e]
def S1:TV:= .tup [(false,[.p (.raw (.slice none 0 0))]),(false,[.p (.raw (.bool false))])]
def Po (M:List (List Int)):TV:= .tup [(false,[.p (.sl (ls (fR fZ) M))]),(false,[.p (.raw (.bool true))])]
structure iJ (n:Nat) where
 i:Nat
 hi:i<=n
def part (f:FF) (i j:Nat):Nat->Nat->Int:=fun a b=>if a<i\/(a=i/\b<j)then f a b else 0
theorem iR (f:FF) (i j a b:Nat):upd (part f i j) i j (f i j) a b=part f i (j+1) a b:=by
 unfold upd part;by_cases h1:a=i
 ·subst h1;by_cases h2:b=j
  ·subst h2;simp
  have:b<j+1↔b<j:=by omega
  simp[h2,this]
 simp[h1]
theorem ko {c:Nat} (f:FF) (i a b:Nat) (hb:b<c):part f i c a b=part f (i+1) 0 a b:=by
 unfold part;by_cases h1:a<i
 ·rw[if_pos (.inl h1),if_pos (.inl (by omega))]
 by_cases h2:a=i
 ·rw[if_pos (.inr ⟨h2,hb⟩),if_pos (.inl (by omega))]
 rw[if_neg (by omega),if_neg (by omega)]
theorem kn {n:Nat} (f:FF) (a b:Nat) (ha:a<n):part f n 0 a b=f a b:=by
 unfold part;rw[if_pos (.inl ha)]
theorem sI (f:FF):part f 0 0=fun _ _=>0:=by
 funext a b;unfold part;rw[if_neg (by omega)]
theorem uC (n c:Nat) (f:FF) (hn1:1<=n) (hn:n<=16) (hc1:1<=c) (hc:c<=16) (hf: ∀i j,i<n->j<c-> -9223372036854775808<=f i j/\f i j<=9223372036854775807):
  CallC Tryz.prog 29 [dj (bi n c f)] ⟨[],Po (bi n c f)⟩:=by
 have hml:=aW n c f;have h0:=bx (n:=n) c f (i:=0) (by omega);have hZ:=rT n c hn hc;rw[oO,nM]at hZ;refine aS Tryz.func29 rfl Tryz.ntmps29 (aT (k:=aF (aX hml (k:=aJ rfl (aH (aF (il hml (k:=?_))))))));refine aO (G:=iJ n) (fun g=>⟨(dj (bi n c f)::jk::.raw (.slice none 0 0)::.raw (.bool false)::j4 (j4 (j4 (jk::dj (bi n c f)::rN n::rN g.i::j16 (j16 (j16 (j4 (j4 (jk::jk::[]))))))))),Hm []⟩) (fun g=>n-g.i) ⟨0,by omega⟩ ?_ ?_
 ·refine aE trivial ?_;simp[wk]
 rintro⟨i,hi⟩;simp only;by_cases hm:i<n
 ·have hr:=bx c f hm;refine aK (k:=bv rfl (aF (aG (aX hr (k:=aX (aP @bf h0) (k:=aJ rfl (aH (bW (k:=?_)))))))));refine⟨⟨i+1,by omega⟩,by simp only;omega,aE trivial ?_⟩;simp[wk]
 refine aK (k:=bE rfl (dr [⟨6,_,_,_,hZ⟩] (aP hml (aP h0 @bf)) (k:=aF (il hml (k:=?_)))));refine aO (G:=iJ n) (fun g=>⟨(dj (bi n c f)::jk::.raw (.slice none 0 0)::.raw (.bool false)::jk::jk::.one (.sl 47 0 0 n)::j16 (j16 (j4 (j4 (jk::jk::rN n::rN g.i::j16 (j4 (j4 (jk::jk::jk::[])))))))),Hm [(47,gp 47 n c (part f g.i 0))]⟩) (fun g=>n-g.i) ⟨0,by omega⟩ ?_ ?_
 ·refine aE ⟨?_,trivial⟩ ?_
  ·rw[sI];exact fE 0 47 n c _
  simp[wk]
 rintro⟨i,hi⟩;simp only;by_cases hm2:i<n
 ·have hr:=bx c f hm2;refine aK (k:=bv rfl (aF (aG (bC (k:=aX (aP hr @bf) (k:=?_))))));refine aO (G:=iJ c) (fun g=>⟨(dj (bi n c f)::jk::.raw (.slice none 0 0)::.raw (.bool false)::jk::jk::.one (.sl 47 0 0 n)::rN i::j16 (j16 (j4 (j4 (jk::rN n::rN i::j4 (jk::jk::rN c::rN g.i::j16 (jk::jk::jk::[]))))))),Hm [(47,gp 47 n c (part f i g.i))]⟩) (fun g=>c-g.i) ⟨0,by omega⟩ ?_ ?_
  ·refine aE ⟨rfl,trivial⟩ ?_;simp[wk]
  rintro⟨j,hj⟩;simp only;by_cases hm3:j<c
  ·have hjr:=aQ (f i) hm3;have hS:=eA (f i j) (hf i j hm2 hm3).1 (hf i j hm2 hm3).2;have g1:=bJ (n:=n) (i:=i) 47 c hm2;have g2:=dU c (part f i j) hm2;have g3:=aQ (part f i j i) hm3;refine aK (k:=bv rfl (aF (aG (bC (k:=f5 [⟨12,_,_,_,hS⟩] (aP g1 (aP hr (aP hjr (aP g2 (aP g3 @iB))))) (k:=bW (k:=?_)))))));refine⟨⟨j+1,by omega⟩,by simp only;omega,aE ⟨?_,trivial⟩ ?_⟩
   ·show _::_=_::_;rw[b7 fun a b _ _=>iR f i j a b]
   simp[wk]
  have hjc:j=c:=by omega
  subst hjc;refine aK (k:=bE rfl (bW (k:=?_)));refine⟨⟨i+1,by omega⟩,by simp only;omega,aE ⟨?_,trivial⟩ ?_⟩
  ·show _::_=_::_;rw[b7 fun a b _ hb=>ko f i a b hb]
  simp[wk]
 have hin:i=n:=by omega
 subst hin;refine aK (k:=bE rfl ?_);show bL _ _ _ _;have e:gp 47 i c (part f i 0)=gp 47 i c f:=by
  show _::_=_::_;rw[b7 fun a b ha _=>kn f a b ha]
 rw[e];refine bL.weak ((bT 47 (iv rfl)).trans (aE (tm:=(j4 (jk::jk::dV (bi i c f)::j16 (j16 (j16 (j16 (j4 (jk::jk::jk::[])))))))) (l:=[]) trivial (by simp[wk];exact(LA (H:=Hm [(47,gp 47 i c f)]) (d:=47) (n:=i) (c:=c) (f:=f) rfl).symm))) ?_;refine bC (k:=aV (aP @Tryz.results29 @Po.eq_1))
structure Wh (M:List (List Int)) where
 i:Nat
 hi:i<=M.length
 ok: ∀r∈M.take i,rOk (M.headD []).length r
theorem AX (M:List (List Int)) (hM: ¬Dp M):CallC Tryz.prog 29 [dj M] ⟨[],S1⟩:=by
 by_cases h1:M.length<1
 ·refine aS Tryz.func29 rfl Tryz.ntmps29 (aT (k:=aF (aK (k:=aR rfl (bC (k:=aV (aP @Tryz.results29 @S1.eq_1)))))))
 by_cases h2:16<M.length
 ·refine aS Tryz.func29 rfl Tryz.ntmps29 (aT (k:=aF (aK (k:=aR rfl (bC (k:=aV (aP @Tryz.results29 @S1.eq_1)))))))
 have h0:=je (M:=M) (by omega);refine aS Tryz.func29 rfl Tryz.ntmps29 (aT (k:=aF (aK (k:=aJ rfl (aH (aF (bC (k:=?_))))))));refine aO (G:=Wh M) (fun g=>⟨(dj M::jk::.raw (.slice none 0 0)::.raw (.bool false)::j4 (j4 (j4 (jk::dj M::rN M.length::rN g.i::j16 (j16 (j16 (j4 (j4 (jk::jk::[]))))))))),Hm []⟩) (fun g=>M.length-g.i) ⟨0,by omega,fun r hr=>by simp at hr⟩ ?_ ?_
 ·refine aE trivial ?_;simp[wk]
 rintro⟨i,hi,ok⟩;simp only;by_cases hm:i<M.length
 ·obtain⟨r,hr⟩:=getElem?_of_lt hm;refine aK (k:=bv rfl (aF (aG (aX hr (k:=?_)))));by_cases c1:r.length<1
  ·refine aK (k:=aR rfl (bC (k:=aV (aP @Tryz.results29 @S1.eq_1))))
  by_cases c2:16<r.length
  ·refine aK (k:=aR rfl (bC (k:=aV (aP @Tryz.results29 @S1.eq_1))))
  by_cases c3:r.length=(M.headD []).length
  ·refine aX h0 (k:=aJ rfl (aH (bW (k:=?_))));refine⟨⟨i+1,by omega,fun r' hr'=>?_⟩,by simp only;omega,aE trivial ?_⟩
   ·rw[List.take_add_one,hr]at hr';rcases List.mem_append.1 hr' with h|h
    ·exact ok r' h
    have:r'=r:=by simpa using h
    subst this;exact⟨by omega,by omega,c3⟩
   simp[wk]
  refine aX h0 (k:=aR rfl (bC (k:=aV (aP @Tryz.results29 @S1.eq_1))))
 exact absurd ⟨by omega,by omega,fun r hr=>ok r (by rw[List.take_of_length_le (by omega)];exact hr)⟩ hM
theorem Se (n c:Nat) (f:FF) (hn1:1<=n) (hn:n<=16) (hc1:1<=c) (hc:c<=16) (hf: ∀i j,i<n->j<c-> -9223372036854775808<=f i j/\f i j<=9223372036854775807):
  CallC Tryz.prog 10 [dj (bi n c f)] ⟨[],dV (bi n c f)⟩:=by
 have hF:=uC n c f hn1 hn hc1 hc hf;refine aS Tryz.func10 rfl Tryz.ntmps10 (aT (k:=fw [⟨1,_,_,_,hF⟩] @Po.eq_1 (k:=bC (k:=aV @Tryz.results10))))
theorem zB (k more:Nat) (hk:k<=16) (hm:more<=16):CallC Tryz.prog 110 [.raw (.int .i64 (k:Int)),.raw (.int .i64 (more:Int))] ⟨[],AB (List.range k++[more])⟩:=by
 refine aS Tryz.func110 rfl Tryz.ntmps110 (aT (k:=bC (k:=aF (bC (k:=?_)))));refine aO (G:=iJ k) (fun g=>⟨(.raw (.int .i64 (k:Int))::rN more::jk::jk::.raw (.slice none 0 0)::.one (.sl 15 0 0 g.i)::rN g.i::j4 (j4 (j4 (jk::[])))),Hm [(15,[⟨3,1,lc fN (List.range g.i)⟩])]⟩) (fun g=>k-g.i) ⟨0,by omega⟩ ?_ ?_
 ·refine(dx (k:=5) (d:=15) 3 1 (by omega) rfl rfl).trans (aE ⟨rfl,trivial⟩ ?_);simp[wk]
 rintro⟨i,hi⟩;simp only;by_cases hm:i<k
 ·refine aF (aK (k:=aR rfl (aH (aF (aG (fc (aP @List.length_range @nE) (k:=bW (k:=?_))))))));refine⟨⟨i+1,by omega⟩,by simp only;omega,aE ⟨?_,trivial⟩ ?_⟩
  ·rw[List.range_succ];rfl
  simp[wk]
 have hik:i=k:=by omega
 subst hik;refine aF (aK (k:=aJ rfl (bz (aX (aP @List.length_range @nE) (k:=?_)))));refine bA ⟨.inr rfl,fo 15 (bQ rfl) ?_ rfl⟩;have eT:List.take (i+1) (List.range i++[more])=List.range i++[more]:=List.take_of_length_le (by simp);simp(disch:=omega) only[kd,Tryz.results110,eT,AB]
structure Vc (n:Nat) where
 i:Nat
 hi:i<=n
theorem nF (l:List Int) (v:Int):lc fZ l++[[.p (.raw (.bool (decide (v<0)))),.p (.sl (ls fU (aL v.natAbs)))]]=lc fZ (l++[v]):=by simp[lc,fZ]
theorem L4 (M:List (List Int)) (r:List Int):lc (fR fZ) M++[[.p (.sl (ls fZ r))]]=lc (fR fZ) (M++[r]):=by simp[lc,fR]
theorem yK {α β:Type} {l:List α} {i:Nat} {x:α} (g:α->β) (h:l[i]?=some x):(l.take i).map g++[g x]=(l.take (i+1)).map g:=by
 rw[List.take_add_one,h];simp
theorem uL (n c:Nat) (f:FF) (rs cs:List Nat) (hn:n<=16) (hc:c<=16) (hr: ∀x∈rs,x<n) (hs: ∀x∈cs,x<c) (lr:rs.length<=17) (lcs:cs.length<=17):
  CallC Tryz.prog 109 [dV (bi n c f),AB rs,AB cs] ⟨[],dV (rs.map fun i=>cs.map (f i))⟩:=by
 have hml:=aW n c f;refine aS Tryz.func109 rfl Tryz.ntmps109 (aT (k:=bC (k:=aF (bC (k:=?_)))));refine aO (G:=Vc rs.length) (fun g=>⟨(dV (bi n c f)::AB rs::AB cs::jk::jk::jk::.raw (.slice none 0 0)::.one (.sl 39 0 0 g.i)::j4 (jk::AB rs::rN rs.length::rN g.i::j16 (j4 (j4 (jk::jk::[]))))),Hm [(39,[⟨61,1,lc (fR fZ) ((rs.take g.i).map fun i=>cs.map (f i))⟩])]⟩) (fun g=>rs.length-g.i) ⟨0,by omega⟩ ?_ ?_
 ·refine(dx (k:=7) (d:=39) 61 1 (by omega) rfl rfl).trans (aE ⟨rfl,trivial⟩ ?_);simp[wk]
 rintro⟨i,hi⟩;simp only;by_cases hm:i<rs.length
 ·obtain⟨r,hri⟩:=getElem?_of_lt hm;have hrn:=hr r (List.mem_of_getElem? hri);have hrow:=bx c f hrn;refine aK (k:=bv rfl (aF (aG (aX hri (k:=bC (k:=aF (bC (k:=?_))))))));refine aO (G:=Vc cs.length) (fun g=>⟨(dV (bi n c f)::AB rs::AB cs::jk::jk::jk::.raw (.slice none 0 0)::.one (.sl 39 0 0 i)::jk::rN r::.one (.sl 34 0 0 g.i)::jk::jk::AB rs::rN rs.length::rN i::jk::jk::jk::AB cs::rN cs.length::rN g.i::j16 (j4 ([]))),Hm [(39,[⟨61,1,lc (fR fZ) ((rs.take i).map fun i=>cs.map (f i))⟩]),(34,[⟨32,2,lc fZ ((cs.take g.i).map (f r))⟩])]⟩) (fun g=>cs.length-g.i) ⟨0,by omega⟩ ?_ ?_
  ·refine(dx (k:=10) (d:=34) 32 2 (by omega) rfl rfl).trans (aE ⟨rfl,rfl,trivial⟩ ?_);simp[wk]
  rintro⟨j,hj⟩;simp only;by_cases hm2:j<cs.length
  ·obtain⟨s,hsj⟩:=getElem?_of_lt hm2;have hsc:=hs s (List.mem_of_getElem? hsj);have hent:=aQ (f r) hsc;have eL:((cs.take j).map (f r)).length=j:=by simp;omega
   refine aK (k:=bv rfl (aF (aG (aX hsj (k:=fc (aP hrow (aP hent (aP eL (aP @nF (yK (f r) hsj))))) (k:=bW (k:=?_)))))));refine⟨⟨j+1,by omega⟩,by simp only;omega,aE ⟨rfl,rfl,trivial⟩ ?_⟩;simp[wk]
  have hjc:j=cs.length:=by omega
  subst hjc;refine aK (k:=bE rfl ?_);show bL _ _ _ _;refine bL.weak ((bT 34 (bQ rfl)).trans (aE (tm:=(dV (bi n c f)::AB rs::AB cs::jk::jk::jk::.raw (.slice none 0 0)::.one (.sl 39 0 0 i)::jk::jk::.one (.p (.sl (ls fZ (cs.map (f r)))))::jk::jk::AB rs::rN rs.length::rN i::j16 (j4 (j4 (jk::jk::[]))))) (l:=[(39,[⟨61,1,lc (fR fZ) ((rs.take i).map fun i=>cs.map (f i))⟩])]) ⟨rfl,trivial⟩ (by simp[wk,gX,fX,Hm,gS,gN,List.take_of_length_le]))) ?_;have eL:((rs.take i).map fun i=>cs.map (f i)).length=i:=by simp;omega
  have eS:=yK (fun i=>cs.map (f i)) hri;refine fc (aP eL (aP @L4 eS)) (k:=bW (k:=?_));refine⟨⟨i+1,by omega⟩,by simp only;omega,aE ⟨rfl,trivial⟩ ?_⟩;simp[wk]
 have hin:i=rs.length:=by omega
 subst hin;refine aK (k:=bE rfl (bC (k:=?_)));refine bA ⟨.inr rfl,fo 39 (bQ rfl) ?_ rfl⟩;have eT:List.take rs.length (List.map (fun i=>cs.map (f i)) rs)=rs.map fun i=>cs.map (f i):=List.take_of_length_le (by simp)
 simp(disch:=omega) only[kd,Tryz.results109,List.take_length,eT,dV]
end Go.Proofs.YtiollbhgpiiodaaGreatDoor
