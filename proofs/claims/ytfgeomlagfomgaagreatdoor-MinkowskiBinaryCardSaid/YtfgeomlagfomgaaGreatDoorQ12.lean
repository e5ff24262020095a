/-
  Part 13 of a proof (walks and plain facts).
-/
import Derived.Test.YtfgeomlagfomgaaGreatDoorQ11
set_option linter.all false
set_option maxRecDepth 100000
set_option maxHeartbeats 64000000
open Nat renaming reduceAdd → aa
open Nat renaming reduceEqDiff → ab
open List renaming replicate → ae
open Nat renaming reduceBEq → af
open Nat renaming reduceLeDiff → ah
open Int renaming reduceToNat → am
open List renaming getElem?_eq_none → aq
open List renaming length_replicate → ax
open List renaming getElem?_map → ay
namespace Go.Proofs.YtfgeomlagfomgaaGreatDoor
open Go.RowKit
def jm (z:Int):TV:=if -9223372036854775808<=z/\z<=9223372036854775807 then .tup [(false,[.p (.raw (.int .i64 z))]),(false,[.p (.raw (.bool true))])]else .tup [(false,[.p (.raw (.int .i64 0))]),(false,[.p (.raw (.bool false))])]
theorem vt {n:Nat} (h:2<(aS n).length):18446744073709551616<=n:=by
 have h1:=uK (cn n) (by intro h0;rw[h0]at h;simp at h);rw[aQ]at h1;have h2:4294967296^2<=4294967296^((aS n).length-1):=Nat.pow_le_pow_right (by omega) (by omega);omega
theorem gY {n:Nat} (h:(aS n).length<=2):n<18446744073709551616:=by
 have h1:=gh (aV n);rw[aQ]at h1;have h2:4294967296^(aS n).length<=4294967296^2:=Nat.pow_le_pow_right (by omega) h;omega
theorem L2 (z:Int) (h:Bg z):CallC Tryz.prog 88 [tZ z] ⟨[],jm z⟩:=by
 have ht:=jr (aS z.natAbs) h.len;rw[gp]at ht;have hw:=JX (aS z.natAbs) (aV _) h.len;have hl:=h.len;by_cases h2:2<(aS z.natAbs).length
 ·have hb:=vt h2;rw[show jm z= .tup [(false,[.p (.raw (.int .i64 0))]),(false,[.p (.raw (.bool false))])] by unfold jm;rw[if_neg (by omega)]];refine aI Tryz.func88 rfl (by kernel_rfl) ?_;rw[Tryz.ntmps88];refine aD fun _ K=>?_;simp(disch:=omega) only[kd,aa,tZ,ae];apply K
  refine aG [⟨2,_,_,_,ht⟩] [] fun _ K=>?_;simp only[kd,bA,aa];apply K
  refine aG [⟨1,_,_,_,hw⟩] [] fun _ K=>?_;simp only[kd,bA,aa];apply K
  refine aF (aK ?_);refine aD fun _ K=>?_;simp(disch:=omega) only[kd,aa];apply K
  refine aX rfl ?_;refine aD fun _ K=>?_;simp only[kd];apply K
  (refine aH ⟨.inr rfl,aJ rfl ?_ rfl⟩;simp(disch:=omega) only[kd,Tryz.results88])
 have hb:=gY (n:=z.natAbs) (by omega);rw[List.take_of_length_le (by omega),aQ]at hw;by_cases hz:z<0
 ·have e1:IntKind.i64.wrap (IntKind.u64.wrap (0-(z.natAbs:Int)))=z\/9223372036854775808<z.natAbs:=by
   rw[IntKind.wrap_u64];by_cases hz2:z.natAbs<=9223372036854775808
   ·left;have:(0-(z.natAbs:Int))%18446744073709551616=18446744073709551616+z:=by omega
    rw[this,IntKind.wrap_i64];omega
   right;omega
  by_cases hz2:z.natAbs<=9223372036854775808
  ·replace e1:=e1.resolve_right (by omega)
   rw[show jm z= .tup [(false,[.p (.raw (.int .i64 z))]),(false,[.p (.raw (.bool true))])] by unfold jm;rw[if_pos (by omega)]];refine aI Tryz.func88 rfl (by kernel_rfl) ?_;rw[Tryz.ntmps88];refine aD fun _ K=>?_;simp(disch:=omega) only[kd,aa,tZ,ae];apply K
   refine aG [⟨2,_,_,_,ht⟩] [] fun _ K=>?_;simp only[kd,bA,aa];apply K
   refine aG [⟨1,_,_,_,hw⟩] [] fun _ K=>?_;simp only[kd,bA,aa];apply K
   refine aF (aK ?_);refine aD fun _ K=>?_;simp(disch:=omega) only[kd,aa];apply K
   refine aR rfl ?_;refine aD fun _ K=>?_;simp(disch:=omega) only[kd,aa];apply K
   refine aX rfl ?_;refine aD fun _ K=>?_;simp only[kd,aa,e1];apply K
   (refine aH ⟨.inr rfl,aJ rfl ?_ rfl⟩;simp(disch:=omega) only[kd,Tryz.results88])
  rw[show jm z= .tup [(false,[.p (.raw (.int .i64 0))]),(false,[.p (.raw (.bool false))])] by unfold jm;rw[if_neg (by omega)]];refine aI Tryz.func88 rfl (by kernel_rfl) ?_;rw[Tryz.ntmps88];refine aD fun _ K=>?_;simp(disch:=omega) only[kd,aa,tZ,ae];apply K
  refine aG [⟨2,_,_,_,ht⟩] [] fun _ K=>?_;simp only[kd,bA,aa];apply K
  refine aG [⟨1,_,_,_,hw⟩] [] fun _ K=>?_;simp only[kd,bA,aa];apply K
  refine aF (aK ?_);refine aD fun _ K=>?_;simp(disch:=omega) only[kd,aa];apply K
  refine aR rfl ?_;refine aD fun _ K=>?_;simp(disch:=omega) only[kd,aa];apply K
  refine aR rfl ?_;refine aD fun _ K=>?_;simp(disch:=omega) only[kd,aa];apply K
  refine aR rfl (aM ?_);show bo _ _ _ _;refine aD fun _ K=>?_;simp only[kd];apply K
  (refine aH ⟨.inr rfl,aJ rfl ?_ rfl⟩;simp(disch:=omega) only[kd,Tryz.results88])
 by_cases hz2:z.natAbs<9223372036854775808
 ·have e1:IntKind.i64.wrap (z.natAbs:Int)=z:=by rw[IntKind.wrap_i64];omega
  rw[show jm z= .tup [(false,[.p (.raw (.int .i64 z))]),(false,[.p (.raw (.bool true))])] by unfold jm;rw[if_pos (by omega)]];refine aI Tryz.func88 rfl (by kernel_rfl) ?_;rw[Tryz.ntmps88];refine aD fun _ K=>?_;simp(disch:=omega) only[kd,aa,tZ,ae];apply K
  refine aG [⟨2,_,_,_,ht⟩] [] fun _ K=>?_;simp only[kd,bA,aa];apply K
  refine aG [⟨1,_,_,_,hw⟩] [] fun _ K=>?_;simp only[kd,bA,aa];apply K
  refine aF (aK ?_);refine aD fun _ K=>?_;simp(disch:=omega) only[kd,aa];apply K
  refine aR rfl ?_;refine aD fun _ K=>?_;simp(disch:=omega) only[kd,aa];apply K
  refine aR rfl ?_;refine aD fun _ K=>?_;simp(disch:=omega) only[kd,aa];apply K
  refine aX rfl ?_;refine aD fun _ K=>?_;simp only[kd,aa,e1];apply K
  (refine aH ⟨.inr rfl,aJ rfl ?_ rfl⟩;simp(disch:=omega) only[kd,Tryz.results88])
 rw[show jm z= .tup [(false,[.p (.raw (.int .i64 0))]),(false,[.p (.raw (.bool false))])] by unfold jm;rw[if_neg (by omega)]];refine aI Tryz.func88 rfl (by kernel_rfl) ?_;rw[Tryz.ntmps88];refine aD fun _ K=>?_;simp(disch:=omega) only[kd,aa,tZ,ae];apply K
 refine aG [⟨2,_,_,_,ht⟩] [] fun _ K=>?_;simp only[kd,bA,aa];apply K
 refine aG [⟨1,_,_,_,hw⟩] [] fun _ K=>?_;simp only[kd,bA,aa];apply K
 refine aF (aK ?_);refine aD fun _ K=>?_;simp(disch:=omega) only[kd,aa];apply K
 refine aR rfl ?_;refine aD fun _ K=>?_;simp(disch:=omega) only[kd,aa];apply K
 refine aR rfl ?_;refine aD fun _ K=>?_;simp(disch:=omega) only[kd,aa];apply K
 refine aR rfl (aM ?_);show bo _ _ _ _;refine aD fun _ K=>?_;simp only[kd];apply K
 (refine aH ⟨.inr rfl,aJ rfl ?_ rfl⟩;simp(disch:=omega) only[kd,Tryz.results88])
theorem pO: ∀{l:List Nat} {i x:Nat},Lmb l->l[i]?=some x->natV l/4294967296^i%4294967296=x
 |[],i,x,_,h=>by simp at h
 |a::l,0,x,hl,h=>by
  rw[dO]at hl;simp at h;subst h;have:=hl.1;simp only[natV,Nat.pow_zero];omega
 |a::l,i+1,x,hl,h=>by
  rw[dO]at hl;have ha:=hl.1;simp at h;have:=pO hl.2 h;rw[Nat.pow_succ,Nat.mul_comm,<- Nat.div_div_eq_div_mul];simp only[natV];rw[show(a+4294967296*natV l)/4294967296=natV l by omega];exact this
theorem Kv (i:Nat):4294967296^i=2^(32*i):=by rw[Nat.pow_mul]
theorem Gz {a k x:Nat} (h:(aS a)[k/32]?=some x):x/2^(k%32)%2=a/2^k%2:=by
 have h1:=pO (aV a) h;rw[aQ,Kv]at h1;rw[<- Nat.toNat_testBit,<- Nat.toNat_testBit,<- h1,show(4294967296:Nat)=2^32 from rfl,Nat.testBit_mod_two_pow,Nat.testBit_div_two_pow];rw[show k%32+32*(k/32)=k by omega];have:k%32<32:=by omega
 simp[this]
structure OT (a b n:Nat) where
 t:Nat
 O:List Nat
 ht:t<=32*n
 len:O.length=n
 lmb:Lmb O
 val:natV O=a/2^t/b*2^t
theorem QP (a k:Nat):a/2^k=2*(a/2^(k+1))+a/2^k%2:=by
 rw[Nat.pow_succ,<- Nat.div_div_eq_div_mul];omega
theorem Jr {a b k:Nat} (hb:0<b) (h:2*(a/2^(k+1)%b)+a/2^k%2<b):a/2^k/b=2*(a/2^(k+1)/b)/\a/2^k%b=2*(a/2^(k+1)%b)+a/2^k%2:=by
 have h1:=QP a k;have h2:=Nat.div_add_mod (a/2^(k+1)) b;generalize a/2^(k+1)=X at*
 generalize a/2^k%2=e at*
 generalize X%b=r at*
 generalize X/b=q at*
 have h3:a/2^k=b*(2*q)+(2*r+e):=by rw[h1,<- h2,Nat.mul_left_comm b 2 q];omega
 rw[h3];exact⟨by rw[Nat.mul_add_div hb,Nat.div_eq_of_lt h,Nat.add_zero],by rw[Nat.mul_add_mod,Nat.mod_eq_of_lt h]⟩
theorem Jq {a b k:Nat} (hb:0<b) (h:b<=2*(a/2^(k+1)%b)+a/2^k%2):a/2^k/b=2*(a/2^(k+1)/b)+1/\a/2^k%b=2*(a/2^(k+1)%b)+a/2^k%2-b:=by
 have h1:=QP a k;have h2:=Nat.div_add_mod (a/2^(k+1)) b;have hr:a/2^(k+1)%b<b:=Nat.mod_lt _ hb;have he:a/2^k%2<2:=Nat.mod_lt _ (by omega);generalize a/2^(k+1)=X at*
 generalize a/2^k%2=e at*
 generalize X%b=r at*
 generalize X/b=q at*
 have h3:a/2^k=b*(2*q+1)+(2*r+e-b):=by have:=Nat.mul_left_comm b 2 q;rw[h1,<- h2,Nat.mul_add b (2*q) 1,Nat.mul_one];omega
 have h4:2*r+e-b<b:=by omega
 rw[h3];exact⟨by rw[Nat.mul_add_div hb,Nat.div_eq_of_lt h4,Nat.add_zero],by rw[Nat.mul_add_mod,Nat.mod_eq_of_lt h4]⟩
theorem MB {a b n k:Nat} {O:List Nat} (hb:0<b) (ht:k+1<=32*n) (len:O.length=n) (lmb:Lmb O) (val:natV O=a/2^(k+1)/b*2^(k+1)) (h:2*(a/2^(k+1)%b)+a/2^k%2<b): ∃g:OT a b n,g.t=k/\g.O=O:=
 ⟨⟨k,O,by omega,len,lmb,by rw[val,(Jr hb h).1,Nat.pow_succ,Nat.mul_comm 2,Nat.mul_assoc,Nat.mul_comm 2]⟩,rfl,rfl⟩
theorem MA {a b n k x:Nat} {O:List Nat} (hb:0<b) (ht:k+1<=32*n) (len:O.length=n) (lmb:Lmb O) (val:natV O=a/2^(k+1)/b*2^(k+1)) (h:b<=2*(a/2^(k+1)%b)+a/2^k%2) (hx:O[k/32]?=some x): ∃g:OT a b n,g.t=k/\g.O=O.set (k/32) (x|||2^(k%32)):=by
 have hx':=cJ lmb hx;have hj:k%32<32:=Nat.mod_lt _ (by omega);have hor:x|||2^(k%32)<4294967296:=Nat.or_lt_two_pow (n:=32) hx' (Nat.pow_lt_pow_right (by omega) hj);refine⟨⟨k,O.set (k/32) (x|||2^(k%32)),by omega,by simp[len],zk lmb hor,?_⟩,rfl,rfl⟩;have h1:=pO lmb hx;have h2:=qC O (k/32) (x|||2^(k%32)) x hx;have ek:2^(k+1)=2^(32*(k/32))*2^(k%32+1):=by rw[<- Nat.pow_add];congr 1;omega
 rw[Kv]at h1 h2;rw[(Jq hb h).1];generalize a/2^(k+1)/b=q at*
 have h3:x=q%2^(31-k%32)*2^(k%32+1):=by
  rw[<- h1,val,ek,Nat.mul_comm (2^(32*(k/32))),<- Nat.mul_assoc,Nat.mul_div_cancel _ (Nat.pow_pos (by omega))];rw[show(4294967296:Nat)=2^(31-k%32)*2^(k%32+1) by rw[<- Nat.pow_add,show 31-k%32+(k%32+1)=32 by omega],Nat.mul_mod_mul_right]
 have h4:x|||2^(k%32)=x+2^(k%32):=by
  have:=r7 (q%2^(31-k%32)) (2^(k%32)) (k%32+1) (Nat.pow_lt_pow_right (by omega) (by omega));rw[<- h3]at this;exact this
 rw[h4]at h2⊢;rw[Nat.add_mul,<- Nat.pow_add,show k%32+32*(k/32)=k by omega,val]at h2;have h5:(2*q+1)*2^k=q*2^(k+1)+2^k:=by rw[Nat.add_mul,Nat.one_mul,Nat.mul_comm 2 q,Nat.mul_assoc,Nat.mul_comm 2 (2^k),<- Nat.pow_succ]
 rw[h5];generalize natV (O.set (k/32) (x+2^(k%32)))=N at*
 generalize x*2^(32*(k/32))=U at*
 generalize q*2^(k+1)=V at*
 generalize 2^k=W at*
 omega
theorem xH {a n:Nat} (h:(aS a).length=n):a/2^(32*n)=0:=by
 have:=gh (aV a);rw[aQ,Kv,h]at this;exact Nat.div_eq_of_lt this
theorem ER {a b:Nat} (h:b<=a):0<=gy a b:=by unfold gy;split<;>(try split)<;>omega
theorem Jg {a b:Nat} (h:a<b):gy a b<0:=by rw[ox h];decide
abbrev A5 (a b:Nat):TV:= .tup [(false,[.p (.sl (ls fU (aS (a/b))))]),(false,[.p (.sl (ls fU (aS (a%b))))])]
theorem pJ {a b:Nat} (h:a<=b):(aS a).length<=(aS b).length:=je (aV _) (cn _) (by rw[aQ,aQ];exact h)
theorem Js (a b:Nat) (hb:0<b) (la:(aS a).length<=536870912) (lb:(aS b).length<=536870912):CallC Tryz.prog 129 [bA (aS a),bA (aS b)] ⟨[],A5 a b⟩:=by
 by_cases hs:(aS a).length<=2/\(aS b).length<=2
 ·obtain⟨sa,sb⟩:=hs;have ua:=gY sa;have ub:=gY sb;have h1:=JX (aS a) (aV _) (by omega);have h2:=JX (aS b) (aV _) (by omega);rw[List.take_of_length_le sa,aQ]at h1;rw[List.take_of_length_le sb,aQ]at h2;have hq:a/b<=a:=Nat.div_le_self _ _;have hr:a%b<b:=Nat.mod_lt _ hb;have h3:=Al false (a/b) (by omega);have h4:=Al false (a%b) (by omega);rw[show gA false (a/b)=((a/b:Nat):Int)from rfl]at h3;rw[show gA false (a%b)=((a%b:Nat):Int)from rfl]at h4;have hb0:(b:Int)≠0:=by omega
  have e1:IntKind.u64.wrap (Int.tdiv (a:Int) (b:Int))=((a/b:Nat):Int):=by
   rw[Int.tdiv_eq_ediv_of_nonneg (by omega),<- Int.natCast_ediv];generalize a/b=q at*;rw[IntKind.wrap_u64];omega
  have e2:Int.tmod (a:Int) (b:Int)=((a%b:Nat):Int):=by
   rw[Int.tmod_eq_emod_of_nonneg (by omega),<- Int.natCast_emod]
  unfold A5;generalize a/b=q at*
  generalize a%b=r at*
  refine aI Tryz.func129 rfl (by kernel_rfl) ?_;rw[Tryz.ntmps129];refine aD fun _ K=>?_;simp only[kd,bA,aa,ae];apply K
  refine aF (aD fun _ K=>?_);simp(disch:=omega) only[kd,aa];apply K;refine aX rfl ?_;refine aG [⟨1,_,_,_,h1⟩,⟨3,_,_,_,h2⟩] [] fun _ K=>?_;simp only[kd,bA,aa,af];apply K
  refine bu be [⟨3,_,_,_,h3⟩,⟨8,_,_,_,h4⟩] [] (by kernel_rfl) fun _ K=>?_;simp(disch:=omega) only[kd,tZ,Int.natAbs_natCast,aa,ne_eq,hb0,not_false_eq_true,e1,e2,af];apply K
  (refine aH ⟨.inr rfl,aJ rfl ?_ rfl⟩;simp(disch:=omega) only[kd,Tryz.results129])
 refine aI Tryz.func129 rfl (by kernel_rfl) ?_;rw[Tryz.ntmps129];refine aD fun _ K=>?_;simp only[kd,bA,aa,ae];apply K
 by_cases h3:(aS a).length<=2
 all_goals
  (first|refine aD fun _ K=>?_|refine aF (aD fun _ K=>?_)|refine aF (aF (aD fun _ K=>?_)));simp(disch:=omega) only[kd,aa];apply K
  first|refine aR rfl (aM ?_)|refine bW rfl (fun h=>by simp at h<;>omega) (fun _=>aM ?_)
  show bo _ _ _ _
  (first|refine aD fun _ K=>?_|refine aF (aD fun _ K=>?_)|refine aF (aF (aD fun _ K=>?_)));simp(disch:=omega) only[kd,aa,ms];apply K
  (first|refine aD fun _ K=>?_|refine aF (aD fun _ K=>?_)|refine aF (aF (aD fun _ K=>?_)));simp(disch:=omega) only[kd,aa,aP];apply K
  refine aY (G:=OT a b (aS a).length) (fun g=>⟨(bA (aS a)::bA (aS b)::jk::jk::.one (.sl 33 0 0 (aS a).length)::bA (aS (a/2^g.t%b))::jk::jk::.raw (.int .i64 ((g.t:Int)-1))::j16 (j16 (j16 (j16 (jk::jk::[]))))),Hm [(33,[⟨79,1,lc fU g.O⟩])]⟩) (fun g=>g.t) ⟨32*(aS a).length,ae (aS a).length 0,by omega,by simp,fun x hx=>by simp at hx;omega,by rw[vE,xH rfl];simp⟩ ?_ ?_
  ·refine(fz (k:=5) (d:=900) 79 1 (by omega) rfl rfl).trans ((bZ 900 (dc (f:=fU) (l:=[]) rfl)).trans (aE ⟨rfl,trivial⟩ ?_));simp[wk,ij,fH,xH rfl,cH];rfl
  rintro⟨t,O,ht,len,lmb,val⟩;simp only;cases t with
  |zero=>
   have htr:=jr O (by omega);rw[ff lmb,val]at htr;simp only[Nat.pow_zero,Nat.div_one,Nat.mul_one]at htr;simp only[Nat.pow_zero,Nat.div_one]
   (first|refine aD fun _ K=>?_|refine aF (aD fun _ K=>?_)|refine aF (aF (aD fun _ K=>?_)));simp(disch:=omega) only[kd,bA];apply K
   first|refine aR rfl (bN ?_)|refine bW rfl (fun h=>by simp at h<;>omega) (fun _=>bN ?_)
   show bo _ _ _ _;refine bo.weak (bZ 33 (dc rfl)) ?_;have eT:List.take (aS a).length O=O:=List.take_of_length_le (by omega);simp(disch:=omega) only[kd,eT]
   (first|refine aG [⟨1,_,_,_,htr⟩] [] fun _ K=>?_|refine aF (aG [⟨1,_,_,_,htr⟩] [] fun _ K=>?_)|refine aF (aF (aG [⟨1,_,_,_,htr⟩] [] fun _ K=>?_)));simp only[kd,bA,aa];apply K
   (refine aH ⟨.inr rfl,aJ rfl ?_ rfl⟩;simp(disch:=omega) only[kd,Tryz.results129])
  |succ k=>
   have ek:((k+1:Nat):Int)-1=(k:Int):=by omega
   simp only[ek];have hki:k/32<(aS a).length:=by omega
   obtain⟨x,hx⟩:=getElem?_of_lt hki;have hx':=cJ (aV a) hx;obtain⟨y,hy⟩:=getElem?_of_lt (show k/32<O.length by omega);have hy':=cJ lmb hy;have hbit:=Gz hx;have hq:IntKind.i64.wrap (Int.tdiv (k:Int) 32)=((k/32:Nat):Int):=by
    rw[Int.tdiv_eq_ediv_of_nonneg (by omega),IntKind.wrap_i64];omega
   have hr:Int.tmod (k:Int) 32=((k%32:Nat):Int):=by rw[Int.tmod_eq_emod_of_nonneg (by omega)];omega
   have hmin:min (k%32) IntKind.u32.bits=k%32:=by show min (k%32) 32=_;omega
   have e1:Int.fdiv (x:Int) (2^min (k%32) IntKind.u32.bits)=((x/2^(k%32):Nat):Int):=by
    rw[hmin,Int.fdiv_eq_ediv_of_nonneg _ (Int.pow_nonneg (by omega)),Int.natCast_ediv,Int.natCast_pow];rfl
   have hxl:x/2^(k%32)<=x:=Nat.div_le_self _ _;have e2:IntKind.u32.wrap (((BitVec.ofInt IntKind.u32.bits ((x/2^(k%32):Nat):Int)&&&BitVec.ofInt IntKind.u32.bits (1:Int)).toNat:Nat):Int)=((a/2^k%2:Nat):Int):=by
    rw[<- hbit,<- Nat.and_one_is_mod];exact QF (x/2^(k%32)) 1 (by omega) (by omega)
   have hbl:a/2^k%2<2:=Nat.mod_lt _ (by omega);have hrb:a/2^(k+1)%b<b:=Nat.mod_lt _ hb;have lr:=pJ (Nat.le_of_lt hrb);have h1:=Jt (aS (a/2^(k+1)%b)) (a/2^k%2) (aV _) (by omega) (by omega);have h2:=jr (dblL (aS (a/2^(k+1)%b)) (a/2^k%2)) (by rw[A2];omega);rw[ff (BA _ _ (aV _) (by omega)),x4 _ _ (aV _) (by omega),aQ]at h2;by_cases hge:b<=2*(a/2^(k+1)%b)+a/2^k%2
   ·obtain⟨g',q1,q2⟩:=MA hb ht len lmb val hge hy;have hrest:=(Jq hb hge).2;have lr':=jE (n:=2*(a/2^(k+1)%b)+a/2^k%2) (k:=(aS b).length+1) (by
     have:=gh (aV b);rw[aQ]at this;have hlt: ∀r e P:Nat,r<b->e<2->b<P->2*r+e<P*4294967296:=by intros;omega
     exact Nat.lt_of_lt_of_le (hlt _ _ _ hrb hbl this) (Nat.le_of_eq (Nat.pow_succ ..).symm))
    generalize 2*(a/2^(k+1)%b)+a/2^k%2=R at*
    have h3:=EU (aS R) (aS b) (aV _) (aV _) (cn _) (cn _) (by omega) (by omega);rw[aQ,aQ]at h3;have hc:=ER hge;have h4:=md (aS R) (aS b) (aV _) (aV _) (by omega) (by omega);have h5:=jr (diffL (aS R) (aS b) 0) (by rw[jC];omega);have hd:=iM (aS R) (aS b) 0 (aV _) (aV _) (by omega) (pJ hge) (by rw[aQ,aQ];exact hge);rw[aQ,aQ]at hd;rw[ff (jF _ _ _),show natV (diffL (aS R) (aS b) 0)=a/2^k%b by omega]at h5;have hp2:2^(k%32)<4294967296:=Nat.pow_lt_pow_right (a:=2) (n:=32) (by omega) (Nat.mod_lt _ (by omega));have e3:IntKind.u32.wrap (1*2^min (k%32) IntKind.u32.bits)=((2^(k%32):Nat):Int):=by
     rw[hmin,Int.one_mul,show((2:Int)^(k%32))=((2^(k%32):Nat):Int) by rw[Int.natCast_pow];rfl,ue,Nat.mod_eq_of_lt hp2]
    have e4:=QW y (2^(k%32)) hy' hp2
    (first|refine aD fun _ K=>?_|refine aF (aD fun _ K=>?_)|refine aF (aF (aD fun _ K=>?_)));simp(disch:=omega) only[kd,bA];apply K
    first|refine aX rfl (aM ?_)|refine bW rfl (fun _=>aM ?_) (fun h=>by simp at h<;>omega)
    refine aF (aK ?_)
    (first|refine aG [⟨10,_,_,_,h1⟩,⟨11,_,_,_,h2⟩] [] fun _ K=>?_|refine aF (aG [⟨10,_,_,_,h1⟩,⟨11,_,_,_,h2⟩] [] fun _ K=>?_)|refine aF (aF (aG [⟨10,_,_,_,h1⟩,⟨11,_,_,_,h2⟩] [] fun _ K=>?_)));simp(disch:=omega) only[kd,bA,aa,hq,hx,hr,e1,e2,af];apply K
    (first|refine aG [⟨2,_,_,_,h3⟩] [] fun _ K=>?_|refine aF (aG [⟨2,_,_,_,h3⟩] [] fun _ K=>?_)|refine aF (aF (aG [⟨2,_,_,_,h3⟩] [] fun _ K=>?_)));simp(disch:=omega) only[kd,bA,aa];apply K
    first|refine aX rfl ?_|refine bW rfl (fun _=>?_) (fun h=>by simp at h<;>omega)
    (first|refine aG [⟨2,_,_,_,h4⟩,⟨3,_,_,_,h5⟩] [] fun _ K=>?_|refine aF (aG [⟨2,_,_,_,h4⟩,⟨3,_,_,_,h5⟩] [] fun _ K=>?_)|refine aF (aF (aG [⟨2,_,_,_,h4⟩,⟨3,_,_,_,h5⟩] [] fun _ K=>?_)));simp only[kd,bA,aa,af];apply K
    refine iF be (by kernel_rfl) fun _ K=>?_;simp(disch:=omega) only[kd,aa,hq,hy,hr,e3,e4,dJ];apply K
    show bo _ _ _ _;refine aL fun _ K=>?_;simp(disch:=omega) only[kd,aa,aP];apply K
    refine⟨g',by omega,aE ⟨by rw[q2];rfl,trivial⟩ ?_⟩;simp[wk,q1]
   obtain⟨g',q1,q2⟩:=MB hb ht len lmb val (by omega);have hrest:=(Jr (a:=a) (k:=k) hb (by omega)).2;rw[<- hrest]at h2 hge;have lr':=pJ (Nat.le_of_lt (Nat.mod_lt (a/2^k) hb));have h3:=EU (aS (a/2^k%b)) (aS b) (aV _) (aV _) (cn _) (cn _) (by omega) (by omega);rw[aQ,aQ]at h3;have hc:=Jg (a:=a/2^k%b) (b:=b) (by omega)
   (first|refine aD fun _ K=>?_|refine aF (aD fun _ K=>?_)|refine aF (aF (aD fun _ K=>?_)));simp(disch:=omega) only[kd,bA];apply K
   first|refine aX rfl (aM ?_)|refine bW rfl (fun _=>aM ?_) (fun h=>by simp at h<;>omega)
   refine aF (aK ?_)
   (first|refine aG [⟨10,_,_,_,h1⟩,⟨11,_,_,_,h2⟩] [] fun _ K=>?_|refine aF (aG [⟨10,_,_,_,h1⟩,⟨11,_,_,_,h2⟩] [] fun _ K=>?_)|refine aF (aF (aG [⟨10,_,_,_,h1⟩,⟨11,_,_,_,h2⟩] [] fun _ K=>?_)));simp(disch:=omega) only[kd,bA,aa,hq,hx,hr,e1,e2,af];apply K
   (first|refine aG [⟨2,_,_,_,h3⟩] [] fun _ K=>?_|refine aF (aG [⟨2,_,_,_,h3⟩] [] fun _ K=>?_)|refine aF (aF (aG [⟨2,_,_,_,h3⟩] [] fun _ K=>?_)));simp(disch:=omega) only[kd,bA,aa];apply K
   first|refine aR rfl (aM ?_)|refine bW rfl (fun h=>by simp at h<;>omega) (fun _=>aM ?_)
   show bo _ _ _ _;refine aL fun _ K=>?_;simp(disch:=omega) only[kd,aa,aP];apply K
   refine⟨g',by omega,aE ⟨by rw[q2];rfl,trivial⟩ ?_⟩;simp[wk,q1]
theorem Lc {P:Program} {p q t n:Nat} (h:jt P t=some n) (hn:n≠1): ∀x∈[(p,q,t)],jt P x.2.2≠some 1:=fun x hx=>by
 have:x=(p,q,t):=by simpa using hx
 subst this;rw[h];intro h';injection h' with h'
 exact hn h'
theorem D5 {s:AS} {p q t a r i j b r' i' j':Nat} (h1:s.tmps[p]?=some (.one (.ptr a r i j))) (h2:s.tmps[q]?=some (.one (.ptr b r' i' j'))) (hne:b≠a):AB [(p,q,t)] s:=fun x hx a2 r2 i2 j2 b2 r3 i3 j3 g1 g2=>by
 have:x=(p,q,t):=by simpa using hx
 subst this;simp only[h1]at g1;simp only[h2]at g2;injection g1 with g1;injection g1 with g1;injection g1 with g1
 injection g2 with g2;injection g2 with g2;injection g2 with g2
 subst g1 g2;exact hne
def tq (a b:Int):Int:=gA (!(decide (a<0)==decide (b<0))) (a.natAbs/b.natAbs)
def tr (a b:Int):Int:=gA (decide (a<0)) (a.natAbs%b.natAbs)
theorem Lg (a b:Int):tr a b+b*tq a b=a:=by
 have h:=Nat.div_add_mod a.natAbs b.natAbs;have h':(b.natAbs:Int)*((a.natAbs/b.natAbs:Nat):Int)+((a.natAbs%b.natAbs:Nat):Int)=(a.natAbs:Int):=by
  have:=congrArg (Nat.cast (R:=Int)) h;simpa using this
 unfold tq tr gA;generalize a.natAbs/b.natAbs=q at*
 generalize a.natAbs%b.natAbs=r at*
 by_cases ha:a<0<;>by_cases hb:b<0
 ·rw[decide_eq_true ha,decide_eq_true hb];show -(r:Int)+b*(q:Int)=a;rw[show(b.natAbs:Int)= -b by omega,show(a.natAbs:Int)= -a by omega,Int.neg_mul]at h';omega
 ·rw[decide_eq_true ha,decide_eq_false hb];show -(r:Int)+b* -(q:Int)=a;rw[show(b.natAbs:Int)=b by omega,show(a.natAbs:Int)= -a by omega]at h';rw[Int.mul_neg];omega
 ·rw[decide_eq_false ha,decide_eq_true hb];show(r:Int)+b* -(q:Int)=a;rw[show(b.natAbs:Int)= -b by omega,show(a.natAbs:Int)=a by omega,Int.neg_mul]at h';rw[Int.mul_neg];omega
 rw[decide_eq_false ha,decide_eq_false hb];show(r:Int)+b*(q:Int)=a;rw[show(b.natAbs:Int)=b by omega,show(a.natAbs:Int)=a by omega]at h';omega
theorem Lh (a b:Int):(tr a b).natAbs=a.natAbs%b.natAbs:=nW _ _
theorem Lf (a b:Int):(tq a b).natAbs=a.natAbs/b.natAbs:=nW _ _
theorem Ga {a b:Int} (hb:b≠0):(tr a b).natAbs<b.natAbs:=by rw[Lh];exact Nat.mod_lt _ (by omega)
theorem Df {a b:Int} (hb:b≠0) (h:0<=tr a b):a/b=tq a b/\a%b=tr a b:=by
 have h1:=Lg a b;have h2:=Ga (a:=a) hb;rcases Int.lt_or_gt_of_ne hb with hn|hp
 ·exact(Int.ediv_emod_unique' hn).2 ⟨h1,h,by omega⟩
 exact(Int.ediv_emod_unique hp).2 ⟨h1,h,by omega⟩
theorem Fa {a b:Int} (hb:b<0) (h:tr a b<0):a/b=tq a b+1/\a%b=tr a b+b.natAbs:=by
 have h1:=Lg a b;have h2:=Ga (a:=a) (b:=b) (by omega);refine(Int.ediv_emod_unique' hb).2 ⟨?_,by omega,by omega⟩;rw[Int.mul_add,Int.mul_one];omega
theorem Fb {a b:Int} (hb:0<b) (h:tr a b<0):a/b=tq a b-1/\a%b=tr a b+b.natAbs:=by
 have h1:=Lg a b;have h2:=Ga (a:=a) (b:=b) (by omega);refine(Int.ediv_emod_unique hb).2 ⟨?_,by omega,by omega⟩;rw[Int.mul_sub,Int.mul_one];omega
theorem Sz.le {x y:Int} {k:Nat} (h:Sz y k) (hx:x.natAbs<=y.natAbs):Sz x k:=Nat.lt_of_le_of_lt hx h
theorem oc {k:Nat} (h:0<k):Sz 1 k:=by unfold Sz;exact Nat.one_lt_pow (by omega) (by decide)
theorem I4:Bh 1:=oc (by omega)
theorem K2 {z:Int} (h:z<0):sg z= -1:=by simp[sg,h]
theorem yk {z:Int} (h:0<=z):0<=sg z:=by unfold sg;split<;>(try split)<;>omega
theorem At (a b:Int) (hb0:b≠0) (ha:Bh a) (hb:Bh b):CallC Tryz.prog 100 [tZ a,tZ b] ⟨[],.tup [(true,cZ (a/b)),(true,cZ (a%b)),(false,[.p (.raw (.bool true))])]⟩:=by
 have la:=ha.len;have lb:=hb.len;have t1:=jr (aS a.natAbs) ha.bg.len;have t2:=jr (aS b.natAbs) hb.bg.len;rw[gp]at t1 t2;have hl0:(aS b.natAbs).length≠0:=fun h=>hb0 (by have:=fQ.1 h;omega)
 have hd:=Js a.natAbs b.natAbs (by omega) la lb;have bq:Bh (tq a b):=ha.le (by rw[Lf];exact Nat.div_le_self _ _);have br:Bh (tr a b):=hb.le (Nat.le_of_lt (Ga hb0));have hm1:=jQ (!(decide (a<0)==decide (b<0))) (aS (a.natAbs/b.natAbs)) (aV _) (by have:=bq.bg.len;rwa[Lf]at this);have hm2:=jQ (decide (a<0)) (aS (a.natAbs%b.natAbs)) (aV _) (by have:=br.bg.len;rwa[Lh]at this);rw[aQ,show gA _ _=tq a b from rfl]at hm1;rw[aQ,show gA _ _=tr a b from rfl]at hm2;have hs:=nX (tr a b) br.bg;have p0:= @Df a b hb0;have p1:= @Fa a b;have p2:= @Fb a b;generalize tq a b=Q at*
 generalize tr a b=R at*
 by_cases hR:R<0
 ·have hm3:=jQ false (aS b.natAbs) (aV _) (by omega);rw[aQ,show gA false b.natAbs=((b.natAbs:Nat):Int)from rfl]at hm3;have hA:=xk R (b.natAbs:Int) br (by unfold Bh Sz;rw[Int.natAbs_natCast];exact hb);have hs2:=nX b hb.bg;have h1:=gQ 1 (by omega) (by omega);rw[K2 hR]at hs;by_cases hbn:b<0
  ·obtain⟨e1,e2⟩:=p1 hbn hR;rw[e1,e2];rw[K2 hbn]at hs2;have hA2:=xk Q 1 bq I4;refine aI Tryz.func100 rfl (by kernel_rfl) ?_;rw[Tryz.ntmps100];refine aD fun _ K=>?_;simp(disch:=omega) only[kd,aa,tZ,ae,ab];apply K
   refine bu be [⟨2,_,_,_,t1⟩,⟨5,_,_,_,t2⟩] [] (by kernel_rfl) fun _ K=>?_;simp(disch:=omega) only[kd,bA,aa,ab,af];apply K
   refine aF (aD fun _ K=>?_);simp(disch:=omega) only[kd,aa];apply K;refine aR rfl (aM ?_);show bo _ _ _ _;refine aG [⟨2,_,_,_,hd⟩] [] fun _ K=>?_;simp only[kd,bA,aa];apply K
   refine bu be [⟨6,_,_,_,hm1⟩,⟨10,_,_,_,hm2⟩] [] (by kernel_rfl) fun _ K=>?_;simp(disch:=omega) only[kd,bA,tZ,aa,ab,af];apply K
   refine bo.weak (aE (tm:=(jk::jk::.one (.ptr 2 0 0 0)::.one (.ptr 3 0 0 0)::.one (.ptr 4 0 0 0)::.one (.ptr 5 0 0 0)::.raw (.bool false)::jk::bA (aS b.natAbs)::jk::jk::.one (.ptr 11 0 0 0)::.one (.ptr 12 0 0 0)::j16 (j16 (j16 ([]))))) (l:=[(2,Ao (decide (a<0)) (aS a.natAbs)),(3,Ao true (aS b.natAbs)),(4,rO),(5,rO),(11,Ao (decide (Q<0)) (aS Q.natAbs)),(12,Ao true (aS R.natAbs))]) ⟨rfl,rfl,rfl,rfl,rfl,rfl,trivial⟩ (by simp[wk])) ?_;refine aF (aG [⟨1,_,_,_,hs⟩] [] fun _ K=>?_);simp(disch:=omega) only[kd,tZ,aa,bA,ab];apply K;refine aX rfl ?_;refine bu be [⟨2,_,_,_,hm3⟩,⟨3,_,_,_,hA⟩] [] (by kernel_rfl) fun _ K=>?_;simp(disch:=omega) only[kd,bA,tZ,aa,ab,af];apply K
   refine aF (aG [⟨1,_,_,_,hs2⟩] [] fun _ K=>?_);simp(disch:=omega) only[kd,tZ,aa,ab];apply K;refine aX rfl ?_;refine ut [(12,4,42)] be [⟨1,_,_,_,h1⟩,⟨2,_,_,_,hA2⟩] [] (by kernel_rfl) (Lc (n:=2) (by simp only[rq,rm,oX,mM,uc,rl,mN,wN,rp,mL,Af,t8,ro]) (by decide)) (D5 rfl rfl (by decide)) fun _ K=>?_;simp(disch:=omega) only[kd,tZ,aa,ab,af];apply K
   (refine aH ⟨.inr rfl,aJ rfl ?_ rfl⟩;simp(disch:=omega) only[kd,Tryz.results100,ab,aa,cZ])
  obtain⟨e1,e2⟩:=p2 (by omega) hR;rw[e1,e2];have hs3:=yk (z:=b) (by omega);have hA2:=On Q 1 bq I4;refine aI Tryz.func100 rfl (by kernel_rfl) ?_;rw[Tryz.ntmps100];refine aD fun _ K=>?_;simp(disch:=omega) only[kd,aa,tZ,ae,ab];apply K
  refine bu be [⟨2,_,_,_,t1⟩,⟨5,_,_,_,t2⟩] [] (by kernel_rfl) fun _ K=>?_;simp(disch:=omega) only[kd,bA,aa,ab,af];apply K
  refine aF (aD fun _ K=>?_);simp(disch:=omega) only[kd,aa];apply K;refine aR rfl (aM ?_);show bo _ _ _ _;refine aG [⟨2,_,_,_,hd⟩] [] fun _ K=>?_;simp only[kd,bA,aa];apply K
  refine bu be [⟨6,_,_,_,hm1⟩,⟨10,_,_,_,hm2⟩] [] (by kernel_rfl) fun _ K=>?_;simp(disch:=omega) only[kd,bA,tZ,aa,ab,af];apply K
  refine bo.weak (aE (tm:=(jk::jk::.one (.ptr 2 0 0 0)::.one (.ptr 3 0 0 0)::.one (.ptr 4 0 0 0)::.one (.ptr 5 0 0 0)::.raw (.bool false)::jk::bA (aS b.natAbs)::jk::jk::.one (.ptr 11 0 0 0)::.one (.ptr 12 0 0 0)::j16 (j16 (j16 ([]))))) (l:=[(2,Ao (decide (a<0)) (aS a.natAbs)),(3,Ao false (aS b.natAbs)),(4,rO),(5,rO),(11,Ao (decide (Q<0)) (aS Q.natAbs)),(12,Ao true (aS R.natAbs))]) ⟨rfl,rfl,rfl,rfl,rfl,rfl,trivial⟩ (by simp[wk])) ?_;refine aF (aG [⟨1,_,_,_,hs⟩] [] fun _ K=>?_);simp(disch:=omega) only[kd,tZ,aa,bA,ab];apply K;refine aX rfl ?_;refine bu be [⟨2,_,_,_,hm3⟩,⟨3,_,_,_,hA⟩] [] (by kernel_rfl) fun _ K=>?_;simp(disch:=omega) only[kd,bA,tZ,aa,ab,af];apply K
  refine aF (aG [⟨1,_,_,_,hs2⟩] [] fun _ K=>?_);simp(disch:=omega) only[kd,tZ,aa,ab];apply K;refine aR rfl (aM ?_);show bo _ _ _ _;refine ut [(12,4,42)] be [⟨1,_,_,_,h1⟩,⟨2,_,_,_,hA2⟩] [] (by kernel_rfl) (Lc (n:=2) (by simp only[rq,rm,oX,mM,uc,rl,mN,wN,rp,mL,Af,t8,ro]) (by decide)) (D5 rfl rfl (by decide)) fun _ K=>?_;simp(disch:=omega) only[kd,tZ,aa,ab,af];apply K
  (refine aH ⟨.inr rfl,aJ rfl ?_ rfl⟩;simp(disch:=omega) only[kd,Tryz.results100,ab,aa,cZ])
 obtain⟨e1,e2⟩:=p0 (by omega);rw[e1,e2];have hs3:=yk (z:=R) (by omega);refine aI Tryz.func100 rfl (by kernel_rfl) ?_;rw[Tryz.ntmps100];refine aD fun _ K=>?_;simp(disch:=omega) only[kd,aa,tZ,ae,ab];apply K
 refine bu be [⟨2,_,_,_,t1⟩,⟨5,_,_,_,t2⟩] [] (by kernel_rfl) fun _ K=>?_;simp(disch:=omega) only[kd,bA,aa,ab,af];apply K
 refine aF (aD fun _ K=>?_);simp(disch:=omega) only[kd,aa];apply K;refine aR rfl (aM ?_);show bo _ _ _ _;refine aG [⟨2,_,_,_,hd⟩] [] fun _ K=>?_;simp only[kd,bA,aa];apply K
 refine bu be [⟨6,_,_,_,hm1⟩,⟨10,_,_,_,hm2⟩] [] (by kernel_rfl) fun _ K=>?_;simp(disch:=omega) only[kd,bA,tZ,aa,ab,af];apply K
 refine bo.weak (aE (tm:=(jk::jk::.one (.ptr 2 0 0 0)::.one (.ptr 3 0 0 0)::.one (.ptr 4 0 0 0)::.one (.ptr 5 0 0 0)::.raw (.bool false)::jk::bA (aS b.natAbs)::jk::jk::.one (.ptr 11 0 0 0)::.one (.ptr 12 0 0 0)::j16 (j16 (j16 ([]))))) (l:=[(2,Ao (decide (a<0)) (aS a.natAbs)),(3,Ao (decide (b<0)) (aS b.natAbs)),(4,rO),(5,rO),(11,Ao (decide (Q<0)) (aS Q.natAbs)),(12,Ao false (aS R.natAbs))]) ⟨rfl,rfl,rfl,rfl,rfl,rfl,trivial⟩ (by simp[wk])) ?_;refine aF (aG [⟨1,_,_,_,hs⟩] [] fun _ K=>?_);simp(disch:=omega) only[kd,tZ,aa,bA,ab];apply K;refine aR rfl (aM ?_);show bo _ _ _ _;refine ut [(12,4,42)] be [] [] (by kernel_rfl) (Lc (n:=2) (by simp only[rq,rm,oX,mM,uc,rl,mN,wN,rp,mL,Af,t8,ro]) (by decide)) (D5 rfl rfl (by decide)) fun _ K=>?_;simp(disch:=omega) only[kd,aa,ab];apply K
 (refine aH ⟨.inr rfl,aJ rfl ?_ rfl⟩;simp(disch:=omega) only[kd,Tryz.results100,ab,aa,cZ])
theorem EC (a b:Int) (hb0:b≠0) (ha:Bh a) (hb:Bh b):CallC Tryz.prog 56 [tZ a,tZ b] ⟨[],tZ (a/b)⟩:=by
 have h1:=At a b hb0 ha hb;refine aI Tryz.func56 rfl (by kernel_rfl) ?_;rw[Tryz.ntmps56];refine aD fun _ K=>?_;simp(disch:=omega) only[kd,aa,tZ,ae,ab];apply K
 refine aG [⟨2,_,_,_,h1⟩] [] fun _ K=>?_;simp(disch:=omega) only[kd,tZ,cZ,aa,ab];apply K
 refine aD fun _ K=>?_;simp(disch:=omega) only[kd,ab,aa];apply K
 (refine aH ⟨.inr rfl,aJ rfl ?_ rfl⟩;simp(disch:=omega) only[kd,Tryz.results56,ab,aa,tZ])
def fR {α:Type} (f:α->List PV) (r:List α):List PV:=[.sl (ls f r)]
abbrev bJ (M:List (List Int)):TV:= .one (.p (.sl (ls (fR fZ) M)))
abbrev rOk (n:Nat) (r:List Int):Prop:=1<=r.length/\r.length<=16/\r.length=n
def CB (M:List (List Int)):Prop:=1<=M.length/\M.length<=16/\ ∀r∈M,rOk (M.headD []).length r
instance (M:List (List Int)):Decidable (CB M):=by unfold CB;exact inferInstance
def PU (M:List (List Int)):TV:=if CB M then .tup [(false,[.p (.raw (.int .i64 (M.length:Int)))]),(false,[.p (.raw (.int .i64 ((M.headD []).length:Int)))]),(false,[.p (.raw (.bool true))])]
 else .tup [(false,[.p (.raw (.int .i64 0))]),(false,[.p (.raw (.int .i64 0))]),(false,[.p (.raw (.bool false))])]
theorem fX {M:List (List Int)} (h: ¬CB M):PU M= .tup [(false,[.p (.raw (.int .i64 0))]),(false,[.p (.raw (.int .i64 0))]),(false,[.p (.raw (.bool false))])]:=by unfold PU;rw[if_neg h]
theorem iv {M:List (List Int)} (h:CB M):PU M= .tup [(false,[.p (.raw (.int .i64 (M.length:Int)))]),(false,[.p (.raw (.int .i64 ((M.headD []).length:Int)))]),(false,[.p (.raw (.bool true))])]:=by unfold PU;rw[if_pos h]
theorem lw {M:List (List Int)} (h:1<=M.length):M[0]?=some (M.headD []):=by cases M with
 |nil=>simp at h
 |cons r M=>rfl
structure Se (M:List (List Int)) where
 i:Nat
 hi:i<=M.length
 ok: ∀r∈M.take i,rOk (M.headD []).length r
theorem tA (M:List (List Int)):CallC Tryz.prog 87 [bJ M] ⟨[],PU M⟩:=by
 by_cases h1:M.length<1
 ·rw[fX (fun h=>by have:=h.1;omega)];refine aI Tryz.func87 rfl (by kernel_rfl) ?_;rw[Tryz.ntmps87];refine aD fun _ K=>?_;simp only[kd,aa,bJ,ae];apply K
  refine aF (aD fun _ K=>?_);simp(disch:=omega) only[kd,aa,reduceCtorEq];apply K;refine aX rfl ?_;refine aD fun _ K=>?_;simp only[kd,aa];apply K
  (refine aH ⟨.inr rfl,aJ rfl ?_ rfl⟩;simp(disch:=omega) only[kd,Tryz.results87])
 by_cases h2:16<M.length
 ·rw[fX (fun h=>by have:=h.2.1;omega)];refine aI Tryz.func87 rfl (by kernel_rfl) ?_;rw[Tryz.ntmps87];refine aD fun _ K=>?_;simp only[kd,aa,bJ,ae];apply K
  refine aF (aD fun _ K=>?_);simp(disch:=omega) only[kd,aa];apply K;refine aX rfl ?_;refine aD fun _ K=>?_;simp only[kd,aa];apply K
  (refine aH ⟨.inr rfl,aJ rfl ?_ rfl⟩;simp(disch:=omega) only[kd,Tryz.results87])
 have h0:=lw (M:=M) (by omega);refine aI Tryz.func87 rfl (by kernel_rfl) ?_;rw[Tryz.ntmps87];refine aD fun _ K=>?_;simp only[kd,aa,bJ,ae];apply K
 refine aF (aD fun _ K=>?_);simp(disch:=omega) only[kd,aa];apply K;refine aR rfl (aM ?_);show bo _ _ _ _;refine aF (aD fun _ K=>?_);simp only[kd,aa];apply K;refine aY (G:=Se M) (fun g=>⟨(bJ M::jk::.raw (.int .i64 0)::.raw (.int .i64 0)::.raw (.bool false)::j4 (j4 (jk::jk::bJ M::rN M.length::rN g.i::j16 (j4 (j4 (jk::jk::jk::[])))))),Hm []⟩) (fun g=>M.length-g.i) ⟨0,by omega,fun r hr=>by simp at hr⟩ ?_ ?_
 ·refine aE trivial ?_;simp[wk]
 rintro⟨i,hi,ok⟩;simp only;by_cases hm:i<M.length
 ·obtain⟨r,hr⟩:=getElem?_of_lt hm;have hmem:r∈M:=List.mem_of_getElem? hr;refine aD fun _ K=>?_;simp(disch:=omega) only[kd,bJ];apply K
  refine bG rfl ?_;refine aF (aK ?_);refine aD fun _ K=>?_;simp(disch:=omega) only[kd,aa,hr,fR];apply K
  by_cases c1:r.length<1
  ·rw[fX (fun h=>by have:=(h.2.2 r hmem).1;omega)];refine aD fun _ K=>?_;simp(disch:=omega) only[kd,aa,reduceCtorEq,am];apply K
   refine aX rfl ?_;refine aD fun _ K=>?_;simp only[kd,aa];apply K
   (refine aH ⟨.inr rfl,aJ rfl ?_ rfl⟩;simp(disch:=omega) only[kd,Tryz.results87])
  by_cases c2:16<r.length
  ·rw[fX (fun h=>by have:=(h.2.2 r hmem).2.1;omega)];refine aD fun _ K=>?_;simp(disch:=omega) only[kd,aa,reduceCtorEq,am];apply K
   refine aX rfl ?_;refine aD fun _ K=>?_;simp only[kd,aa];apply K
   (refine aH ⟨.inr rfl,aJ rfl ?_ rfl⟩;simp(disch:=omega) only[kd,Tryz.results87])
  by_cases c3:r.length=(M.headD []).length
  ·refine aD fun _ K=>?_;simp(disch:=omega) only[kd,aa,am,h0,fR];apply K
   refine aR rfl (aM ?_);show bo _ _ _ _;refine aL fun _ K=>?_;simp(disch:=omega) only[kd,aP];apply K
   refine⟨⟨i+1,by omega,fun r' hr'=>?_⟩,by simp only;omega,aE trivial ?_⟩
   ·rw[List.take_add_one,hr]at hr';rcases List.mem_append.1 hr' with h|h
    ·exact ok r' h
    have:r'=r:=by simpa using h
    subst this;exact⟨by omega,by omega,c3⟩
   simp[wk]
  rw[fX (fun h=>by have:=(h.2.2 r hmem).2.2;omega)];refine aD fun _ K=>?_;simp(disch:=omega) only[kd,aa,am,h0,fR];apply K
  refine aX rfl ?_;refine aD fun _ K=>?_;simp only[kd,aa];apply K
  (refine aH ⟨.inr rfl,aJ rfl ?_ rfl⟩;simp(disch:=omega) only[kd,Tryz.results87])
 have hsh:CB M:=⟨by omega,by omega,fun r hr=>ok r (by rw[List.take_of_length_le (by omega)];exact hr)⟩;rw[iv hsh];refine aD fun _ K=>?_;simp(disch:=omega) only[kd,bJ];apply K
 refine bT rfl ?_;show bo _ _ _ _;refine ch be (by kernel_rfl) fun _ K=>?_;simp(disch:=omega) only[kd,aa,am,h0,fR];apply K
 (refine aH ⟨.inr rfl,aJ rfl ?_ rfl⟩;simp(disch:=omega) only[kd,Tryz.results87])
def Q9 (M:List (List Int)):Prop:=CB M/\M.length=(M.headD []).length
instance (M:List (List Int)):Decidable (Q9 M):=by unfold Q9;exact inferInstance
def OI (M:List (List Int)):TV:=if Q9 M then .tup [(false,[.p (.raw (.int .i64 (M.length:Int)))]),(false,[.p (.raw (.bool true))])]else .tup [(false,[.p (.raw (.int .i64 0))]),(false,[.p (.raw (.bool false))])]
theorem AC (M:List (List Int)):CallC Tryz.prog 78 [bJ M] ⟨[],OI M⟩:=by
 have hS:=tA M;by_cases h1:CB M
 ·rw[iv h1]at hS;by_cases h2:M.length=(M.headD []).length
  ·rw[show OI M=_ from if_pos ⟨h1,h2⟩];refine aI Tryz.func78 rfl (by kernel_rfl) ?_;rw[Tryz.ntmps78];refine aD fun _ K=>?_;simp only[kd,bJ,ae];apply K
   refine aG [⟨1,_,_,_,hS⟩] [] fun _ K=>?_;simp only[kd,bJ,aa];apply K
   refine aF (aD fun _ K=>?_);simp(disch:=omega) only[kd,aa];apply K;refine aR rfl (aM ?_);show bo _ _ _ _;refine aD fun _ K=>?_;simp only[kd,aa];apply K
   (refine aH ⟨.inr rfl,aJ rfl ?_ rfl⟩;simp(disch:=omega) only[kd,Tryz.results78])
  rw[show OI M=_ from if_neg (fun h=>h2 h.2)];refine aI Tryz.func78 rfl (by kernel_rfl) ?_;rw[Tryz.ntmps78];refine aD fun _ K=>?_;simp only[kd,bJ,ae];apply K
  refine aG [⟨1,_,_,_,hS⟩] [] fun _ K=>?_;simp only[kd,bJ,aa];apply K
  refine aF (aD fun _ K=>?_);simp(disch:=omega) only[kd,aa];apply K;refine aX rfl ?_;refine aD fun _ K=>?_;simp only[kd];apply K
  (refine aH ⟨.inr rfl,aJ rfl ?_ rfl⟩;simp(disch:=omega) only[kd,Tryz.results78])
 rw[fX h1]at hS;rw[show OI M=_ from if_neg (fun h=>h1 h.1)];refine aI Tryz.func78 rfl (by kernel_rfl) ?_;rw[Tryz.ntmps78];refine aD fun _ K=>?_;simp only[kd,bJ,ae];apply K
 refine aG [⟨1,_,_,_,hS⟩] [] fun _ K=>?_;simp only[kd,bJ,aa];apply K
 refine aF (aD fun _ K=>?_);simp(disch:=omega) only[kd,aa,reduceCtorEq];apply K;refine aX rfl ?_;refine aD fun _ K=>?_;simp only[kd];apply K
 (refine aH ⟨.inr rfl,aJ rfl ?_ rfl⟩;simp(disch:=omega) only[kd,Tryz.results78])
def gC (d:Nat) (l:List Nat):List (List AV):=l.mapIdx fun k c=>[.sl d (k+1) 0 c]
def mY (r:List Int):OObj:=⟨42,2,lc fZ r⟩
def Ox (d:Nat) (R:List (List Int)):List OObj:=⟨84,1,gC d (R.map List.length)⟩::R.map mY
def ON (d n c i:Nat):List OObj:=⟨84,1,gC d (ae i c)++ae (n-i) [.p (.sl [])]⟩::ae i (mY (ae c 0))
theorem cw (d:Nat) (l:List Nat):(gC d l).length=l.length:=by simp[gC]
theorem nY (d:Nat) (l:List Nat) (c:Nat):gC d (l++[c])=gC d l++[[.sl d (l.length+1) 0 c]]:=by simp[gC,List.mapIdx_append]
theorem OG (d:Nat) (l:List Nat):(gC d l).map (List.map Ar)=gC d l:=by
 apply List.ext_getElem?;intro k;simp only[gC,ay,List.getElem?_mapIdx];cases l[k]?<;>rfl
theorem QY (r:List Int):(lc fZ r).map (List.map Ar)=lc fZ r:=by simp[lc,fZ,Ar,CA]
theorem Iv (d n c:Nat):([⟨84,1,ae n [.raw (.slice none 0 0)]⟩]:List OObj).map zO=ON d n c 0:=by
 simp[ON,zO,gC,Ar,CA]
theorem LO (d n c:Nat):ON d n c n=Ox d (ae n (ae c 0)):=by
 simp[ON,Ox]
theorem Am {d n c i:Nat} (hi:i<n):(gC d (ae i c)++ae (n-i) [AV.p (PV.sl [])])[i]?=some [.p (.sl [])]:=by
 rw[List.getElem?_append_right (by simp[cw]),cw,ax,Nat.sub_self,List.getElem?_replicate,if_pos (by omega)]
theorem LP {d n c i:Nat} (hi:i<n):
  ((⟨84,1,(gC d (ae i c)++ae (n-i) [AV.p (PV.sl [])]).set i [.sl d (i+1) 0 c]⟩::ae i (mY (ae c 0))++[⟨42,2,ae c [.raw (.bool false),.raw (.slice none 0 0)]⟩]:List OObj)).map zO=ON d n c (i+1):=by
 have e1:(gC d (ae i c)++ae (n-i) [AV.p (PV.sl [])]).set i [.sl d (i+1) 0 c]=gC d (ae (i+1) c)++ae (n-(i+1)) [AV.p (PV.sl [])]:=by
  rw[List.set_append_right _ _ (by simp[cw]),cw,ax,Nat.sub_self,List.replicate_succ' (n:=i),nY,ax,List.append_assoc]
  congr 1
  rw[show n-i=n-(i+1)+1 by omega,List.replicate_succ];rfl
 rw[e1];simp only[List.cons_append,List.map_cons,List.map_append,List.map_replicate,ON]
 congr 1
 ·simp[zO,OG,Ar,CA]
 rw[List.replicate_succ']
 congr 1
 ·congr 1
  simp[zO,mY,QY]
 simp[zO,mY,lc,fZ,Ar,CA,cH,ls]
theorem FY (d e:Nat) (l:List Nat):(gC d l).map (List.map (eG e))=gC e l:=by
 apply List.ext_getElem?;intro k;simp only[gC,ay,List.getElem?_mapIdx];cases l[k]?<;>rfl
theorem Ny (e:Nat) (r:List Int):renO e (mY r)=mY r:=by simp[renO,mY,zh]
theorem FB (d e:Nat) (R:List (List Int)):(Ox d R).map (renO e)=Ox e R:=by
 simp only[Ox,List.map_cons,List.map_map]
 congr 1
 ·simp[renO,FY]
 exact List.map_congr_left fun r _=>Ny e r
structure Si (n:Nat) where
 i:Nat
 hi:i<=n
theorem yC (n c:Nat) (hn:n<=16) (hc:c<=16):CallC Tryz.prog 102 [.raw (.int .i64 (n:Int)),.raw (.int .i64 (c:Int))] ⟨Ox 0 (ae n (ae c 0)),.one (.sl 0 0 0 n)⟩:=by
 refine aI Tryz.func102 rfl (by kernel_rfl) ?_;rw[Tryz.ntmps102];refine aD fun _ K=>?_;simp only[kd,aa,ae];apply K
 refine aD fun _ K=>?_;simp(disch:=omega) only[kd,aa];apply K
 refine aF (aD fun _ K=>?_);simp only[kd,aa];apply K;refine aY (G:=Si n) (fun g=>⟨(.raw (.int .i64 (n:Int))::rN c::jk::jk::.raw (.slice none 0 0)::.one (.sl 8 0 0 n)::j4 (.raw (.int .i64 (n:Int))::rN g.i::j4 (j4 (jk::[])))),Hm [(8,ON 8 n c g.i)]⟩) (fun g=>n-g.i) ⟨0,by omega⟩ ?_ ?_
 ·refine(fo 8).trans (aE ⟨Iv 8 n c,trivial⟩ ?_);simp[wk]
 rintro⟨i,hi⟩;simp only;by_cases hm:i<n
 ·refine aD fun _ K=>?_;simp(disch:=omega) only[kd];apply K
  refine bG rfl ?_;refine aF (aK ?_);refine aD fun _ K=>?_;simp only[kd];apply K
  simp only[ON];have hg:=Am (d:=8) (c:=c) hm;refine aL fun _ K=>?_;simp(disch:=omega) only[kd,aa,ab,hg,ah,ax,List.all_replicate,ite_self,af];apply K
  show bo _ _ _ _;refine aL fun _ K=>?_;simp(disch:=omega) only[kd,aP];apply K
  refine⟨⟨i+1,by omega⟩,by simp only;omega,(fo 8).trans (aE ⟨LP hm,trivial⟩ ?_)⟩;simp[wk]
 have hin:i=n:=by omega
 subst hin;refine aD fun _ K=>?_;simp(disch:=omega) only[kd];apply K
 refine bT rfl ?_;show bo _ _ _ _;rw[LO];refine aD fun _ K=>?_;simp only[kd];apply K
 refine aH ⟨.inr rfl,_,ce.refl _,?_⟩;refine⟨.one (.sl 8 0 0 i),8,?_,rfl,?_,rfl⟩
 ·simp(disch:=omega) only[kd,Tryz.results102]
 exact(FB 8 0 _).symm
abbrev gZ (d n c:Nat) (f:FF):List OObj:=⟨84,1,gC d (ae n c)⟩::(bs n c f).map mY
theorem JZ (n c:Nat) (f:FF):(bs n c f).map List.length=ae n c:=by
 apply List.ext_getElem?;intro i;rw[ay,List.getElem?_replicate];by_cases h:i<n
 ·rw[bC _ _ h,if_pos h];simp[bv]
 rw[aq (by rw[aW];omega),if_neg h];rfl
theorem r6 (d n c:Nat) (f:FF):Ox d (bs n c f)=gZ d n c f:=by rw[Ox,JZ]
theorem tM (n c:Nat):ae n (ae c (0:Int))=bs n c fun _ _=>0:=by
 apply List.ext_getElem?;intro i;rw[List.getElem?_replicate];by_cases h:i<n
 ·rw[bC _ _ h,if_pos h]
  congr 1
  apply List.ext_getElem?;intro j;rw[List.getElem?_replicate];by_cases h:j<c
  ·rw[aU _ h,if_pos h]
  rw[aq (by rw[bv];omega),if_neg h]
 rw[aq (by rw[aW];omega),if_neg h]
theorem bO {n i:Nat} (d c:Nat) (h:i<n):(gC d (ae n c))[i]?=some [.sl d (i+1) 0 c]:=by
 simp[gC,h]
theorem eE {n i:Nat} (c:Nat) (f:FF) (h:i<n):((bs n c f).map mY)[i]?=some ⟨42,2,lc fZ (bE c (f i))⟩:=by
 rw[ay,bC _ _ h];rfl
def upd (f:FF) (i j:Nat) (v:Int):Nat->Nat->Int:=fun a=>if a=i then(fun b=>if b=j then v else f i b)else f a
theorem kx {n i j:Nat} (c:Nat) (f:FF) (v:Int):((bs n c f).map mY).set i ⟨42,2,(lc fZ (bE c (f i))).set j [.p (.raw (.bool (decide (v<0)))),.p (.sl (ls fU (aS v.natAbs)))]⟩=(bs n c (upd f i j v)).map mY:=by
 have e:(⟨42,2,(lc fZ (bE c (f i))).set j [.p (.raw (.bool (decide (v<0)))),.p (.sl (ls fU (aS v.natAbs)))]⟩:OObj)=mY (bE c fun b=>if b=j then v else f i b):=by
  rw[<- qX,mY,<- zi];rfl
 rw[e,<- List.map_set,zp];rfl
theorem cL {n c:Nat} {f g:FF} (h: ∀i j,i<n->j<c->f i j=g i j):(bs n c f).map mY=(bs n c g).map mY:=by rw[eg h]
theorem gO (d e n c:Nat) (f:FF):(gZ d n c f).map (renO e)=gZ e n c f:=by rw[<- r6,<- r6,FB]
theorem kq {H:OH} {d n c:Nat} {f:FF} (h:H d=gZ d n c f):wW H d:=fun r o ho e he x hx=>by
 rw[h]at ho;cases r with
 |succ r=>
  rw[List.getElem?_cons_succ,ay]at ho;obtain⟨l,hl,rfl⟩:=Option.map_eq_some_iff.1 ho;exact .inl (fb _ _ l e he x hx)
 |zero=>
  simp at ho;subst ho;simp only at he;obtain⟨k,hk⟩:=List.mem_iff_getElem?.1 he;have hkn:k<n:=by
   have:=(List.getElem?_eq_some_iff.1 hk).1;rwa[cw,ax]at this
  rw[bO d c hkn]at hk;injection hk with hk
  subst hk;simp at hx;subst hx;refine .inr ⟨k+1,0,c,mY (bE c (f k)),rfl,?_,fb _ _ _⟩;rw[h,List.getElem?_cons_succ,ay,bC _ _ hkn];rfl
theorem Ov {H:OH} {d n c:Nat} {f:FF} (h:H d=gZ d n c f):ij H d (.one (.sl d 0 0 n))=bJ (bs n c f):=by
 have e:((gC d (ae n c)).map (List.map (kn H d)))=ls (fR fZ) (bs n c f):=by
  apply List.ext_getElem?;intro i;rw[ay,io];by_cases hi:i<n
  ·rw[bO d c hi,bC _ _ hi];simp only[Option.map_some,List.map_cons,List.map_nil,kn,h,List.getElem?_cons_succ,eE _ _ hi,fR,gN,zf,tK];rw[List.drop_zero,List.take_of_length_le (by rw[bv];omega)]
  rw[aq (by rw[cw,ax];omega),aq (by rw[aW];omega)];rfl
 simp only[ij,fH,if_true,h,List.getElem?_cons_zero];rw[List.drop_zero,List.take_of_length_le (by rw[cw,ax];omega),e]
abbrev bx (M:List (List Int)):TV:= .one (.p (.sl (ls (fR fI) M)))
def RJ:TV:= .tup [(false,[.p (.raw (.slice none 0 0))]),(false,[.p (.raw (.bool false))])]
def Iy (M:List (List Int)):TV:= .tup [(false,[.p (.sl (ls (fR fZ) M))]),(false,[.p (.raw (.bool true))])]
structure j6 (n:Nat) where
 i:Nat
 hi:i<=n
def part (f:FF) (i j:Nat):Nat->Nat->Int:=fun a b=>if a<i\/(a=i/\b<j)then f a b else 0
theorem jH (f:FF) (i j a b:Nat):upd (part f i j) i j (f i j) a b=part f i (j+1) a b:=by
 unfold upd part;by_cases h1:a=i
 ·subst h1;by_cases h2:b=j
  ·subst h2;simp
  have:b<j+1↔b<j:=by omega
  simp[h2,this]
 simp[h1]
theorem lF {c:Nat} (f:FF) (i a b:Nat) (hb:b<c):part f i c a b=part f (i+1) 0 a b:=by
 unfold part;by_cases h1:a<i
 ·rw[if_pos (.inl h1),if_pos (.inl (by omega))]
 by_cases h2:a=i
 ·rw[if_pos (.inr ⟨h2,hb⟩),if_pos (.inl (by omega))]
 rw[if_neg (by omega),if_neg (by omega)]
theorem jS {n:Nat} (f:FF) (a b:Nat) (ha:a<n):part f n 0 a b=f a b:=by
 unfold part;rw[if_pos (.inl ha)]
theorem ye (f:FF):part f 0 0=fun _ _=>0:=by
 funext a b;unfold part;rw[if_neg (by omega)]
theorem CN (n c:Nat) (f:FF) (hn1:1<=n) (hn:n<=16) (hc1:1<=c) (hc:c<=16) (hf: ∀i j,i<n->j<c-> -9223372036854775808<=f i j/\f i j<=9223372036854775807):
  CallC Tryz.prog 59 [bx (bs n c f)] ⟨[],Iy (bs n c f)⟩:=by
 have hml:=aW n c f;have h0:=bC (n:=n) c f (i:=0) (by omega);have hZ:=yC n c hn hc;rw[tM,r6]at hZ;refine aI Tryz.func59 rfl (by kernel_rfl) ?_;rw[Tryz.ntmps59];refine aD fun _ K=>?_;simp only[kd,bx,ae];apply K
 refine aF (aD fun _ K=>?_);simp(disch:=omega) only[kd,aa,hml];apply K;refine aR rfl (aM ?_);show bo _ _ _ _;refine aF (aD fun _ K=>?_);simp only[kd,aa,hml];apply K;refine aY (G:=j6 n) (fun g=>⟨(bx (bs n c f)::jk::.raw (.slice none 0 0)::.raw (.bool false)::j4 (j4 (j4 (jk::bx (bs n c f)::rN n::rN g.i::j16 (j16 (j16 (j4 (j4 (jk::jk::[]))))))))),Hm []⟩) (fun g=>n-g.i) ⟨0,by omega⟩ ?_ ?_
 ·refine aE trivial ?_;simp[wk]
 rintro⟨i,hi⟩;simp only;by_cases hm:i<n
 ·have hr:=bC c f hm;refine aD fun _ K=>?_;simp(disch:=omega) only[kd,bx];apply K
  refine bG rfl ?_;refine aF (aK ?_);refine aD fun _ K=>?_;simp(disch:=omega) only[kd,aa,hr,fR];apply K
  refine aD fun _ K=>?_;simp(disch:=omega) only[kd,aa,bv,am,h0,fR];apply K
  refine aR rfl (aM ?_);show bo _ _ _ _;refine aL fun _ K=>?_;simp(disch:=omega) only[kd,aP];apply K
  refine⟨⟨i+1,by omega⟩,by simp only;omega,aE trivial ?_⟩;simp[wk]
 refine aD fun _ K=>?_;simp(disch:=omega) only[kd,bx];apply K
 refine bT rfl ?_;show bo _ _ _ _;refine aG [⟨6,_,_,_,hZ⟩] [] fun _ K=>?_;simp(disch:=omega) only[kd,aa,hml,am,h0,fR,bv];apply K
 refine aF (aD fun _ K=>?_);simp only[kd,aa,hml];apply K;refine aY (G:=j6 n) (fun g=>⟨(bx (bs n c f)::jk::.raw (.slice none 0 0)::.raw (.bool false)::jk::jk::.one (.sl 47 0 0 n)::j16 (j16 (j4 (j4 (jk::jk::rN n::rN g.i::j16 (j4 (j4 (jk::jk::jk::[])))))))),Hm [(47,gZ 47 n c (part f g.i 0))]⟩) (fun g=>n-g.i) ⟨0,by omega⟩ ?_ ?_
 ·refine aE ⟨?_,trivial⟩ ?_
  ·rw[ye];exact gO 0 47 n c _
  simp[wk]
 rintro⟨i,hi⟩;simp only;by_cases hm2:i<n
 ·have hr:=bC c f hm2;refine aD fun _ K=>?_;simp(disch:=omega) only[kd,bx];apply K
  refine bG rfl ?_;refine aF (aK ?_);refine aD fun _ K=>?_;simp only[kd];apply K
  refine aD fun _ K=>?_;simp(disch:=omega) only[kd,aa,hr,fR,bv];apply K
  refine aY (G:=j6 c) (fun g=>⟨(bx (bs n c f)::jk::.raw (.slice none 0 0)::.raw (.bool false)::jk::jk::.one (.sl 47 0 0 n)::rN i::j16 (j16 (j4 (j4 (jk::rN n::rN i::j4 (jk::jk::rN c::rN g.i::j16 (jk::jk::jk::[]))))))),Hm [(47,gZ 47 n c (part f i g.i))]⟩) (fun g=>c-g.i) ⟨0,by omega⟩ ?_ ?_
  ·refine aE ⟨rfl,trivial⟩ ?_;simp[wk]
  rintro⟨j,hj⟩;simp only;by_cases hm3:j<c
  ·have hjr:=aU (f i) hm3;have hS:=gQ (f i j) (hf i j hm2 hm3).1 (hf i j hm2 hm3).2;have g1:=bO (n:=n) (i:=i) 47 c hm2;have g2:=eE c (part f i j) hm2;have g3:=aU (part f i j i) hm3;refine aD fun _ K=>?_;simp(disch:=omega) only[kd,bx];apply K
   refine bG rfl ?_;refine aF (aK ?_);refine aD fun _ K=>?_;simp only[kd];apply K
   refine ef be [⟨12,_,_,_,hS⟩] [] (by kernel_rfl) fun _ K=>?_;simp(disch:=omega) only[kd,tZ,aa,g1,hr,fR,hjr,g2,fZ,g3,kx];apply K
   show bo _ _ _ _;refine aL fun _ K=>?_;simp(disch:=omega) only[kd,aP];apply K
   refine⟨⟨j+1,by omega⟩,by simp only;omega,aE ⟨?_,trivial⟩ ?_⟩
   ·show _::_=_::_;rw[cL fun a b _ _=>jH f i j a b]
   simp[wk]
  have hjc:j=c:=by omega
  subst hjc;refine aD fun _ K=>?_;simp(disch:=omega) only[kd,bx];apply K
  refine bT rfl ?_;show bo _ _ _ _;refine aL fun _ K=>?_;simp(disch:=omega) only[kd,aP];apply K
  refine⟨⟨i+1,by omega⟩,by simp only;omega,aE ⟨?_,trivial⟩ ?_⟩
  ·show _::_=_::_;rw[cL fun a b _ hb=>lF f i a b hb]
  simp[wk]
 have hin:i=n:=by omega
 subst hin;refine aD fun _ K=>?_;simp(disch:=omega) only[kd,bx];apply K
 refine bT rfl ?_;show bo _ _ _ _;have e:gZ 47 i c (part f i 0)=gZ 47 i c f:=by
  show _::_=_::_;rw[cL fun a b ha _=>jS f a b ha]
 rw[e];refine bo.weak ((bZ 47 (kq rfl)).trans (aE (tm:=(j4 (jk::jk::bJ (bs i c f)::j16 (j16 (j16 (j16 (j4 (jk::jk::jk::[])))))))) (l:=[]) trivial (by simp[wk];exact(Ov (H:=Hm [(47,gZ 47 i c f)]) (d:=47) (n:=i) (c:=c) (f:=f) rfl).symm))) ?_;refine aD fun _ K=>?_;simp only[kd,aa,bJ];apply K
 (refine aH ⟨.inr rfl,aJ rfl ?_ rfl⟩;simp(disch:=omega) only[kd,Tryz.results59,Iy])
theorem Ay (n c:Nat) (f:FF) (hn1:1<=n) (hn:n<=16) (hc1:1<=c) (hc:c<=16) (hf: ∀i j,i<n->j<c-> -9223372036854775808<=f i j/\f i j<=9223372036854775807):
  CallC Tryz.prog 23 [bx (bs n c f)] ⟨[],bJ (bs n c f)⟩:=by
 have hF:=CN n c f hn1 hn hc1 hc hf;refine aI Tryz.func23 rfl (by kernel_rfl) ?_;rw[Tryz.ntmps23];refine aD fun _ K=>?_;simp only[kd,bx,ae];apply K
 refine aG [⟨1,_,_,_,hF⟩] [] fun _ K=>?_;simp only[kd,bx,Iy,aa];apply K
 refine aD fun _ K=>?_;simp only[kd];apply K
 (refine aH ⟨.inr rfl,aJ rfl ?_ rfl⟩;simp(disch:=omega) only[kd,Tryz.results23,bJ])
abbrev tu (l:List Nat):TV:= .one (.p (.sl (ls fN l)))
theorem MG (k more:Nat) (hk:k<=16) (hm:more<=16):CallC Tryz.prog 133 [.raw (.int .i64 (k:Int)),.raw (.int .i64 (more:Int))] ⟨[],tu (List.range k++[more])⟩:=by
 refine aI Tryz.func133 rfl (by kernel_rfl) ?_;rw[Tryz.ntmps133];refine aD fun _ K=>?_;simp only[kd,aa,ae];apply K
 refine aD fun _ K=>?_;simp only[kd];apply K
 refine aF (aD fun _ K=>?_);simp only[kd];apply K;refine aY (G:=j6 k) (fun g=>⟨(.raw (.int .i64 (k:Int))::rN more::jk::jk::.raw (.slice none 0 0)::.one (.sl 15 0 0 g.i)::rN g.i::j4 (j4 (j4 (jk::[])))),Hm [(15,[⟨3,1,lc fN (List.range g.i)⟩])]⟩) (fun g=>k-g.i) ⟨0,by omega⟩ ?_ ?_
 ·refine(fz (k:=5) (d:=15) 3 1 (by omega) rfl rfl).trans (aE ⟨rfl,trivial⟩ ?_);simp[wk]
 rintro⟨i,hi⟩;simp only;by_cases hm:i<k
 ·refine aF (aD fun _ K=>?_);simp(disch:=omega) only[kd,aa];apply K;refine aX rfl (aM ?_);refine aF (aK ?_);refine aL fun _ K=>?_;simp(disch:=omega) only[kd,aa,Nat.reduceMul,ah,List.length_range,nG];apply K
  show bo _ _ _ _;refine aL fun _ K=>?_;simp(disch:=omega) only[kd,aa,aP];apply K
  refine⟨⟨i+1,by omega⟩,by simp only;omega,aE ⟨?_,trivial⟩ ?_⟩
  ·rw[List.range_succ];rfl
  simp[wk]
 have hik:i=k:=by omega
 subst hik;refine aF (aD fun _ K=>?_);simp(disch:=omega) only[kd,aa];apply K;refine aR rfl (bN ?_);show bo _ _ _ _;refine aD fun _ K=>?_;simp(disch:=omega) only[kd,aa,Nat.reduceMul,ah,List.length_range,nG];apply K
 refine aH ⟨.inr rfl,kS 15 (dc rfl) ?_ rfl⟩;have eT:List.take (i+1) (List.range i++[more])=List.range i++[more]:=List.take_of_length_le (by simp);simp(disch:=omega) only[kd,Tryz.results133,eT,tu]
structure Ru (n:Nat) where
 i:Nat
 hi:i<=n
theorem vq (l:List Int) (v:Int):lc fZ l++[[.p (.raw (.bool (decide (v<0)))),.p (.sl (ls fU (aS v.natAbs)))]]=lc fZ (l++[v]):=by simp[lc,fZ]
theorem JV (M:List (List Int)) (r:List Int):lc (fR fZ) M++[[.p (.sl (ls fZ r))]]=lc (fR fZ) (M++[r]):=by simp[lc,fR]
theorem yo {α β:Type} {l:List α} {i:Nat} {x:α} (g:α->β) (h:l[i]?=some x):(l.take i).map g++[g x]=(l.take (i+1)).map g:=by
 rw[List.take_add_one,h];simp
theorem AA (n c:Nat) (f:FF) (rs cs:List Nat) (hn:n<=16) (hc:c<=16) (hr: ∀x∈rs,x<n) (hs: ∀x∈cs,x<c) (lr:rs.length<=17) (lcs:cs.length<=17):
  CallC Tryz.prog 132 [bJ (bs n c f),tu rs,tu cs] ⟨[],bJ (rs.map fun i=>cs.map (f i))⟩:=by
 have hml:=aW n c f;refine aI Tryz.func132 rfl (by kernel_rfl) ?_;rw[Tryz.ntmps132];refine aD fun _ K=>?_;simp only[kd,bJ,tu,aa,ae];apply K
 refine aD fun _ K=>?_;simp only[kd];apply K
 refine aF (aD fun _ K=>?_);simp only[kd,aa];apply K;refine aY (G:=Ru rs.length) (fun g=>⟨(bJ (bs n c f)::tu rs::tu cs::jk::jk::jk::.raw (.slice none 0 0)::.one (.sl 39 0 0 g.i)::j4 (jk::tu rs::rN rs.length::rN g.i::j16 (j4 (j4 (jk::jk::[]))))),Hm [(39,[⟨84,1,lc (fR fZ) ((rs.take g.i).map fun i=>cs.map (f i))⟩])]⟩) (fun g=>rs.length-g.i) ⟨0,by omega⟩ ?_ ?_
 ·refine(fz (k:=7) (d:=39) 84 1 (by omega) rfl rfl).trans (aE ⟨rfl,trivial⟩ ?_);simp[wk]
 rintro⟨i,hi⟩;simp only;by_cases hm:i<rs.length
 ·obtain⟨r,hri⟩:=getElem?_of_lt hm;have hrn:=hr r (List.mem_of_getElem? hri);have hrow:=bC c f hrn;refine aD fun _ K=>?_;simp(disch:=omega) only[kd,bJ,tu];apply K
  refine bG rfl ?_;refine aF (aK ?_);refine aD fun _ K=>?_;simp(disch:=omega) only[kd,aa,hri];apply K
  refine aD fun _ K=>?_;simp only[kd];apply K
  refine aF (aD fun _ K=>?_);simp only[kd,aa];apply K;refine aY (G:=Ru cs.length) (fun g=>⟨(bJ (bs n c f)::tu rs::tu cs::jk::jk::jk::.raw (.slice none 0 0)::.one (.sl 39 0 0 i)::jk::rN r::.one (.sl 34 0 0 g.i)::jk::jk::tu rs::rN rs.length::rN i::jk::jk::jk::tu cs::rN cs.length::rN g.i::j16 (j4 ([]))),Hm [(39,[⟨84,1,lc (fR fZ) ((rs.take i).map fun i=>cs.map (f i))⟩]),(34,[⟨42,2,lc fZ ((cs.take g.i).map (f r))⟩])]⟩) (fun g=>cs.length-g.i) ⟨0,by omega⟩ ?_ ?_
  ·refine(fz (k:=10) (d:=34) 42 2 (by omega) rfl rfl).trans (aE ⟨rfl,rfl,trivial⟩ ?_);simp[wk]
  rintro⟨j,hj⟩;simp only;by_cases hm2:j<cs.length
  ·obtain⟨s,hsj⟩:=getElem?_of_lt hm2;have hsc:=hs s (List.mem_of_getElem? hsj);have hent:=aU (f r) hsc;have eL:((cs.take j).map (f r)).length=j:=by simp;omega
   refine aD fun _ K=>?_;simp(disch:=omega) only[kd,bJ,tu];apply K
   refine bG rfl ?_;refine aF (aK ?_);refine aD fun _ K=>?_;simp(disch:=omega) only[kd,aa,hsj];apply K
   refine aL fun _ K=>?_;simp(disch:=omega) only[kd,aa,hrow,fR,hent,fZ,Nat.reduceMul,ah,ab,eL,vq,yo (f r) hsj,af];apply K
   show bo _ _ _ _;refine aL fun _ K=>?_;simp(disch:=omega) only[kd,aP];apply K
   refine⟨⟨j+1,by omega⟩,by simp only;omega,aE ⟨rfl,rfl,trivial⟩ ?_⟩;simp[wk]
  have hjc:j=cs.length:=by omega
  subst hjc;refine aD fun _ K=>?_;simp(disch:=omega) only[kd,bJ,tu];apply K
  refine bT rfl ?_;show bo _ _ _ _;refine bo.weak ((bZ 34 (dc rfl)).trans (aE (tm:=(bJ (bs n c f)::tu rs::tu cs::jk::jk::jk::.raw (.slice none 0 0)::.one (.sl 39 0 0 i)::jk::jk::.one (.p (.sl (ls fZ (cs.map (f r)))))::jk::jk::tu rs::rN rs.length::rN i::j16 (j4 (j4 (jk::jk::[]))))) (l:=[(39,[⟨84,1,lc (fR fZ) ((rs.take i).map fun i=>cs.map (f i))⟩])]) ⟨rfl,trivial⟩ (by simp[wk,ij,fH,Hm,gN,im,List.take_of_length_le]))) ?_;have eL:((rs.take i).map fun i=>cs.map (f i)).length=i:=by simp;omega
  have eS:=yo (fun i=>cs.map (f i)) hri;refine aL fun _ K=>?_;simp(disch:=omega) only[kd,aa,bJ,tu,Nat.reduceMul,ah,eL,JV,eS];apply K
  show bo _ _ _ _;refine aL fun _ K=>?_;simp(disch:=omega) only[kd,aP];apply K
  refine⟨⟨i+1,by omega⟩,by simp only;omega,aE ⟨rfl,trivial⟩ ?_⟩;simp[wk]
 have hin:i=rs.length:=by omega
 subst hin;refine aD fun _ K=>?_;simp(disch:=omega) only[kd,bJ,tu];apply K
 refine bT rfl ?_;show bo _ _ _ _;refine aD fun _ K=>?_;simp only[kd];apply K
 refine aH ⟨.inr rfl,kS 39 (dc rfl) ?_ rfl⟩;have eT:List.take rs.length (List.map (fun i=>cs.map (f i)) rs)=rs.map fun i=>cs.map (f i):=List.take_of_length_le (by simp)
 simp(disch:=omega) only[kd,Tryz.results132,List.take_length,eT,bJ]
end Go.Proofs.YtfgeomlagfomgaaGreatDoor
