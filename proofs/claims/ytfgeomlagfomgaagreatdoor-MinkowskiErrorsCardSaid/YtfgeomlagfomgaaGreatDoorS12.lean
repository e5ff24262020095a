/-
  Part 13 of a proof (walks and plain facts).
-/
import Derived.Test.YtfgeomlagfomgaaGreatDoorS11
set_option linter.all false
set_option maxRecDepth 100000
set_option maxHeartbeats 64000000
open Nat renaming reduceAdd → aa
open Nat renaming reduceEqDiff → ab
open List renaming replicate → ae
open Nat renaming reduceBEq → af
open Nat renaming reduceLeDiff → ah
open Int renaming reduceToNat → am
open List renaming getElem?_eq_none → aq
open List renaming length_replicate → ax
open List renaming getElem?_map → ay
namespace Go.Proofs.YtfgeomlagfomgaaGreatDoor
open Go.RowKit
def iN (z:Int):TV:=if -9223372036854775808<=z/\z<=9223372036854775807 then .tup [(false,[.p (.raw (.int .i64 z))]),(false,[.p (.raw (.bool true))])]else .tup [(false,[.p (.raw (.int .i64 0))]),(false,[.p (.raw (.bool false))])]
theorem tX {n:Nat} (h:2<(aR n).length):18446744073709551616<=n:=by
 have h1:=td (cd n) (by intro h0;rw[h0]at h;simp at h);rw[aQ]at h1;have h2:4294967296^2<=4294967296^((aR n).length-1):=Nat.pow_le_pow_right (by omega) (by omega);omega
theorem gH {n:Nat} (h:(aR n).length<=2):n<18446744073709551616:=by
 have h1:=fJ (aW n);rw[aQ]at h1;have h2:4294967296^(aR n).length<=4294967296^2:=Nat.pow_le_pow_right (by omega) h;omega
theorem KZ (z:Int) (h:Bg z):CallC Tryz.prog 88 [tZ z] ⟨[],iN z⟩:=by
 have ht:=iS (aR z.natAbs) h.len;rw[fV]at ht;have hw:=IH (aR z.natAbs) (aW _) h.len;have hl:=h.len;by_cases h2:2<(aR z.natAbs).length
 ·have hb:=tX h2;rw[show iN z= .tup [(false,[.p (.raw (.int .i64 0))]),(false,[.p (.raw (.bool false))])] by unfold iN;rw[if_neg (by omega)]];refine aJ Tryz.func88 rfl (by kernel_rfl) ?_;rw[Tryz.ntmps88];refine aD fun _ K=>?_;simp(disch:=omega) only[kd,aa,tZ,ae];apply K
  refine aG [⟨2,_,_,_,ht⟩] [] fun _ K=>?_;simp only[kd,bF,aa];apply K
  refine aG [⟨1,_,_,_,hw⟩] [] fun _ K=>?_;simp only[kd,bF,aa];apply K
  refine aE (aK ?_);refine aD fun _ K=>?_;simp(disch:=omega) only[kd,aa];apply K
  refine aS rfl ?_;refine aD fun _ K=>?_;simp only[kd];apply K
  (refine aI ⟨.inr rfl,aH rfl ?_ rfl⟩;simp(disch:=omega) only[kd,Tryz.results88])
 have hb:=gH (n:=z.natAbs) (by omega);rw[List.take_of_length_le (by omega),aQ]at hw;by_cases hz:z<0
 ·have e1:IntKind.i64.wrap (IntKind.u64.wrap (0-(z.natAbs:Int)))=z\/9223372036854775808<z.natAbs:=by
   rw[IntKind.wrap_u64];by_cases hz2:z.natAbs<=9223372036854775808
   ·left;have:(0-(z.natAbs:Int))%18446744073709551616=18446744073709551616+z:=by omega
    rw[this,IntKind.wrap_i64];omega
   right;omega
  by_cases hz2:z.natAbs<=9223372036854775808
  ·replace e1:=e1.resolve_right (by omega)
   rw[show iN z= .tup [(false,[.p (.raw (.int .i64 z))]),(false,[.p (.raw (.bool true))])] by unfold iN;rw[if_pos (by omega)]];refine aJ Tryz.func88 rfl (by kernel_rfl) ?_;rw[Tryz.ntmps88];refine aD fun _ K=>?_;simp(disch:=omega) only[kd,aa,tZ,ae];apply K
   refine aG [⟨2,_,_,_,ht⟩] [] fun _ K=>?_;simp only[kd,bF,aa];apply K
   refine aG [⟨1,_,_,_,hw⟩] [] fun _ K=>?_;simp only[kd,bF,aa];apply K
   refine aE (aK ?_);refine aD fun _ K=>?_;simp(disch:=omega) only[kd,aa];apply K
   refine aO rfl ?_;refine aD fun _ K=>?_;simp(disch:=omega) only[kd,aa];apply K
   refine aS rfl ?_;refine aD fun _ K=>?_;simp only[kd,aa,e1];apply K
   (refine aI ⟨.inr rfl,aH rfl ?_ rfl⟩;simp(disch:=omega) only[kd,Tryz.results88])
  rw[show iN z= .tup [(false,[.p (.raw (.int .i64 0))]),(false,[.p (.raw (.bool false))])] by unfold iN;rw[if_neg (by omega)]];refine aJ Tryz.func88 rfl (by kernel_rfl) ?_;rw[Tryz.ntmps88];refine aD fun _ K=>?_;simp(disch:=omega) only[kd,aa,tZ,ae];apply K
  refine aG [⟨2,_,_,_,ht⟩] [] fun _ K=>?_;simp only[kd,bF,aa];apply K
  refine aG [⟨1,_,_,_,hw⟩] [] fun _ K=>?_;simp only[kd,bF,aa];apply K
  refine aE (aK ?_);refine aD fun _ K=>?_;simp(disch:=omega) only[kd,aa];apply K
  refine aO rfl ?_;refine aD fun _ K=>?_;simp(disch:=omega) only[kd,aa];apply K
  refine aO rfl ?_;refine aD fun _ K=>?_;simp(disch:=omega) only[kd,aa];apply K
  refine aO rfl (aL ?_);show bs _ _ _ _;refine aD fun _ K=>?_;simp only[kd];apply K
  (refine aI ⟨.inr rfl,aH rfl ?_ rfl⟩;simp(disch:=omega) only[kd,Tryz.results88])
 by_cases hz2:z.natAbs<9223372036854775808
 ·have e1:IntKind.i64.wrap (z.natAbs:Int)=z:=by rw[IntKind.wrap_i64];omega
  rw[show iN z= .tup [(false,[.p (.raw (.int .i64 z))]),(false,[.p (.raw (.bool true))])] by unfold iN;rw[if_pos (by omega)]];refine aJ Tryz.func88 rfl (by kernel_rfl) ?_;rw[Tryz.ntmps88];refine aD fun _ K=>?_;simp(disch:=omega) only[kd,aa,tZ,ae];apply K
  refine aG [⟨2,_,_,_,ht⟩] [] fun _ K=>?_;simp only[kd,bF,aa];apply K
  refine aG [⟨1,_,_,_,hw⟩] [] fun _ K=>?_;simp only[kd,bF,aa];apply K
  refine aE (aK ?_);refine aD fun _ K=>?_;simp(disch:=omega) only[kd,aa];apply K
  refine aO rfl ?_;refine aD fun _ K=>?_;simp(disch:=omega) only[kd,aa];apply K
  refine aO rfl ?_;refine aD fun _ K=>?_;simp(disch:=omega) only[kd,aa];apply K
  refine aS rfl ?_;refine aD fun _ K=>?_;simp only[kd,aa,e1];apply K
  (refine aI ⟨.inr rfl,aH rfl ?_ rfl⟩;simp(disch:=omega) only[kd,Tryz.results88])
 rw[show iN z= .tup [(false,[.p (.raw (.int .i64 0))]),(false,[.p (.raw (.bool false))])] by unfold iN;rw[if_neg (by omega)]];refine aJ Tryz.func88 rfl (by kernel_rfl) ?_;rw[Tryz.ntmps88];refine aD fun _ K=>?_;simp(disch:=omega) only[kd,aa,tZ,ae];apply K
 refine aG [⟨2,_,_,_,ht⟩] [] fun _ K=>?_;simp only[kd,bF,aa];apply K
 refine aG [⟨1,_,_,_,hw⟩] [] fun _ K=>?_;simp only[kd,bF,aa];apply K
 refine aE (aK ?_);refine aD fun _ K=>?_;simp(disch:=omega) only[kd,aa];apply K
 refine aO rfl ?_;refine aD fun _ K=>?_;simp(disch:=omega) only[kd,aa];apply K
 refine aO rfl ?_;refine aD fun _ K=>?_;simp(disch:=omega) only[kd,aa];apply K
 refine aO rfl (aL ?_);show bs _ _ _ _;refine aD fun _ K=>?_;simp only[kd];apply K
 (refine aI ⟨.inr rfl,aH rfl ?_ rfl⟩;simp(disch:=omega) only[kd,Tryz.results88])
theorem oT: ∀{l:List Nat} {i x:Nat},Lmb l->l[i]?=some x->natV l/4294967296^i%4294967296=x
 |[],i,x,_,h=>by simp at h
 |a::l,0,x,hl,h=>by
  rw[dM]at hl;simp at h;subst h;have:=hl.1;simp only[natV,Nat.pow_zero];omega
 |a::l,i+1,x,hl,h=>by
  rw[dM]at hl;have ha:=hl.1;simp at h;have:=oT hl.2 h;rw[Nat.pow_succ,Nat.mul_comm,<- Nat.div_div_eq_div_mul];simp only[natV];rw[show(a+4294967296*natV l)/4294967296=natV l by omega];exact this
theorem Jo (i:Nat):4294967296^i=2^(32*i):=by rw[Nat.pow_mul]
theorem E3 {a k x:Nat} (h:(aR a)[k/32]?=some x):x/2^(k%32)%2=a/2^k%2:=by
 have h1:=oT (aW a) h;rw[aQ,Jo]at h1;rw[<- Nat.toNat_testBit,<- Nat.toNat_testBit,<- h1,show(4294967296:Nat)=2^32 from rfl,Nat.testBit_mod_two_pow,Nat.testBit_div_two_pow];rw[show k%32+32*(k/32)=k by omega];have:k%32<32:=by omega
 simp[this]
structure NO (a b n:Nat) where
 t:Nat
 O:List Nat
 ht:t<=32*n
 len:O.length=n
 lmb:Lmb O
 val:natV O=a/2^t/b*2^t
theorem PQ (a k:Nat):a/2^k=2*(a/2^(k+1))+a/2^k%2:=by
 rw[Nat.pow_succ,<- Nat.div_div_eq_div_mul];omega
theorem H8 {a b k:Nat} (hb:0<b) (h:2*(a/2^(k+1)%b)+a/2^k%2<b):a/2^k/b=2*(a/2^(k+1)/b)/\a/2^k%b=2*(a/2^(k+1)%b)+a/2^k%2:=by
 have h1:=PQ a k;have h2:=Nat.div_add_mod (a/2^(k+1)) b;generalize a/2^(k+1)=X at*
 generalize a/2^k%2=e at*
 generalize X%b=r at*
 generalize X/b=q at*
 have h3:a/2^k=b*(2*q)+(2*r+e):=by rw[h1,<- h2,Nat.mul_left_comm b 2 q];omega
 rw[h3];exact⟨by rw[Nat.mul_add_div hb,Nat.div_eq_of_lt h,Nat.add_zero],by rw[Nat.mul_add_mod,Nat.mod_eq_of_lt h]⟩
theorem H7 {a b k:Nat} (hb:0<b) (h:b<=2*(a/2^(k+1)%b)+a/2^k%2):a/2^k/b=2*(a/2^(k+1)/b)+1/\a/2^k%b=2*(a/2^(k+1)%b)+a/2^k%2-b:=by
 have h1:=PQ a k;have h2:=Nat.div_add_mod (a/2^(k+1)) b;have hr:a/2^(k+1)%b<b:=Nat.mod_lt _ hb;have he:a/2^k%2<2:=Nat.mod_lt _ (by omega);generalize a/2^(k+1)=X at*
 generalize a/2^k%2=e at*
 generalize X%b=r at*
 generalize X/b=q at*
 have h3:a/2^k=b*(2*q+1)+(2*r+e-b):=by have:=Nat.mul_left_comm b 2 q;rw[h1,<- h2,Nat.mul_add b (2*q) 1,Nat.mul_one];omega
 have h4:2*r+e-b<b:=by omega
 rw[h3];exact⟨by rw[Nat.mul_add_div hb,Nat.div_eq_of_lt h4,Nat.add_zero],by rw[Nat.mul_add_mod,Nat.mod_eq_of_lt h4]⟩
theorem Lu {a b n k:Nat} {O:List Nat} (hb:0<b) (ht:k+1<=32*n) (len:O.length=n) (lmb:Lmb O) (val:natV O=a/2^(k+1)/b*2^(k+1)) (h:2*(a/2^(k+1)%b)+a/2^k%2<b): ∃g:NO a b n,g.t=k/\g.O=O:=
 ⟨⟨k,O,by omega,len,lmb,by rw[val,(H8 hb h).1,Nat.pow_succ,Nat.mul_comm 2,Nat.mul_assoc,Nat.mul_comm 2]⟩,rfl,rfl⟩
theorem Lt {a b n k x:Nat} {O:List Nat} (hb:0<b) (ht:k+1<=32*n) (len:O.length=n) (lmb:Lmb O) (val:natV O=a/2^(k+1)/b*2^(k+1)) (h:b<=2*(a/2^(k+1)%b)+a/2^k%2) (hx:O[k/32]?=some x): ∃g:NO a b n,g.t=k/\g.O=O.set (k/32) (x|||2^(k%32)):=by
 have hx':=cn lmb hx;have hj:k%32<32:=Nat.mod_lt _ (by omega);have hor:x|||2^(k%32)<4294967296:=Nat.or_lt_two_pow (n:=32) hx' (Nat.pow_lt_pow_right (by omega) hj);refine⟨⟨k,O.set (k/32) (x|||2^(k%32)),by omega,by simp[len],xS lmb hor,?_⟩,rfl,rfl⟩;have h1:=oT lmb hx;have h2:=pH O (k/32) (x|||2^(k%32)) x hx;have ek:2^(k+1)=2^(32*(k/32))*2^(k%32+1):=by rw[<- Nat.pow_add];congr 1;omega
 rw[Jo]at h1 h2;rw[(H7 hb h).1];generalize a/2^(k+1)/b=q at*
 have h3:x=q%2^(31-k%32)*2^(k%32+1):=by
  rw[<- h1,val,ek,Nat.mul_comm (2^(32*(k/32))),<- Nat.mul_assoc,Nat.mul_div_cancel _ (Nat.pow_pos (by omega))];rw[show(4294967296:Nat)=2^(31-k%32)*2^(k%32+1) by rw[<- Nat.pow_add,show 31-k%32+(k%32+1)=32 by omega],Nat.mul_mod_mul_right]
 have h4:x|||2^(k%32)=x+2^(k%32):=by
  have:=qQ (q%2^(31-k%32)) (2^(k%32)) (k%32+1) (Nat.pow_lt_pow_right (by omega) (by omega));rw[<- h3]at this;exact this
 rw[h4]at h2⊢;rw[Nat.add_mul,<- Nat.pow_add,show k%32+32*(k/32)=k by omega,val]at h2;have h5:(2*q+1)*2^k=q*2^(k+1)+2^k:=by rw[Nat.add_mul,Nat.one_mul,Nat.mul_comm 2 q,Nat.mul_assoc,Nat.mul_comm 2 (2^k),<- Nat.pow_succ]
 rw[h5];generalize natV (O.set (k/32) (x+2^(k%32)))=N at*
 generalize x*2^(32*(k/32))=U at*
 generalize q*2^(k+1)=V at*
 generalize 2^k=W at*
 omega
theorem we {a n:Nat} (h:(aR a).length=n):a/2^(32*n)=0:=by
 have:=fJ (aW a);rw[aQ,Jo,h]at this;exact Nat.div_eq_of_lt this
theorem Dt {a b:Nat} (h:b<=a):0<=fX a b:=by unfold fX;split<;>(try split)<;>omega
theorem Hx {a b:Nat} (h:a<b):fX a b<0:=by rw[nt h];decide
abbrev zw (a b:Nat):TV:= .tup [(false,[.p (.sl (ls fU (aR (a/b))))]),(false,[.p (.sl (ls fU (aR (a%b))))])]
theorem oO {a b:Nat} (h:a<=b):(aR a).length<=(aR b).length:=iG (aW _) (cd _) (by rw[aQ,aQ];exact h)
theorem H9 (a b:Nat) (hb:0<b) (la:(aR a).length<=536870912) (lb:(aR b).length<=536870912):CallC Tryz.prog 129 [bF (aR a),bF (aR b)] ⟨[],zw a b⟩:=by
 by_cases hs:(aR a).length<=2/\(aR b).length<=2
 ·obtain⟨sa,sb⟩:=hs;have ua:=gH sa;have ub:=gH sb;have h1:=IH (aR a) (aW _) (by omega);have h2:=IH (aR b) (aW _) (by omega);rw[List.take_of_length_le sa,aQ]at h1;rw[List.take_of_length_le sb,aQ]at h2;have hq:a/b<=a:=Nat.div_le_self _ _;have hr:a%b<b:=Nat.mod_lt _ hb;have h3:=yG false (a/b) (by omega);have h4:=yG false (a%b) (by omega);rw[show f4 false (a/b)=((a/b:Nat):Int)from rfl]at h3;rw[show f4 false (a%b)=((a%b:Nat):Int)from rfl]at h4;have hb0:(b:Int)≠0:=by omega
  have e1:IntKind.u64.wrap (Int.tdiv (a:Int) (b:Int))=((a/b:Nat):Int):=by
   rw[Int.tdiv_eq_ediv_of_nonneg (by omega),<- Int.natCast_ediv];generalize a/b=q at*;rw[IntKind.wrap_u64];omega
  have e2:Int.tmod (a:Int) (b:Int)=((a%b:Nat):Int):=by
   rw[Int.tmod_eq_emod_of_nonneg (by omega),<- Int.natCast_emod]
  unfold zw;generalize a/b=q at*
  generalize a%b=r at*
  refine aJ Tryz.func129 rfl (by kernel_rfl) ?_;rw[Tryz.ntmps129];refine aD fun _ K=>?_;simp only[kd,bF,aa,ae];apply K
  refine aE (aD fun _ K=>?_);simp(disch:=omega) only[kd,aa];apply K;refine aS rfl ?_;refine aG [⟨1,_,_,_,h1⟩,⟨3,_,_,_,h2⟩] [] fun _ K=>?_;simp only[kd,bF,aa,af];apply K
  refine bv aZ [⟨3,_,_,_,h3⟩,⟨8,_,_,_,h4⟩] [] (by kernel_rfl) fun _ K=>?_;simp(disch:=omega) only[kd,tZ,Int.natAbs_natCast,aa,ne_eq,hb0,not_false_eq_true,e1,e2,af];apply K
  (refine aI ⟨.inr rfl,aH rfl ?_ rfl⟩;simp(disch:=omega) only[kd,Tryz.results129])
 refine aJ Tryz.func129 rfl (by kernel_rfl) ?_;rw[Tryz.ntmps129];refine aD fun _ K=>?_;simp only[kd,bF,aa,ae];apply K
 by_cases h3:(aR a).length<=2
 all_goals
  (first|refine aD fun _ K=>?_|refine aE (aD fun _ K=>?_)|refine aE (aE (aD fun _ K=>?_)));simp(disch:=omega) only[kd,aa];apply K
  first|refine aO rfl (aL ?_)|refine bT rfl (fun h=>by simp at h<;>omega) (fun _=>aL ?_)
  show bs _ _ _ _
  (first|refine aD fun _ K=>?_|refine aE (aD fun _ K=>?_)|refine aE (aE (aD fun _ K=>?_)));simp(disch:=omega) only[kd,aa,lJ];apply K
  (first|refine aD fun _ K=>?_|refine aE (aD fun _ K=>?_)|refine aE (aE (aD fun _ K=>?_)));simp(disch:=omega) only[kd,aa,aP];apply K
  refine aT (G:=NO a b (aR a).length) (fun g=>⟨(bF (aR a)::bF (aR b)::jk::jk::.one (.sl 33 0 0 (aR a).length)::bF (aR (a/2^g.t%b))::jk::jk::.raw (.int .i64 ((g.t:Int)-1))::j16 (j16 (j16 (j16 (jk::jk::[]))))),Hm [(33,[⟨79,1,lc fU g.O⟩])]⟩) (fun g=>g.t) ⟨32*(aR a).length,ae (aR a).length 0,by omega,by simp,fun x hx=>by simp at hx;omega,by rw[ue,we rfl];simp⟩ ?_ ?_
  ·refine(fg (k:=5) (d:=900) 79 1 (by omega) rfl rfl).trans ((bW 900 (cH (f:=fU) (l:=[]) rfl)).trans (aF ⟨rfl,trivial⟩ ?_));simp[wk,gW,fD,we rfl,cj];rfl
  rintro⟨t,O,ht,len,lmb,val⟩;simp only;cases t with
  |zero=>
   have htr:=iS O (by omega);rw[eB lmb,val]at htr;simp only[Nat.pow_zero,Nat.div_one,Nat.mul_one]at htr;simp only[Nat.pow_zero,Nat.div_one]
   (first|refine aD fun _ K=>?_|refine aE (aD fun _ K=>?_)|refine aE (aE (aD fun _ K=>?_)));simp(disch:=omega) only[kd,bF];apply K
   first|refine aO rfl (bK ?_)|refine bT rfl (fun h=>by simp at h<;>omega) (fun _=>bK ?_)
   show bs _ _ _ _;refine bs.weak (bW 33 (cH rfl)) ?_;have eT:List.take (aR a).length O=O:=List.take_of_length_le (by omega);simp(disch:=omega) only[kd,eT]
   (first|refine aG [⟨1,_,_,_,htr⟩] [] fun _ K=>?_|refine aE (aG [⟨1,_,_,_,htr⟩] [] fun _ K=>?_)|refine aE (aE (aG [⟨1,_,_,_,htr⟩] [] fun _ K=>?_)));simp only[kd,bF,aa];apply K
   (refine aI ⟨.inr rfl,aH rfl ?_ rfl⟩;simp(disch:=omega) only[kd,Tryz.results129])
  |succ k=>
   have ek:((k+1:Nat):Int)-1=(k:Int):=by omega
   simp only[ek];have hki:k/32<(aR a).length:=by omega
   obtain⟨x,hx⟩:=getElem?_of_lt hki;have hx':=cn (aW a) hx;obtain⟨y,hy⟩:=getElem?_of_lt (show k/32<O.length by omega);have hy':=cn lmb hy;have hbit:=E3 hx;have hq:IntKind.i64.wrap (Int.tdiv (k:Int) 32)=((k/32:Nat):Int):=by
    rw[Int.tdiv_eq_ediv_of_nonneg (by omega),IntKind.wrap_i64];omega
   have hr:Int.tmod (k:Int) 32=((k%32:Nat):Int):=by rw[Int.tmod_eq_emod_of_nonneg (by omega)];omega
   have hmin:min (k%32) IntKind.u32.bits=k%32:=by show min (k%32) 32=_;omega
   have e1:Int.fdiv (x:Int) (2^min (k%32) IntKind.u32.bits)=((x/2^(k%32):Nat):Int):=by
    rw[hmin,Int.fdiv_eq_ediv_of_nonneg _ (Int.pow_nonneg (by omega)),Int.natCast_ediv,Int.natCast_pow];rfl
   have hxl:x/2^(k%32)<=x:=Nat.div_le_self _ _;have e2:IntKind.u32.wrap (((BitVec.ofInt IntKind.u32.bits ((x/2^(k%32):Nat):Int)&&&BitVec.ofInt IntKind.u32.bits (1:Int)).toNat:Nat):Int)=((a/2^k%2:Nat):Int):=by
    rw[<- hbit,<- Nat.and_one_is_mod];exact PI (x/2^(k%32)) 1 (by omega) (by omega)
   have hbl:a/2^k%2<2:=Nat.mod_lt _ (by omega);have hrb:a/2^(k+1)%b<b:=Nat.mod_lt _ hb;have lr:=oO (Nat.le_of_lt hrb);have h1:=Ia (aR (a/2^(k+1)%b)) (a/2^k%2) (aW _) (by omega) (by omega);have h2:=iS (dblL (aR (a/2^(k+1)%b)) (a/2^k%2)) (by rw[zr];omega);rw[eB (zY _ _ (aW _) (by omega)),wD _ _ (aW _) (by omega),aQ]at h2;by_cases hge:b<=2*(a/2^(k+1)%b)+a/2^k%2
   ·obtain⟨g',q1,q2⟩:=Lt hb ht len lmb val hge hy;have hrest:=(H7 hb hge).2;have lr':=jb (n:=2*(a/2^(k+1)%b)+a/2^k%2) (k:=(aR b).length+1) (by
     have:=fJ (aW b);rw[aQ]at this;have hlt: ∀r e P:Nat,r<b->e<2->b<P->2*r+e<P*4294967296:=by intros;omega
     exact Nat.lt_of_lt_of_le (hlt _ _ _ hrb hbl this) (Nat.le_of_eq (Nat.pow_succ ..).symm))
    generalize 2*(a/2^(k+1)%b)+a/2^k%2=R at*
    have h3:=Dw (aR R) (aR b) (aW _) (aW _) (cd _) (cd _) (by omega) (by omega);rw[aQ,aQ]at h3;have hc:=Dt hge;have h4:=lC (aR R) (aR b) (aW _) (aW _) (by omega) (by omega);have h5:=iS (diffL (aR R) (aR b) 0) (by rw[ja];omega);have hd:=ik (aR R) (aR b) 0 (aW _) (aW _) (by omega) (oO hge) (by rw[aQ,aQ];exact hge);rw[aQ,aQ]at hd;rw[eB (jc _ _ _),show natV (diffL (aR R) (aR b) 0)=a/2^k%b by omega]at h5;have hp2:2^(k%32)<4294967296:=Nat.pow_lt_pow_right (a:=2) (n:=32) (by omega) (Nat.mod_lt _ (by omega));have e3:IntKind.u32.wrap (1*2^min (k%32) IntKind.u32.bits)=((2^(k%32):Nat):Int):=by
     rw[hmin,Int.one_mul,show((2:Int)^(k%32))=((2^(k%32):Nat):Int) by rw[Int.natCast_pow];rfl,sH,Nat.mod_eq_of_lt hp2]
    have e4:=PY y (2^(k%32)) hy' hp2
    (first|refine aD fun _ K=>?_|refine aE (aD fun _ K=>?_)|refine aE (aE (aD fun _ K=>?_)));simp(disch:=omega) only[kd,bF];apply K
    first|refine aS rfl (aL ?_)|refine bT rfl (fun _=>aL ?_) (fun h=>by simp at h<;>omega)
    refine aE (aK ?_)
    (first|refine aG [⟨10,_,_,_,h1⟩,⟨11,_,_,_,h2⟩] [] fun _ K=>?_|refine aE (aG [⟨10,_,_,_,h1⟩,⟨11,_,_,_,h2⟩] [] fun _ K=>?_)|refine aE (aE (aG [⟨10,_,_,_,h1⟩,⟨11,_,_,_,h2⟩] [] fun _ K=>?_)));simp(disch:=omega) only[kd,bF,aa,hq,hx,hr,e1,e2,af];apply K
    (first|refine aG [⟨2,_,_,_,h3⟩] [] fun _ K=>?_|refine aE (aG [⟨2,_,_,_,h3⟩] [] fun _ K=>?_)|refine aE (aE (aG [⟨2,_,_,_,h3⟩] [] fun _ K=>?_)));simp(disch:=omega) only[kd,bF,aa];apply K
    first|refine aS rfl ?_|refine bT rfl (fun _=>?_) (fun h=>by simp at h<;>omega)
    (first|refine aG [⟨2,_,_,_,h4⟩,⟨3,_,_,_,h5⟩] [] fun _ K=>?_|refine aE (aG [⟨2,_,_,_,h4⟩,⟨3,_,_,_,h5⟩] [] fun _ K=>?_)|refine aE (aE (aG [⟨2,_,_,_,h4⟩,⟨3,_,_,_,h5⟩] [] fun _ K=>?_)));simp only[kd,bF,aa,af];apply K
    refine gz aZ (by kernel_rfl) fun _ K=>?_;simp(disch:=omega) only[kd,aa,hq,hy,hr,e3,e4,dH];apply K
    show bs _ _ _ _;refine aM fun _ K=>?_;simp(disch:=omega) only[kd,aa,aP];apply K
    refine⟨g',by omega,aF ⟨by rw[q2];rfl,trivial⟩ ?_⟩;simp[wk,q1]
   obtain⟨g',q1,q2⟩:=Lu hb ht len lmb val (by omega);have hrest:=(H8 (a:=a) (k:=k) hb (by omega)).2;rw[<- hrest]at h2 hge;have lr':=oO (Nat.le_of_lt (Nat.mod_lt (a/2^k) hb));have h3:=Dw (aR (a/2^k%b)) (aR b) (aW _) (aW _) (cd _) (cd _) (by omega) (by omega);rw[aQ,aQ]at h3;have hc:=Hx (a:=a/2^k%b) (b:=b) (by omega)
   (first|refine aD fun _ K=>?_|refine aE (aD fun _ K=>?_)|refine aE (aE (aD fun _ K=>?_)));simp(disch:=omega) only[kd,bF];apply K
   first|refine aS rfl (aL ?_)|refine bT rfl (fun _=>aL ?_) (fun h=>by simp at h<;>omega)
   refine aE (aK ?_)
   (first|refine aG [⟨10,_,_,_,h1⟩,⟨11,_,_,_,h2⟩] [] fun _ K=>?_|refine aE (aG [⟨10,_,_,_,h1⟩,⟨11,_,_,_,h2⟩] [] fun _ K=>?_)|refine aE (aE (aG [⟨10,_,_,_,h1⟩,⟨11,_,_,_,h2⟩] [] fun _ K=>?_)));simp(disch:=omega) only[kd,bF,aa,hq,hx,hr,e1,e2,af];apply K
   (first|refine aG [⟨2,_,_,_,h3⟩] [] fun _ K=>?_|refine aE (aG [⟨2,_,_,_,h3⟩] [] fun _ K=>?_)|refine aE (aE (aG [⟨2,_,_,_,h3⟩] [] fun _ K=>?_)));simp(disch:=omega) only[kd,bF,aa];apply K
   first|refine aO rfl (aL ?_)|refine bT rfl (fun h=>by simp at h<;>omega) (fun _=>aL ?_)
   show bs _ _ _ _;refine aM fun _ K=>?_;simp(disch:=omega) only[kd,aa,aP];apply K
   refine⟨g',by omega,aF ⟨by rw[q2];rfl,trivial⟩ ?_⟩;simp[wk,q1]
theorem Kc {P:Program} {p q t n:Nat} (h:iV P t=some n) (hn:n≠1): ∀x∈[(p,q,t)],iV P x.2.2≠some 1:=fun x hx=>by
 have:x=(p,q,t):=by simpa using hx
 subst this;rw[h];intro h';injection h' with h'
 exact hn h'
theorem CI {s:AS} {p q t a r i j b r' i' j':Nat} (h1:s.tmps[p]?=some (.one (.ptr a r i j))) (h2:s.tmps[q]?=some (.one (.ptr b r' i' j'))) (hne:b≠a):yW [(p,q,t)] s:=fun x hx a2 r2 i2 j2 b2 r3 i3 j3 g1 g2=>by
 have:x=(p,q,t):=by simpa using hx
 subst this;simp only[h1]at g1;simp only[h2]at g2;injection g1 with g1;injection g1 with g1;injection g1 with g1
 injection g2 with g2;injection g2 with g2;injection g2 with g2
 subst g1 g2;exact hne
def tq (a b:Int):Int:=f4 (!(decide (a<0)==decide (b<0))) (a.natAbs/b.natAbs)
def tr (a b:Int):Int:=f4 (decide (a<0)) (a.natAbs%b.natAbs)
theorem Kg (a b:Int):tr a b+b*tq a b=a:=by
 have h:=Nat.div_add_mod a.natAbs b.natAbs;have h':(b.natAbs:Int)*((a.natAbs/b.natAbs:Nat):Int)+((a.natAbs%b.natAbs:Nat):Int)=(a.natAbs:Int):=by
  have:=congrArg (Nat.cast (R:=Int)) h;simpa using this
 unfold tq tr f4;generalize a.natAbs/b.natAbs=q at*
 generalize a.natAbs%b.natAbs=r at*
 by_cases ha:a<0<;>by_cases hb:b<0
 ·rw[decide_eq_true ha,decide_eq_true hb];show -(r:Int)+b*(q:Int)=a;rw[show(b.natAbs:Int)= -b by omega,show(a.natAbs:Int)= -a by omega,Int.neg_mul]at h';omega
 ·rw[decide_eq_true ha,decide_eq_false hb];show -(r:Int)+b* -(q:Int)=a;rw[show(b.natAbs:Int)=b by omega,show(a.natAbs:Int)= -a by omega]at h';rw[Int.mul_neg];omega
 ·rw[decide_eq_false ha,decide_eq_true hb];show(r:Int)+b* -(q:Int)=a;rw[show(b.natAbs:Int)= -b by omega,show(a.natAbs:Int)=a by omega,Int.neg_mul]at h';rw[Int.mul_neg];omega
 rw[decide_eq_false ha,decide_eq_false hb];show(r:Int)+b*(q:Int)=a;rw[show(b.natAbs:Int)=b by omega,show(a.natAbs:Int)=a by omega]at h';omega
theorem Kh (a b:Int):(tr a b).natAbs=a.natAbs%b.natAbs:=mU _ _
theorem Kf (a b:Int):(tq a b).natAbs=a.natAbs/b.natAbs:=mU _ _
theorem EA {a b:Int} (hb:b≠0):(tr a b).natAbs<b.natAbs:=by rw[Kh];exact Nat.mod_lt _ (by omega)
theorem BD {a b:Int} (hb:b≠0) (h:0<=tr a b):a/b=tq a b/\a%b=tr a b:=by
 have h1:=Kg a b;have h2:=EA (a:=a) hb;rcases Int.lt_or_gt_of_ne hb with hn|hp
 ·exact(Int.ediv_emod_unique' hn).2 ⟨h1,h,by omega⟩
 exact(Int.ediv_emod_unique hp).2 ⟨h1,h,by omega⟩
theorem DH {a b:Int} (hb:b<0) (h:tr a b<0):a/b=tq a b+1/\a%b=tr a b+b.natAbs:=by
 have h1:=Kg a b;have h2:=EA (a:=a) (b:=b) (by omega);refine(Int.ediv_emod_unique' hb).2 ⟨?_,by omega,by omega⟩;rw[Int.mul_add,Int.mul_one];omega
theorem DI {a b:Int} (hb:0<b) (h:tr a b<0):a/b=tq a b-1/\a%b=tr a b+b.natAbs:=by
 have h1:=Kg a b;have h2:=EA (a:=a) (b:=b) (by omega);refine(Int.ediv_emod_unique hb).2 ⟨?_,by omega,by omega⟩;rw[Int.mul_sub,Int.mul_one];omega
theorem Sz.le {x y:Int} {k:Nat} (h:Sz y k) (hx:x.natAbs<=y.natAbs):Sz x k:=Nat.lt_of_le_of_lt hx h
theorem lZ {k:Nat} (h:0<k):Sz 1 k:=by unfold Sz;exact Nat.one_lt_pow (by omega) (by decide)
theorem Hk:Bh 1:=lZ (by omega)
theorem JZ {z:Int} (h:z<0):sg z= -1:=by simp[sg,h]
theorem wV {z:Int} (h:0<=z):0<=sg z:=by unfold sg;split<;>(try split)<;>omega
theorem yR (a b:Int) (hb0:b≠0) (ha:Bh a) (hb:Bh b):CallC Tryz.prog 100 [tZ a,tZ b] ⟨[],.tup [(true,cZ (a/b)),(true,cZ (a%b)),(false,[.p (.raw (.bool true))])]⟩:=by
 have la:=ha.len;have lb:=hb.len;have t1:=iS (aR a.natAbs) ha.bg.len;have t2:=iS (aR b.natAbs) hb.bg.len;rw[fV]at t1 t2;have hl0:(aR b.natAbs).length≠0:=fun h=>hb0 (by have:=fE.1 h;omega)
 have hd:=H9 a.natAbs b.natAbs (by omega) la lb;have bq:Bh (tq a b):=ha.le (by rw[Kf];exact Nat.div_le_self _ _);have br:Bh (tr a b):=hb.le (Nat.le_of_lt (EA hb0));have hm1:=ju (!(decide (a<0)==decide (b<0))) (aR (a.natAbs/b.natAbs)) (aW _) (by have:=bq.bg.len;rwa[Kf]at this);have hm2:=ju (decide (a<0)) (aR (a.natAbs%b.natAbs)) (aW _) (by have:=br.bg.len;rwa[Kh]at this);rw[aQ,show f4 _ _=tq a b from rfl]at hm1;rw[aQ,show f4 _ _=tr a b from rfl]at hm2;have hs:=mW (tr a b) br.bg;have p0:= @BD a b hb0;have p1:= @DH a b;have p2:= @DI a b;generalize tq a b=Q at*
 generalize tr a b=R at*
 by_cases hR:R<0
 ·have hm3:=ju false (aR b.natAbs) (aW _) (by omega);rw[aQ,show f4 false b.natAbs=((b.natAbs:Nat):Int)from rfl]at hm3;have hA:=vL R (b.natAbs:Int) br (by unfold Bh Sz;rw[Int.natAbs_natCast];exact hb);have hs2:=mW b hb.bg;have h1:=fQ 1 (by omega) (by omega);rw[JZ hR]at hs;by_cases hbn:b<0
  ·obtain⟨e1,e2⟩:=p1 hbn hR;rw[e1,e2];rw[JZ hbn]at hs2;have hA2:=vL Q 1 bq Hk;refine aJ Tryz.func100 rfl (by kernel_rfl) ?_;rw[Tryz.ntmps100];refine aD fun _ K=>?_;simp(disch:=omega) only[kd,aa,tZ,ae,ab];apply K
   refine bv aZ [⟨2,_,_,_,t1⟩,⟨5,_,_,_,t2⟩] [] (by kernel_rfl) fun _ K=>?_;simp(disch:=omega) only[kd,bF,aa,ab,af];apply K
   refine aE (aD fun _ K=>?_);simp(disch:=omega) only[kd,aa];apply K;refine aO rfl (aL ?_);show bs _ _ _ _;refine aG [⟨2,_,_,_,hd⟩] [] fun _ K=>?_;simp only[kd,bF,aa];apply K
   refine bv aZ [⟨6,_,_,_,hm1⟩,⟨10,_,_,_,hm2⟩] [] (by kernel_rfl) fun _ K=>?_;simp(disch:=omega) only[kd,bF,tZ,aa,ab,af];apply K
   refine bs.weak (aF (tm:=(jk::jk::.one (.ptr 2 0 0 0)::.one (.ptr 3 0 0 0)::.one (.ptr 4 0 0 0)::.one (.ptr 5 0 0 0)::.raw (.bool false)::jk::bF (aR b.natAbs)::jk::jk::.one (.ptr 11 0 0 0)::.one (.ptr 12 0 0 0)::j16 (j16 (j16 ([]))))) (l:=[(2,yJ (decide (a<0)) (aR a.natAbs)),(3,yJ true (aR b.natAbs)),(4,qB),(5,qB),(11,yJ (decide (Q<0)) (aR Q.natAbs)),(12,yJ true (aR R.natAbs))]) ⟨rfl,rfl,rfl,rfl,rfl,rfl,trivial⟩ (by simp[wk])) ?_;refine aE (aG [⟨1,_,_,_,hs⟩] [] fun _ K=>?_);simp(disch:=omega) only[kd,tZ,aa,bF,ab];apply K;refine aS rfl ?_;refine bv aZ [⟨2,_,_,_,hm3⟩,⟨3,_,_,_,hA⟩] [] (by kernel_rfl) fun _ K=>?_;simp(disch:=omega) only[kd,bF,tZ,aa,ab,af];apply K
   refine aE (aG [⟨1,_,_,_,hs2⟩] [] fun _ K=>?_);simp(disch:=omega) only[kd,tZ,aa,ab];apply K;refine aS rfl ?_;refine sV [(12,4,42)] aZ [⟨1,_,_,_,h1⟩,⟨2,_,_,_,hA2⟩] [] (by kernel_rfl) (Kc (n:=2) (by simp only[qn,qk,oc,l5,sG,qj,l6,vj,qm,l4,yC,sE,ql]) (by decide)) (CI rfl rfl (by decide)) fun _ K=>?_;simp(disch:=omega) only[kd,tZ,aa,ab,af];apply K
   (refine aI ⟨.inr rfl,aH rfl ?_ rfl⟩;simp(disch:=omega) only[kd,Tryz.results100,ab,aa,cZ])
  obtain⟨e1,e2⟩:=p2 (by omega) hR;rw[e1,e2];have hs3:=wV (z:=b) (by omega);have hA2:=Nn Q 1 bq Hk;refine aJ Tryz.func100 rfl (by kernel_rfl) ?_;rw[Tryz.ntmps100];refine aD fun _ K=>?_;simp(disch:=omega) only[kd,aa,tZ,ae,ab];apply K
  refine bv aZ [⟨2,_,_,_,t1⟩,⟨5,_,_,_,t2⟩] [] (by kernel_rfl) fun _ K=>?_;simp(disch:=omega) only[kd,bF,aa,ab,af];apply K
  refine aE (aD fun _ K=>?_);simp(disch:=omega) only[kd,aa];apply K;refine aO rfl (aL ?_);show bs _ _ _ _;refine aG [⟨2,_,_,_,hd⟩] [] fun _ K=>?_;simp only[kd,bF,aa];apply K
  refine bv aZ [⟨6,_,_,_,hm1⟩,⟨10,_,_,_,hm2⟩] [] (by kernel_rfl) fun _ K=>?_;simp(disch:=omega) only[kd,bF,tZ,aa,ab,af];apply K
  refine bs.weak (aF (tm:=(jk::jk::.one (.ptr 2 0 0 0)::.one (.ptr 3 0 0 0)::.one (.ptr 4 0 0 0)::.one (.ptr 5 0 0 0)::.raw (.bool false)::jk::bF (aR b.natAbs)::jk::jk::.one (.ptr 11 0 0 0)::.one (.ptr 12 0 0 0)::j16 (j16 (j16 ([]))))) (l:=[(2,yJ (decide (a<0)) (aR a.natAbs)),(3,yJ false (aR b.natAbs)),(4,qB),(5,qB),(11,yJ (decide (Q<0)) (aR Q.natAbs)),(12,yJ true (aR R.natAbs))]) ⟨rfl,rfl,rfl,rfl,rfl,rfl,trivial⟩ (by simp[wk])) ?_;refine aE (aG [⟨1,_,_,_,hs⟩] [] fun _ K=>?_);simp(disch:=omega) only[kd,tZ,aa,bF,ab];apply K;refine aS rfl ?_;refine bv aZ [⟨2,_,_,_,hm3⟩,⟨3,_,_,_,hA⟩] [] (by kernel_rfl) fun _ K=>?_;simp(disch:=omega) only[kd,bF,tZ,aa,ab,af];apply K
  refine aE (aG [⟨1,_,_,_,hs2⟩] [] fun _ K=>?_);simp(disch:=omega) only[kd,tZ,aa,ab];apply K;refine aO rfl (aL ?_);show bs _ _ _ _;refine sV [(12,4,42)] aZ [⟨1,_,_,_,h1⟩,⟨2,_,_,_,hA2⟩] [] (by kernel_rfl) (Kc (n:=2) (by simp only[qn,qk,oc,l5,sG,qj,l6,vj,qm,l4,yC,sE,ql]) (by decide)) (CI rfl rfl (by decide)) fun _ K=>?_;simp(disch:=omega) only[kd,tZ,aa,ab,af];apply K
  (refine aI ⟨.inr rfl,aH rfl ?_ rfl⟩;simp(disch:=omega) only[kd,Tryz.results100,ab,aa,cZ])
 obtain⟨e1,e2⟩:=p0 (by omega);rw[e1,e2];have hs3:=wV (z:=R) (by omega);refine aJ Tryz.func100 rfl (by kernel_rfl) ?_;rw[Tryz.ntmps100];refine aD fun _ K=>?_;simp(disch:=omega) only[kd,aa,tZ,ae,ab];apply K
 refine bv aZ [⟨2,_,_,_,t1⟩,⟨5,_,_,_,t2⟩] [] (by kernel_rfl) fun _ K=>?_;simp(disch:=omega) only[kd,bF,aa,ab,af];apply K
 refine aE (aD fun _ K=>?_);simp(disch:=omega) only[kd,aa];apply K;refine aO rfl (aL ?_);show bs _ _ _ _;refine aG [⟨2,_,_,_,hd⟩] [] fun _ K=>?_;simp only[kd,bF,aa];apply K
 refine bv aZ [⟨6,_,_,_,hm1⟩,⟨10,_,_,_,hm2⟩] [] (by kernel_rfl) fun _ K=>?_;simp(disch:=omega) only[kd,bF,tZ,aa,ab,af];apply K
 refine bs.weak (aF (tm:=(jk::jk::.one (.ptr 2 0 0 0)::.one (.ptr 3 0 0 0)::.one (.ptr 4 0 0 0)::.one (.ptr 5 0 0 0)::.raw (.bool false)::jk::bF (aR b.natAbs)::jk::jk::.one (.ptr 11 0 0 0)::.one (.ptr 12 0 0 0)::j16 (j16 (j16 ([]))))) (l:=[(2,yJ (decide (a<0)) (aR a.natAbs)),(3,yJ (decide (b<0)) (aR b.natAbs)),(4,qB),(5,qB),(11,yJ (decide (Q<0)) (aR Q.natAbs)),(12,yJ false (aR R.natAbs))]) ⟨rfl,rfl,rfl,rfl,rfl,rfl,trivial⟩ (by simp[wk])) ?_;refine aE (aG [⟨1,_,_,_,hs⟩] [] fun _ K=>?_);simp(disch:=omega) only[kd,tZ,aa,bF,ab];apply K;refine aO rfl (aL ?_);show bs _ _ _ _;refine sV [(12,4,42)] aZ [] [] (by kernel_rfl) (Kc (n:=2) (by simp only[qn,qk,oc,l5,sG,qj,l6,vj,qm,l4,yC,sE,ql]) (by decide)) (CI rfl rfl (by decide)) fun _ K=>?_;simp(disch:=omega) only[kd,aa,ab];apply K
 (refine aI ⟨.inr rfl,aH rfl ?_ rfl⟩;simp(disch:=omega) only[kd,Tryz.results100,ab,aa,cZ])
theorem Da (a b:Int) (hb0:b≠0) (ha:Bh a) (hb:Bh b):CallC Tryz.prog 56 [tZ a,tZ b] ⟨[],tZ (a/b)⟩:=by
 have h1:=yR a b hb0 ha hb;refine aJ Tryz.func56 rfl (by kernel_rfl) ?_;rw[Tryz.ntmps56];refine aD fun _ K=>?_;simp(disch:=omega) only[kd,aa,tZ,ae,ab];apply K
 refine aG [⟨2,_,_,_,h1⟩] [] fun _ K=>?_;simp(disch:=omega) only[kd,tZ,cZ,aa,ab];apply K
 refine aD fun _ K=>?_;simp(disch:=omega) only[kd,ab,aa];apply K
 (refine aI ⟨.inr rfl,aH rfl ?_ rfl⟩;simp(disch:=omega) only[kd,Tryz.results56,ab,aa,tZ])
def fR {α:Type} (f:α->List PV) (r:List α):List PV:=[.sl (ls f r)]
abbrev bE (M:List (List Int)):TV:= .one (.p (.sl (ls (fR fZ) M)))
abbrev rOk (n:Nat) (r:List Int):Prop:=1<=r.length/\r.length<=16/\r.length=n
def xe (M:List (List Int)):Prop:=1<=M.length/\M.length<=16/\ ∀r∈M,rOk (M.headD []).length r
instance (M:List (List Int)):Decidable (xe M):=by unfold xe;exact inferInstance
def OU (M:List (List Int)):TV:=if xe M then .tup [(false,[.p (.raw (.int .i64 (M.length:Int)))]),(false,[.p (.raw (.int .i64 ((M.headD []).length:Int)))]),(false,[.p (.raw (.bool true))])]
 else .tup [(false,[.p (.raw (.int .i64 0))]),(false,[.p (.raw (.int .i64 0))]),(false,[.p (.raw (.bool false))])]
theorem fH {M:List (List Int)} (h: ¬xe M):OU M= .tup [(false,[.p (.raw (.int .i64 0))]),(false,[.p (.raw (.int .i64 0))]),(false,[.p (.raw (.bool false))])]:=by unfold OU;rw[if_neg h]
theorem fP {M:List (List Int)} (h:xe M):OU M= .tup [(false,[.p (.raw (.int .i64 (M.length:Int)))]),(false,[.p (.raw (.int .i64 ((M.headD []).length:Int)))]),(false,[.p (.raw (.bool true))])]:=by unfold OU;rw[if_pos h]
theorem gk {M:List (List Int)} (h:1<=M.length):M[0]?=some (M.headD []):=by cases M with
 |nil=>simp at h
 |cons r M=>rfl
structure Rh (M:List (List Int)) where
 i:Nat
 hi:i<=M.length
 ok: ∀r∈M.take i,rOk (M.headD []).length r
theorem nd (M:List (List Int)):CallC Tryz.prog 87 [bE M] ⟨[],OU M⟩:=by
 by_cases h1:M.length<1
 ·rw[fH (fun h=>by have:=h.1;omega)];refine aJ Tryz.func87 rfl (by kernel_rfl) ?_;rw[Tryz.ntmps87];refine aD fun _ K=>?_;simp only[kd,aa,bE,ae];apply K
  refine aE (aD fun _ K=>?_);simp(disch:=omega) only[kd,aa,reduceCtorEq];apply K;refine aS rfl ?_;refine aD fun _ K=>?_;simp only[kd,aa];apply K
  (refine aI ⟨.inr rfl,aH rfl ?_ rfl⟩;simp(disch:=omega) only[kd,Tryz.results87])
 by_cases h2:16<M.length
 ·rw[fH (fun h=>by have:=h.2.1;omega)];refine aJ Tryz.func87 rfl (by kernel_rfl) ?_;rw[Tryz.ntmps87];refine aD fun _ K=>?_;simp only[kd,aa,bE,ae];apply K
  refine aE (aD fun _ K=>?_);simp(disch:=omega) only[kd,aa];apply K;refine aS rfl ?_;refine aD fun _ K=>?_;simp only[kd,aa];apply K
  (refine aI ⟨.inr rfl,aH rfl ?_ rfl⟩;simp(disch:=omega) only[kd,Tryz.results87])
 have h0:=gk (M:=M) (by omega);refine aJ Tryz.func87 rfl (by kernel_rfl) ?_;rw[Tryz.ntmps87];refine aD fun _ K=>?_;simp only[kd,aa,bE,ae];apply K
 refine aE (aD fun _ K=>?_);simp(disch:=omega) only[kd,aa];apply K;refine aO rfl (aL ?_);show bs _ _ _ _;refine aE (aD fun _ K=>?_);simp only[kd,aa];apply K;refine aT (G:=Rh M) (fun g=>⟨(bE M::jk::.raw (.int .i64 0)::.raw (.int .i64 0)::.raw (.bool false)::j4 (j4 (jk::jk::bE M::rN M.length::rN g.i::j16 (j4 (j4 (jk::jk::jk::[])))))),Hm []⟩) (fun g=>M.length-g.i) ⟨0,by omega,fun r hr=>by simp at hr⟩ ?_ ?_
 ·refine aF trivial ?_;simp[wk]
 rintro⟨i,hi,ok⟩;simp only;by_cases hm:i<M.length
 ·obtain⟨r,hr⟩:=getElem?_of_lt hm;have hmem:r∈M:=List.mem_of_getElem? hr;refine aD fun _ K=>?_;simp(disch:=omega) only[kd,bE];apply K
  refine bC rfl ?_;refine aE (aK ?_);refine aD fun _ K=>?_;simp(disch:=omega) only[kd,aa,hr,fR];apply K
  by_cases c1:r.length<1
  ·rw[fH (fun h=>by have:=(h.2.2 r hmem).1;omega)];refine aD fun _ K=>?_;simp(disch:=omega) only[kd,aa,reduceCtorEq,am];apply K
   refine aS rfl ?_;refine aD fun _ K=>?_;simp only[kd,aa];apply K
   (refine aI ⟨.inr rfl,aH rfl ?_ rfl⟩;simp(disch:=omega) only[kd,Tryz.results87])
  by_cases c2:16<r.length
  ·rw[fH (fun h=>by have:=(h.2.2 r hmem).2.1;omega)];refine aD fun _ K=>?_;simp(disch:=omega) only[kd,aa,reduceCtorEq,am];apply K
   refine aS rfl ?_;refine aD fun _ K=>?_;simp only[kd,aa];apply K
   (refine aI ⟨.inr rfl,aH rfl ?_ rfl⟩;simp(disch:=omega) only[kd,Tryz.results87])
  by_cases c3:r.length=(M.headD []).length
  ·refine aD fun _ K=>?_;simp(disch:=omega) only[kd,aa,am,h0,fR];apply K
   refine aO rfl (aL ?_);show bs _ _ _ _;refine aM fun _ K=>?_;simp(disch:=omega) only[kd,aP];apply K
   refine⟨⟨i+1,by omega,fun r' hr'=>?_⟩,by simp only;omega,aF trivial ?_⟩
   ·rw[List.take_add_one,hr]at hr';rcases List.mem_append.1 hr' with h|h
    ·exact ok r' h
    have:r'=r:=by simpa using h
    subst this;exact⟨by omega,by omega,c3⟩
   simp[wk]
  rw[fH (fun h=>by have:=(h.2.2 r hmem).2.2;omega)];refine aD fun _ K=>?_;simp(disch:=omega) only[kd,aa,am,h0,fR];apply K
  refine aS rfl ?_;refine aD fun _ K=>?_;simp only[kd,aa];apply K
  (refine aI ⟨.inr rfl,aH rfl ?_ rfl⟩;simp(disch:=omega) only[kd,Tryz.results87])
 have hsh:xe M:=⟨by omega,by omega,fun r hr=>ok r (by rw[List.take_of_length_le (by omega)];exact hr)⟩;rw[fP hsh];refine aD fun _ K=>?_;simp(disch:=omega) only[kd,bE];apply K
 refine bJ rfl ?_;show bs _ _ _ _;refine cK aZ (by kernel_rfl) fun _ K=>?_;simp(disch:=omega) only[kd,aa,am,h0,fR];apply K
 (refine aI ⟨.inr rfl,aH rfl ?_ rfl⟩;simp(disch:=omega) only[kd,Tryz.results87])
def Qc (M:List (List Int)):Prop:=xe M/\M.length=(M.headD []).length
instance (M:List (List Int)):Decidable (Qc M):=by unfold Qc;exact inferInstance
def NF (M:List (List Int)):TV:=if Qc M then .tup [(false,[.p (.raw (.int .i64 (M.length:Int)))]),(false,[.p (.raw (.bool true))])]else .tup [(false,[.p (.raw (.int .i64 0))]),(false,[.p (.raw (.bool false))])]
theorem pf (M:List (List Int)):CallC Tryz.prog 78 [bE M] ⟨[],NF M⟩:=by
 have hS:=nd M;by_cases h1:xe M
 ·rw[fP h1]at hS;by_cases h2:M.length=(M.headD []).length
  ·rw[show NF M=_ from if_pos ⟨h1,h2⟩];refine aJ Tryz.func78 rfl (by kernel_rfl) ?_;rw[Tryz.ntmps78];refine aD fun _ K=>?_;simp only[kd,bE,ae];apply K
   refine aG [⟨1,_,_,_,hS⟩] [] fun _ K=>?_;simp only[kd,bE,aa];apply K
   refine aE (aD fun _ K=>?_);simp(disch:=omega) only[kd,aa];apply K;refine aO rfl (aL ?_);show bs _ _ _ _;refine aD fun _ K=>?_;simp only[kd,aa];apply K
   (refine aI ⟨.inr rfl,aH rfl ?_ rfl⟩;simp(disch:=omega) only[kd,Tryz.results78])
  rw[show NF M=_ from if_neg (fun h=>h2 h.2)];refine aJ Tryz.func78 rfl (by kernel_rfl) ?_;rw[Tryz.ntmps78];refine aD fun _ K=>?_;simp only[kd,bE,ae];apply K
  refine aG [⟨1,_,_,_,hS⟩] [] fun _ K=>?_;simp only[kd,bE,aa];apply K
  refine aE (aD fun _ K=>?_);simp(disch:=omega) only[kd,aa];apply K;refine aS rfl ?_;refine aD fun _ K=>?_;simp only[kd];apply K
  (refine aI ⟨.inr rfl,aH rfl ?_ rfl⟩;simp(disch:=omega) only[kd,Tryz.results78])
 rw[fH h1]at hS;rw[show NF M=_ from if_neg (fun h=>h1 h.1)];refine aJ Tryz.func78 rfl (by kernel_rfl) ?_;rw[Tryz.ntmps78];refine aD fun _ K=>?_;simp only[kd,bE,ae];apply K
 refine aG [⟨1,_,_,_,hS⟩] [] fun _ K=>?_;simp only[kd,bE,aa];apply K
 refine aE (aD fun _ K=>?_);simp(disch:=omega) only[kd,aa,reduceCtorEq];apply K;refine aS rfl ?_;refine aD fun _ K=>?_;simp only[kd];apply K
 (refine aI ⟨.inr rfl,aH rfl ?_ rfl⟩;simp(disch:=omega) only[kd,Tryz.results78])
def gm (d:Nat) (l:List Nat):List (List AV):=l.mapIdx fun k c=>[.sl d (k+1) 0 c]
def mn (r:List Int):OObj:=⟨42,2,lc fZ r⟩
def Nx (d:Nat) (R:List (List Int)):List OObj:=⟨84,1,gm d (R.map List.length)⟩::R.map mn
def NJ (d n c i:Nat):List OObj:=⟨84,1,gm d (ae i c)++ae (n-i) [.p (.sl [])]⟩::ae i (mn (ae c 0))
theorem ch (d:Nat) (l:List Nat):(gm d l).length=l.length:=by simp[gm]
theorem mX (d:Nat) (l:List Nat) (c:Nat):gm d (l++[c])=gm d l++[[.sl d (l.length+1) 0 c]]:=by simp[gm,List.mapIdx_append]
theorem NE (d:Nat) (l:List Nat):(gm d l).map (List.map yH)=gm d l:=by
 apply List.ext_getElem?;intro k;simp only[gm,ay,List.getElem?_mapIdx];cases l[k]?<;>rfl
theorem P3 (r:List Int):(lc fZ r).map (List.map yH)=lc fZ r:=by simp[lc,fZ,yH,yQ]
theorem GF (d n c:Nat):([⟨84,1,ae n [.raw (.slice none 0 0)]⟩]:List OObj).map zO=NJ d n c 0:=by
 simp[NJ,zO,gm,yH,yQ]
theorem KL (d n c:Nat):NJ d n c n=Nx d (ae n (ae c 0)):=by
 simp[NJ,Nx]
theorem yI {d n c i:Nat} (hi:i<n):(gm d (ae i c)++ae (n-i) [AV.p (PV.sl [])])[i]?=some [.p (.sl [])]:=by
 rw[List.getElem?_append_right (by simp[ch]),ch,ax,Nat.sub_self,List.getElem?_replicate,if_pos (by omega)]
theorem KM {d n c i:Nat} (hi:i<n):
  ((⟨84,1,(gm d (ae i c)++ae (n-i) [AV.p (PV.sl [])]).set i [.sl d (i+1) 0 c]⟩::ae i (mn (ae c 0))++[⟨42,2,ae c [.raw (.bool false),.raw (.slice none 0 0)]⟩]:List OObj)).map zO=NJ d n c (i+1):=by
 have e1:(gm d (ae i c)++ae (n-i) [AV.p (PV.sl [])]).set i [.sl d (i+1) 0 c]=gm d (ae (i+1) c)++ae (n-(i+1)) [AV.p (PV.sl [])]:=by
  rw[List.set_append_right _ _ (by simp[ch]),ch,ax,Nat.sub_self,List.replicate_succ' (n:=i),mX,ax,List.append_assoc]
  congr 1
  rw[show n-i=n-(i+1)+1 by omega,List.replicate_succ];rfl
 rw[e1];simp only[List.cons_append,List.map_cons,List.map_append,List.map_replicate,NJ]
 congr 1
 ·simp[zO,NE,yH,yQ]
 rw[List.replicate_succ']
 congr 1
 ·congr 1
  simp[zO,mn,P3]
 simp[zO,mn,lc,fZ,yH,yQ,cj,ls]
theorem Er (d e:Nat) (l:List Nat):(gm d l).map (List.map (eg e))=gm e l:=by
 apply List.ext_getElem?;intro k;simp only[gm,ay,List.getElem?_mapIdx];cases l[k]?<;>rfl
theorem Mw (e:Nat) (r:List Int):renO e (mn r)=mn r:=by simp[renO,mn,xP]
theorem D6 (d e:Nat) (R:List (List Int)):(Nx d R).map (renO e)=Nx e R:=by
 simp only[Nx,List.map_cons,List.map_map]
 congr 1
 ·simp[renO,Er]
 exact List.map_congr_left fun r _=>Mw e r
structure Rl (n:Nat) where
 i:Nat
 hi:i<=n
theorem xh (n c:Nat) (hn:n<=16) (hc:c<=16):CallC Tryz.prog 102 [.raw (.int .i64 (n:Int)),.raw (.int .i64 (c:Int))] ⟨Nx 0 (ae n (ae c 0)),.one (.sl 0 0 0 n)⟩:=by
 refine aJ Tryz.func102 rfl (by kernel_rfl) ?_;rw[Tryz.ntmps102];refine aD fun _ K=>?_;simp only[kd,aa,ae];apply K
 refine aD fun _ K=>?_;simp(disch:=omega) only[kd,aa];apply K
 refine aE (aD fun _ K=>?_);simp only[kd,aa];apply K;refine aT (G:=Rl n) (fun g=>⟨(.raw (.int .i64 (n:Int))::rN c::jk::jk::.raw (.slice none 0 0)::.one (.sl 8 0 0 n)::j4 (.raw (.int .i64 (n:Int))::rN g.i::j4 (j4 (jk::[])))),Hm [(8,NJ 8 n c g.i)]⟩) (fun g=>n-g.i) ⟨0,by omega⟩ ?_ ?_
 ·refine(eE 8).trans (aF ⟨GF 8 n c,trivial⟩ ?_);simp[wk]
 rintro⟨i,hi⟩;simp only;by_cases hm:i<n
 ·refine aD fun _ K=>?_;simp(disch:=omega) only[kd];apply K
  refine bC rfl ?_;refine aE (aK ?_);refine aD fun _ K=>?_;simp only[kd];apply K
  simp only[NJ];have hg:=yI (d:=8) (c:=c) hm;refine aM fun _ K=>?_;simp(disch:=omega) only[kd,aa,ab,hg,ah,ax,List.all_replicate,ite_self,af];apply K
  show bs _ _ _ _;refine aM fun _ K=>?_;simp(disch:=omega) only[kd,aP];apply K
  refine⟨⟨i+1,by omega⟩,by simp only;omega,(eE 8).trans (aF ⟨KM hm,trivial⟩ ?_)⟩;simp[wk]
 have hin:i=n:=by omega
 subst hin;refine aD fun _ K=>?_;simp(disch:=omega) only[kd];apply K
 refine bJ rfl ?_;show bs _ _ _ _;rw[KL];refine aD fun _ K=>?_;simp only[kd];apply K
 refine aI ⟨.inr rfl,_,ca.refl _,?_⟩;refine⟨.one (.sl 8 0 0 i),8,?_,rfl,?_,rfl⟩
 ·simp(disch:=omega) only[kd,Tryz.results102]
 exact(D6 8 0 _).symm
abbrev gI (d n c:Nat) (f:FF):List OObj:=⟨84,1,gm d (ae n c)⟩::(bu n c f).map mn
theorem IL (n c:Nat) (f:FF):(bu n c f).map List.length=ae n c:=by
 apply List.ext_getElem?;intro i;rw[ay,List.getElem?_replicate];by_cases h:i<n
 ·rw[bD _ _ h,if_pos h];simp[bz]
 rw[aq (by rw[aV];omega),if_neg h];rfl
theorem qO (d n c:Nat) (f:FF):Nx d (bu n c f)=gI d n c f:=by rw[Nx,IL]
theorem sf (n c:Nat):ae n (ae c (0:Int))=bu n c fun _ _=>0:=by
 apply List.ext_getElem?;intro i;rw[List.getElem?_replicate];by_cases h:i<n
 ·rw[bD _ _ h,if_pos h]
  congr 1
  apply List.ext_getElem?;intro j;rw[List.getElem?_replicate];by_cases h:j<c
  ·rw[aU _ h,if_pos h]
  rw[aq (by rw[bz];omega),if_neg h]
 rw[aq (by rw[aV];omega),if_neg h]
theorem bO {n i:Nat} (d c:Nat) (h:i<n):(gm d (ae n c))[i]?=some [.sl d (i+1) 0 c]:=by
 simp[gm,h]
theorem ee {n i:Nat} (c:Nat) (f:FF) (h:i<n):((bu n c f).map mn)[i]?=some ⟨42,2,lc fZ (bG c (f i))⟩:=by
 rw[ay,bD _ _ h];rfl
def upd (f:FF) (i j:Nat) (v:Int):Nat->Nat->Int:=fun a=>if a=i then(fun b=>if b=j then v else f i b)else f a
theorem jS {n i j:Nat} (c:Nat) (f:FF) (v:Int):((bu n c f).map mn).set i ⟨42,2,(lc fZ (bG c (f i))).set j [.p (.raw (.bool (decide (v<0)))),.p (.sl (ls fU (aR v.natAbs)))]⟩=(bu n c (upd f i j v)).map mn:=by
 have e:(⟨42,2,(lc fZ (bG c (f i))).set j [.p (.raw (.bool (decide (v<0)))),.p (.sl (ls fU (aR v.natAbs)))]⟩:OObj)=mn (bG c fun b=>if b=j then v else f i b):=by
  rw[<- pY,mn,<- xQ];rfl
 rw[e,<- List.map_set,xU];rfl
theorem cq {n c:Nat} {f g:FF} (h: ∀i j,i<n->j<c->f i j=g i j):(bu n c f).map mn=(bu n c g).map mn:=by rw[fp h]
theorem gy (d e n c:Nat) (f:FF):(gI d n c f).map (renO e)=gI e n c f:=by rw[<- qO,<- qO,D6]
theorem jO {H:OH} {d n c:Nat} {f:FF} (h:H d=gI d n c f):vw H d:=fun r o ho e he x hx=>by
 rw[h]at ho;cases r with
 |succ r=>
  rw[List.getElem?_cons_succ,ay]at ho;obtain⟨l,hl,rfl⟩:=Option.map_eq_some_iff.1 ho;exact .inl (eA _ _ l e he x hx)
 |zero=>
  simp at ho;subst ho;simp only at he;obtain⟨k,hk⟩:=List.mem_iff_getElem?.1 he;have hkn:k<n:=by
   have:=(List.getElem?_eq_some_iff.1 hk).1;rwa[ch,ax]at this
  rw[bO d c hkn]at hk;injection hk with hk
  subst hk;simp at hx;subst hx;refine .inr ⟨k+1,0,c,mn (bG c (f k)),rfl,?_,eA _ _ _⟩;rw[h,List.getElem?_cons_succ,ay,bD _ _ hkn];rfl
theorem Nv {H:OH} {d n c:Nat} {f:FF} (h:H d=gI d n c f):gW H d (.one (.sl d 0 0 n))=bE (bu n c f):=by
 have e:((gm d (ae n c)).map (List.map (jK H d)))=ls (fR fZ) (bu n c f):=by
  apply List.ext_getElem?;intro i;rw[ay,fv];by_cases hi:i<n
  ·rw[bO d c hi,bD _ _ hi];simp only[Option.map_some,List.map_cons,List.map_nil,jK,h,List.getElem?_cons_succ,ee _ _ hi,fR,gu,xN,se];rw[List.drop_zero,List.take_of_length_le (by rw[bz];omega)]
  rw[aq (by rw[ch,ax];omega),aq (by rw[aV];omega)];rfl
 simp only[gW,fD,if_true,h,List.getElem?_cons_zero];rw[List.drop_zero,List.take_of_length_le (by rw[ch,ax];omega),e]
abbrev bi (M:List (List Int)):TV:= .one (.p (.sl (ls (fR fI) M)))
def Im:TV:= .tup [(false,[.p (.raw (.slice none 0 0))]),(false,[.p (.raw (.bool false))])]
def yK (M:List (List Int)):TV:= .tup [(false,[.p (.sl (ls (fR fZ) M))]),(false,[.p (.raw (.bool true))])]
structure jD (n:Nat) where
 i:Nat
 hi:i<=n
def part (f:FF) (i j:Nat):Nat->Nat->Int:=fun a b=>if a<i\/(a=i/\b<j)then f a b else 0
theorem je (f:FF) (i j a b:Nat):upd (part f i j) i j (f i j) a b=part f i (j+1) a b:=by
 unfold upd part;by_cases h1:a=i
 ·subst h1;by_cases h2:b=j
  ·subst h2;simp
  have:b<j+1↔b<j:=by omega
  simp[h2,this]
 simp[h1]
theorem kH {c:Nat} (f:FF) (i a b:Nat) (hb:b<c):part f i c a b=part f (i+1) 0 a b:=by
 unfold part;by_cases h1:a<i
 ·rw[if_pos (.inl h1),if_pos (.inl (by omega))]
 by_cases h2:a=i
 ·rw[if_pos (.inr ⟨h2,hb⟩),if_pos (.inl (by omega))]
 rw[if_neg (by omega),if_neg (by omega)]
theorem jw {n:Nat} (f:FF) (a b:Nat) (ha:a<n):part f n 0 a b=f a b:=by
 unfold part;rw[if_pos (.inl ha)]
theorem wN (f:FF):part f 0 0=fun _ _=>0:=by
 funext a b;unfold part;rw[if_neg (by omega)]
theorem ox (n c:Nat) (f:FF) (hn1:1<=n) (hn:n<=16) (hc1:1<=c) (hc:c<=16) (hf: ∀i j,i<n->j<c-> -9223372036854775808<=f i j/\f i j<=9223372036854775807):
  CallC Tryz.prog 59 [bi (bu n c f)] ⟨[],yK (bu n c f)⟩:=by
 have hml:=aV n c f;have h0:=bD (n:=n) c f (i:=0) (by omega);have hZ:=xh n c hn hc;rw[sf,qO]at hZ;refine aJ Tryz.func59 rfl (by kernel_rfl) ?_;rw[Tryz.ntmps59];refine aD fun _ K=>?_;simp only[kd,bi,ae];apply K
 refine aE (aD fun _ K=>?_);simp(disch:=omega) only[kd,aa,hml];apply K;refine aO rfl (aL ?_);show bs _ _ _ _;refine aE (aD fun _ K=>?_);simp only[kd,aa,hml];apply K;refine aT (G:=jD n) (fun g=>⟨(bi (bu n c f)::jk::.raw (.slice none 0 0)::.raw (.bool false)::j4 (j4 (j4 (jk::bi (bu n c f)::rN n::rN g.i::j16 (j16 (j16 (j4 (j4 (jk::jk::[]))))))))),Hm []⟩) (fun g=>n-g.i) ⟨0,by omega⟩ ?_ ?_
 ·refine aF trivial ?_;simp[wk]
 rintro⟨i,hi⟩;simp only;by_cases hm:i<n
 ·have hr:=bD c f hm;refine aD fun _ K=>?_;simp(disch:=omega) only[kd,bi];apply K
  refine bC rfl ?_;refine aE (aK ?_);refine aD fun _ K=>?_;simp(disch:=omega) only[kd,aa,hr,fR];apply K
  refine aD fun _ K=>?_;simp(disch:=omega) only[kd,aa,bz,am,h0,fR];apply K
  refine aO rfl (aL ?_);show bs _ _ _ _;refine aM fun _ K=>?_;simp(disch:=omega) only[kd,aP];apply K
  refine⟨⟨i+1,by omega⟩,by simp only;omega,aF trivial ?_⟩;simp[wk]
 refine aD fun _ K=>?_;simp(disch:=omega) only[kd,bi];apply K
 refine bJ rfl ?_;show bs _ _ _ _;refine aG [⟨6,_,_,_,hZ⟩] [] fun _ K=>?_;simp(disch:=omega) only[kd,aa,hml,am,h0,fR,bz];apply K
 refine aE (aD fun _ K=>?_);simp only[kd,aa,hml];apply K;refine aT (G:=jD n) (fun g=>⟨(bi (bu n c f)::jk::.raw (.slice none 0 0)::.raw (.bool false)::jk::jk::.one (.sl 47 0 0 n)::j16 (j16 (j4 (j4 (jk::jk::rN n::rN g.i::j16 (j4 (j4 (jk::jk::jk::[])))))))),Hm [(47,gI 47 n c (part f g.i 0))]⟩) (fun g=>n-g.i) ⟨0,by omega⟩ ?_ ?_
 ·refine aF ⟨?_,trivial⟩ ?_
  ·rw[wN];exact gy 0 47 n c _
  simp[wk]
 rintro⟨i,hi⟩;simp only;by_cases hm2:i<n
 ·have hr:=bD c f hm2;refine aD fun _ K=>?_;simp(disch:=omega) only[kd,bi];apply K
  refine bC rfl ?_;refine aE (aK ?_);refine aD fun _ K=>?_;simp only[kd];apply K
  refine aD fun _ K=>?_;simp(disch:=omega) only[kd,aa,hr,fR,bz];apply K
  refine aT (G:=jD c) (fun g=>⟨(bi (bu n c f)::jk::.raw (.slice none 0 0)::.raw (.bool false)::jk::jk::.one (.sl 47 0 0 n)::rN i::j16 (j16 (j4 (j4 (jk::rN n::rN i::j4 (jk::jk::rN c::rN g.i::j16 (jk::jk::jk::[]))))))),Hm [(47,gI 47 n c (part f i g.i))]⟩) (fun g=>c-g.i) ⟨0,by omega⟩ ?_ ?_
  ·refine aF ⟨rfl,trivial⟩ ?_;simp[wk]
  rintro⟨j,hj⟩;simp only;by_cases hm3:j<c
  ·have hjr:=aU (f i) hm3;have hS:=fQ (f i j) (hf i j hm2 hm3).1 (hf i j hm2 hm3).2;have g1:=bO (n:=n) (i:=i) 47 c hm2;have g2:=ee c (part f i j) hm2;have g3:=aU (part f i j i) hm3;refine aD fun _ K=>?_;simp(disch:=omega) only[kd,bi];apply K
   refine bC rfl ?_;refine aE (aK ?_);refine aD fun _ K=>?_;simp only[kd];apply K
   refine d7 aZ [⟨12,_,_,_,hS⟩] [] (by kernel_rfl) fun _ K=>?_;simp(disch:=omega) only[kd,tZ,aa,g1,hr,fR,hjr,g2,fZ,g3,jS];apply K
   show bs _ _ _ _;refine aM fun _ K=>?_;simp(disch:=omega) only[kd,aP];apply K
   refine⟨⟨j+1,by omega⟩,by simp only;omega,aF ⟨?_,trivial⟩ ?_⟩
   ·show _::_=_::_;rw[cq fun a b _ _=>je f i j a b]
   simp[wk]
  have hjc:j=c:=by omega
  subst hjc;refine aD fun _ K=>?_;simp(disch:=omega) only[kd,bi];apply K
  refine bJ rfl ?_;show bs _ _ _ _;refine aM fun _ K=>?_;simp(disch:=omega) only[kd,aP];apply K
  refine⟨⟨i+1,by omega⟩,by simp only;omega,aF ⟨?_,trivial⟩ ?_⟩
  ·show _::_=_::_;rw[cq fun a b _ hb=>kH f i a b hb]
  simp[wk]
 have hin:i=n:=by omega
 subst hin;refine aD fun _ K=>?_;simp(disch:=omega) only[kd,bi];apply K
 refine bJ rfl ?_;show bs _ _ _ _;have e:gI 47 i c (part f i 0)=gI 47 i c f:=by
  show _::_=_::_;rw[cq fun a b ha _=>jw f a b ha]
 rw[e];refine bs.weak ((bW 47 (jO rfl)).trans (aF (tm:=(j4 (jk::jk::bE (bu i c f)::j16 (j16 (j16 (j16 (j4 (jk::jk::jk::[])))))))) (l:=[]) trivial (by simp[wk];exact(Nv (H:=Hm [(47,gI 47 i c f)]) (d:=47) (n:=i) (c:=c) (f:=f) rfl).symm))) ?_;refine aD fun _ K=>?_;simp only[kd,aa,bE];apply K
 (refine aI ⟨.inr rfl,aH rfl ?_ rfl⟩;simp(disch:=omega) only[kd,Tryz.results59,yK])
structure Q5 (M:List (List Int)) where
 i:Nat
 hi:i<=M.length
 ok: ∀r∈M.take i,rOk (M.headD []).length r
theorem rr (M:List (List Int)) (hM: ¬xe M):CallC Tryz.prog 59 [bi M] ⟨[],Im⟩:=by
 by_cases h1:M.length<1
 ·refine aJ Tryz.func59 rfl (by kernel_rfl) ?_;rw[Tryz.ntmps59];refine aD fun _ K=>?_;simp only[kd,bi,ae];apply K
  refine aE (aD fun _ K=>?_);simp(disch:=omega) only[kd,aa,reduceCtorEq];apply K;refine aS rfl ?_;refine aD fun _ K=>?_;simp only[kd];apply K
  (refine aI ⟨.inr rfl,aH rfl ?_ rfl⟩;simp(disch:=omega) only[kd,Tryz.results59,Im])
 by_cases h2:16<M.length
 ·refine aJ Tryz.func59 rfl (by kernel_rfl) ?_;rw[Tryz.ntmps59];refine aD fun _ K=>?_;simp only[kd,bi,ae];apply K
  refine aE (aD fun _ K=>?_);simp(disch:=omega) only[kd,aa];apply K;refine aS rfl ?_;refine aD fun _ K=>?_;simp only[kd];apply K
  (refine aI ⟨.inr rfl,aH rfl ?_ rfl⟩;simp(disch:=omega) only[kd,Tryz.results59,Im])
 have h0:=gk (M:=M) (by omega);refine aJ Tryz.func59 rfl (by kernel_rfl) ?_;rw[Tryz.ntmps59];refine aD fun _ K=>?_;simp only[kd,bi,ae];apply K
 refine aE (aD fun _ K=>?_);simp(disch:=omega) only[kd,aa];apply K;refine aO rfl (aL ?_);show bs _ _ _ _;refine aE (aD fun _ K=>?_);simp only[kd,aa];apply K;refine aT (G:=Q5 M) (fun g=>⟨(bi M::jk::.raw (.slice none 0 0)::.raw (.bool false)::j4 (j4 (j4 (jk::bi M::rN M.length::rN g.i::j16 (j16 (j16 (j4 (j4 (jk::jk::[]))))))))),Hm []⟩) (fun g=>M.length-g.i) ⟨0,by omega,fun r hr=>by simp at hr⟩ ?_ ?_
 ·refine aF trivial ?_;simp[wk]
 rintro⟨i,hi,ok⟩;simp only;by_cases hm:i<M.length
 ·obtain⟨r,hr⟩:=getElem?_of_lt hm;refine aD fun _ K=>?_;simp(disch:=omega) only[kd,bi];apply K
  refine bC rfl ?_;refine aE (aK ?_);refine aD fun _ K=>?_;simp(disch:=omega) only[kd,aa,hr,fR];apply K
  by_cases c1:r.length<1
  ·refine aD fun _ K=>?_;simp(disch:=omega) only[kd,aa,reduceCtorEq,am];apply K
   refine aS rfl ?_;refine aD fun _ K=>?_;simp only[kd];apply K
   (refine aI ⟨.inr rfl,aH rfl ?_ rfl⟩;simp(disch:=omega) only[kd,Tryz.results59,Im])
  by_cases c2:16<r.length
  ·refine aD fun _ K=>?_;simp(disch:=omega) only[kd,aa,reduceCtorEq,am];apply K
   refine aS rfl ?_;refine aD fun _ K=>?_;simp only[kd];apply K
   (refine aI ⟨.inr rfl,aH rfl ?_ rfl⟩;simp(disch:=omega) only[kd,Tryz.results59,Im])
  by_cases c3:r.length=(M.headD []).length
  ·refine aD fun _ K=>?_;simp(disch:=omega) only[kd,aa,am,h0,fR];apply K
   refine aO rfl (aL ?_);show bs _ _ _ _;refine aM fun _ K=>?_;simp(disch:=omega) only[kd,aP];apply K
   refine⟨⟨i+1,by omega,fun r' hr'=>?_⟩,by simp only;omega,aF trivial ?_⟩
   ·rw[List.take_add_one,hr]at hr';rcases List.mem_append.1 hr' with h|h
    ·exact ok r' h
    have:r'=r:=by simpa using h
    subst this;exact⟨by omega,by omega,c3⟩
   simp[wk]
  refine aD fun _ K=>?_;simp(disch:=omega) only[kd,aa,am,h0,fR];apply K
  refine aS rfl ?_;refine aD fun _ K=>?_;simp only[kd];apply K
  (refine aI ⟨.inr rfl,aH rfl ?_ rfl⟩;simp(disch:=omega) only[kd,Tryz.results59,Im])
 exact absurd ⟨by omega,by omega,fun r hr=>ok r (by rw[List.take_of_length_le (by omega)];exact hr)⟩ hM
theorem EJ (n c:Nat) (f:FF) (hn1:1<=n) (hn:n<=16) (hc1:1<=c) (hc:c<=16) (hf: ∀i j,i<n->j<c-> -9223372036854775808<=f i j/\f i j<=9223372036854775807):
  CallC Tryz.prog 23 [bi (bu n c f)] ⟨[],bE (bu n c f)⟩:=by
 have hF:=ox n c f hn1 hn hc1 hc hf;refine aJ Tryz.func23 rfl (by kernel_rfl) ?_;rw[Tryz.ntmps23];refine aD fun _ K=>?_;simp only[kd,bi,ae];apply K
 refine aG [⟨1,_,_,_,hF⟩] [] fun _ K=>?_;simp only[kd,bi,yK,aa];apply K
 refine aD fun _ K=>?_;simp only[kd];apply K
 (refine aI ⟨.inr rfl,aH rfl ?_ rfl⟩;simp(disch:=omega) only[kd,Tryz.results23,bE])
abbrev rV (l:List Nat):TV:= .one (.p (.sl (ls fN l)))
theorem LA (k more:Nat) (hk:k<=16) (hm:more<=16):CallC Tryz.prog 133 [.raw (.int .i64 (k:Int)),.raw (.int .i64 (more:Int))] ⟨[],rV (List.range k++[more])⟩:=by
 refine aJ Tryz.func133 rfl (by kernel_rfl) ?_;rw[Tryz.ntmps133];refine aD fun _ K=>?_;simp only[kd,aa,ae];apply K
 refine aD fun _ K=>?_;simp only[kd];apply K
 refine aE (aD fun _ K=>?_);simp only[kd];apply K;refine aT (G:=jD k) (fun g=>⟨(.raw (.int .i64 (k:Int))::rN more::jk::jk::.raw (.slice none 0 0)::.one (.sl 15 0 0 g.i)::rN g.i::j4 (j4 (j4 (jk::[])))),Hm [(15,[⟨3,1,lc fN (List.range g.i)⟩])]⟩) (fun g=>k-g.i) ⟨0,by omega⟩ ?_ ?_
 ·refine(fg (k:=5) (d:=15) 3 1 (by omega) rfl rfl).trans (aF ⟨rfl,trivial⟩ ?_);simp[wk]
 rintro⟨i,hi⟩;simp only;by_cases hm:i<k
 ·refine aE (aD fun _ K=>?_);simp(disch:=omega) only[kd,aa];apply K;refine aS rfl (aL ?_);refine aE (aK ?_);refine aM fun _ K=>?_;simp(disch:=omega) only[kd,aa,Nat.reduceMul,ah,List.length_range,mH];apply K
  show bs _ _ _ _;refine aM fun _ K=>?_;simp(disch:=omega) only[kd,aa,aP];apply K
  refine⟨⟨i+1,by omega⟩,by simp only;omega,aF ⟨?_,trivial⟩ ?_⟩
  ·rw[List.range_succ];rfl
  simp[wk]
 have hik:i=k:=by omega
 subst hik;refine aE (aD fun _ K=>?_);simp(disch:=omega) only[kd,aa];apply K;refine aO rfl (bK ?_);show bs _ _ _ _;refine aD fun _ K=>?_;simp(disch:=omega) only[kd,aa,Nat.reduceMul,ah,List.length_range,mH];apply K
 refine aI ⟨.inr rfl,jz 15 (cH rfl) ?_ rfl⟩;have eT:List.take (i+1) (List.range i++[more])=List.range i++[more]:=List.take_of_length_le (by simp);simp(disch:=omega) only[kd,Tryz.results133,eT,rV]
structure Qt (n:Nat) where
 i:Nat
 hi:i<=n
theorem tV (l:List Int) (v:Int):lc fZ l++[[.p (.raw (.bool (decide (v<0)))),.p (.sl (ls fU (aR v.natAbs)))]]=lc fZ (l++[v]):=by simp[lc,fZ]
theorem IE (M:List (List Int)) (r:List Int):lc (fR fZ) M++[[.p (.sl (ls fZ r))]]=lc (fR fZ) (M++[r]):=by simp[lc,fR]
theorem w6 {α β:Type} {l:List α} {i:Nat} {x:α} (g:α->β) (h:l[i]?=some x):(l.take i).map g++[g x]=(l.take (i+1)).map g:=by
 rw[List.take_add_one,h];simp
theorem yV (n c:Nat) (f:FF) (rs cs:List Nat) (hn:n<=16) (hc:c<=16) (hr: ∀x∈rs,x<n) (hs: ∀x∈cs,x<c) (lr:rs.length<=17) (lcs:cs.length<=17):
  CallC Tryz.prog 132 [bE (bu n c f),rV rs,rV cs] ⟨[],bE (rs.map fun i=>cs.map (f i))⟩:=by
 have hml:=aV n c f;refine aJ Tryz.func132 rfl (by kernel_rfl) ?_;rw[Tryz.ntmps132];refine aD fun _ K=>?_;simp only[kd,bE,rV,aa,ae];apply K
 refine aD fun _ K=>?_;simp only[kd];apply K
 refine aE (aD fun _ K=>?_);simp only[kd,aa];apply K;refine aT (G:=Qt rs.length) (fun g=>⟨(bE (bu n c f)::rV rs::rV cs::jk::jk::jk::.raw (.slice none 0 0)::.one (.sl 39 0 0 g.i)::j4 (jk::rV rs::rN rs.length::rN g.i::j16 (j4 (j4 (jk::jk::[]))))),Hm [(39,[⟨84,1,lc (fR fZ) ((rs.take g.i).map fun i=>cs.map (f i))⟩])]⟩) (fun g=>rs.length-g.i) ⟨0,by omega⟩ ?_ ?_
 ·refine(fg (k:=7) (d:=39) 84 1 (by omega) rfl rfl).trans (aF ⟨rfl,trivial⟩ ?_);simp[wk]
 rintro⟨i,hi⟩;simp only;by_cases hm:i<rs.length
 ·obtain⟨r,hri⟩:=getElem?_of_lt hm;have hrn:=hr r (List.mem_of_getElem? hri);have hrow:=bD c f hrn;refine aD fun _ K=>?_;simp(disch:=omega) only[kd,bE,rV];apply K
  refine bC rfl ?_;refine aE (aK ?_);refine aD fun _ K=>?_;simp(disch:=omega) only[kd,aa,hri];apply K
  refine aD fun _ K=>?_;simp only[kd];apply K
  refine aE (aD fun _ K=>?_);simp only[kd,aa];apply K;refine aT (G:=Qt cs.length) (fun g=>⟨(bE (bu n c f)::rV rs::rV cs::jk::jk::jk::.raw (.slice none 0 0)::.one (.sl 39 0 0 i)::jk::rN r::.one (.sl 34 0 0 g.i)::jk::jk::rV rs::rN rs.length::rN i::jk::jk::jk::rV cs::rN cs.length::rN g.i::j16 (j4 ([]))),Hm [(39,[⟨84,1,lc (fR fZ) ((rs.take i).map fun i=>cs.map (f i))⟩]),(34,[⟨42,2,lc fZ ((cs.take g.i).map (f r))⟩])]⟩) (fun g=>cs.length-g.i) ⟨0,by omega⟩ ?_ ?_
  ·refine(fg (k:=10) (d:=34) 42 2 (by omega) rfl rfl).trans (aF ⟨rfl,rfl,trivial⟩ ?_);simp[wk]
  rintro⟨j,hj⟩;simp only;by_cases hm2:j<cs.length
  ·obtain⟨s,hsj⟩:=getElem?_of_lt hm2;have hsc:=hs s (List.mem_of_getElem? hsj);have hent:=aU (f r) hsc;have eL:((cs.take j).map (f r)).length=j:=by simp;omega
   refine aD fun _ K=>?_;simp(disch:=omega) only[kd,bE,rV];apply K
   refine bC rfl ?_;refine aE (aK ?_);refine aD fun _ K=>?_;simp(disch:=omega) only[kd,aa,hsj];apply K
   refine aM fun _ K=>?_;simp(disch:=omega) only[kd,aa,hrow,fR,hent,fZ,Nat.reduceMul,ah,ab,eL,tV,w6 (f r) hsj,af];apply K
   show bs _ _ _ _;refine aM fun _ K=>?_;simp(disch:=omega) only[kd,aP];apply K
   refine⟨⟨j+1,by omega⟩,by simp only;omega,aF ⟨rfl,rfl,trivial⟩ ?_⟩;simp[wk]
  have hjc:j=cs.length:=by omega
  subst hjc;refine aD fun _ K=>?_;simp(disch:=omega) only[kd,bE,rV];apply K
  refine bJ rfl ?_;show bs _ _ _ _;refine bs.weak ((bW 34 (cH rfl)).trans (aF (tm:=(bE (bu n c f)::rV rs::rV cs::jk::jk::jk::.raw (.slice none 0 0)::.one (.sl 39 0 0 i)::jk::jk::.one (.p (.sl (ls fZ (cs.map (f r)))))::jk::jk::rV rs::rN rs.length::rN i::j16 (j4 (j4 (jk::jk::[]))))) (l:=[(39,[⟨84,1,lc (fR fZ) ((rs.take i).map fun i=>cs.map (f i))⟩])]) ⟨rfl,trivial⟩ (by simp[wk,gW,fD,Hm,gu,gP,List.take_of_length_le]))) ?_;have eL:((rs.take i).map fun i=>cs.map (f i)).length=i:=by simp;omega
  have eS:=w6 (fun i=>cs.map (f i)) hri;refine aM fun _ K=>?_;simp(disch:=omega) only[kd,aa,bE,rV,Nat.reduceMul,ah,eL,IE,eS];apply K
  show bs _ _ _ _;refine aM fun _ K=>?_;simp(disch:=omega) only[kd,aP];apply K
  refine⟨⟨i+1,by omega⟩,by simp only;omega,aF ⟨rfl,trivial⟩ ?_⟩;simp[wk]
 have hin:i=rs.length:=by omega
 subst hin;refine aD fun _ K=>?_;simp(disch:=omega) only[kd,bE,rV];apply K
 refine bJ rfl ?_;show bs _ _ _ _;refine aD fun _ K=>?_;simp only[kd];apply K
 refine aI ⟨.inr rfl,jz 39 (cH rfl) ?_ rfl⟩;have eT:List.take rs.length (List.map (fun i=>cs.map (f i)) rs)=rs.map fun i=>cs.map (f i):=List.take_of_length_le (by simp)
 simp(disch:=omega) only[kd,Tryz.results132,List.take_length,eT,bE]
end Go.Proofs.YtfgeomlagfomgaaGreatDoor
