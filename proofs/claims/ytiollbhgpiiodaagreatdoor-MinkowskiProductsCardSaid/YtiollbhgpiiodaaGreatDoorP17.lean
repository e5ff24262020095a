/-
  Part 18 of a proof (walks and plain facts).
-/
import Derived.Test.YtiollbhgpiiodaaGreatDoorP16
import Derived.Lib.BitFns
set_option linter.all false
set_option maxRecDepth 100000
set_option maxHeartbeats 64000000
open Nat renaming reduceAdd → aa
open Nat renaming le_refl → af
open List renaming replicate → ag
open Int renaming reduceToNat → ao
open List renaming getElem?_append_right → ar
open List renaming getElem?_eq_none → au
open Nat renaming le_trans → aB
namespace Go.Proofs.YtiollbhgpiiodaaGreatDoor
open Go.RowKit
theorem Pq {U V L v1 high q : Nat} (hV : v1 * 4294967296 * L <= V) (hU : U < (high + 1) * 4294967296 * L) (hq : q * V <= U) (hL : 0 < L) : q * v1 <= high := by
  have h1 : q * (v1 * 4294967296 * L) <= q * V := Nat.mul_le_mul_left _ hV;have h2 : (q * v1) * (4294967296 * L) < (high + 1) * (4294967296 * L) := by
    calc (q * v1) * (4294967296 * L) = q * (v1 * 4294967296 * L) := by grind
      _ <= q * V := h1
      _ <= U := hq
      _ < (high + 1) * 4294967296 * L := hU
      _ = (high + 1) * (4294967296 * L) := by grind
  have := Nat.lt_of_mul_lt_mul_right h2;omega
theorem Pp {U V L v1 v2 u0 high g r q : Nat} (hV : (v1 * 4294967296 + v2) * L <= V) (hU : U < (high * 4294967296 + u0 + 1) * L) (hq : q * V <= U) (hg : g * v1 + r = high) (h : r * 4294967296 + u0 < g * v2) : q < g := by
  by_cases hc : q < g
  · exact hc
  · exfalso
    have h1 : g * ((v1 * 4294967296 + v2) * L) <= U := aB (Nat.mul_le_mul (Nat.le_of_not_lt hc) hV) hq;have h2 : (g * (v1 * 4294967296 + v2)) * L < (high * 4294967296 + u0 + 1) * L := by
      calc (g * (v1 * 4294967296 + v2)) * L = g * ((v1 * 4294967296 + v2) * L) := by grind
        _ <= U := h1
        _ < _ := hU
    have h3 := Nat.lt_of_mul_lt_mul_right h2;have h4 : g * (v1 * 4294967296 + v2) = g * v1 * 4294967296 + g * v2 := by grind
    have h5 : high * 4294967296 = g * v1 * 4294967296 + r * 4294967296 := by rw [<- hg]; grind
    omega
theorem KY {U V L vl v1 v2 t3 g q : Nat} (hV : V = (v1 * 4294967296 + v2) * L + vl) (hvl : vl < L) (hU : t3 * L <= U) (hq : U < (q + 1) * V) (hg : g * (v1 * 4294967296 + v2) <= t3) (hB : g <= 4294967296) (hv1 : 1 <= v1) : g <= q + 1 := by
  have h1 : g * V <= U + g * vl := by
    calc g * V = (g * (v1 * 4294967296 + v2)) * L + g * vl := by rw [hV]; grind
      _ <= t3 * L + g * vl := Nat.add_le_add_right (Nat.mul_le_mul_right _ hg) _
      _ <= _ := Nat.add_le_add_right hU _
  have h2 : g * vl <= 4294967296 * L := Nat.mul_le_mul hB (Nat.le_of_lt hvl);have h3 : 4294967296 * L <= V := by
    rw [hV];have : 4294967296 * L <= (v1 * 4294967296 + v2) * L := Nat.mul_le_mul_right _ (by omega);omega
  have h4 : g * V < (q + 2) * V := by
    calc g * V <= U + V := by omega
      _ < (q + 1) * V + V := by omega
      _ = (q + 2) * V := by grind
  have := Nat.lt_of_mul_lt_mul_right h4;omega
structure JZ (u v:List Nat) (g:Nat) where
 i:Nat
 us:List Nat
 c:Nat
 b:Nat
 hi:i<=v.length
 len:us.length=i
 lmb:Lmb us
 hc:c<4294967296
 hb:b<=1
 val:natV us+g*natV (v.take i)=natV (u.take i)+(c+b)*4294967296^i
def JZ.start (u v:List Nat) (g:Nat):JZ u v g:=⟨0,[],0,0,Nat.zero_le _,rfl,fun a h=>by simp at h,by omega,by omega,by simp[natV]⟩
theorem nB (l:List Nat) (a:Nat):natV (l++[a])=natV l+a*4294967296^l.length:=by
 rw[iw];simp[natV];grind
theorem mv {l:List Nat} {a:Nat} (h:Lmb l) (ha:a<4294967296):Lmb (l++[a]):=fun x hx=>by
 rcases List.mem_append.1 hx with h1|h1
 ·exact h x h1
 simp at h1;omega
theorem zx {g x c:Nat} (hg:g<=4294967296) (hx:x<4294967296) (hc:c<4294967296):c+g*x<18446744073709551616/\(c+g*x)/4294967296<4294967296:=by
 have:g*x<=4294967296*4294967295:=Nat.mul_le_mul hg (by omega);omega
theorem K6 {u v:List Nat} {g:Nat} (m:JZ u v g) {x y l b':Nat} (hg:g<=4294967296) (hx:v[m.i]?=some x) (hy:u[m.i]?=some y) (lv:Lmb v) (hl:l<4294967296) (hb':b'<=1)
  (ht:l+(m.c+g*x)%4294967296+m.b=y+b'*4294967296): ∃m':JZ u v g,m'.i=m.i+1/\m'.us=m.us++[l]/\m'.c=(m.c+g*x)/4294967296/\m'.b=b':=by
 have hx':=ck lv hx;refine⟨⟨m.i+1,m.us++[l],(m.c+g*x)/4294967296,b',?_,by rw[List.length_append,m.len];rfl,mv m.lmb hl,(zx hg hx' m.hc).2,hb',?_⟩,rfl,rfl,rfl,rfl⟩
 ·have:=(List.getElem?_eq_some_iff.1 hx).1;omega
 have hv:=m.val;rw[nB,m.len,bG hx,bG hy,Nat.pow_succ];have hs:m.c+g*x=(m.c+g*x)%4294967296+4294967296*((m.c+g*x)/4294967296):=by omega
 generalize(m.c+g*x)%4294967296=lo at*
 generalize(m.c+g*x)/4294967296=hi' at*
 generalize 4294967296^m.i=p at*
 have h1:g*(natV (v.take m.i)+x*p)=g*natV (v.take m.i)+g*x*p:=by grind
 have h2:g*x=lo+4294967296*hi'-m.c:=by omega
 have h3:(l+lo+m.b)*p=(y+b'*4294967296)*p:=by rw[ht]
 have h4:(m.c+g*x)*p=(lo+4294967296*hi')*p:=by rw[hs]
 grind
structure J6 (u v:List Nat) where
 i:Nat
 us:List Nat
 c:Nat
 hi:i<=v.length
 len:us.length=i
 lmb:Lmb us
 hc:c<=1
 val:natV us+c*4294967296^i=natV (u.take i)+natV (v.take i)
def J6.start (u v:List Nat):J6 u v:=⟨0,[],0,Nat.zero_le _,rfl,fun a h=>by simp at h,by omega,by simp[natV]⟩
theorem Kn {u v:List Nat} (m:J6 u v) {x y:Nat} (hx:v[m.i]?=some x) (hy:u[m.i]?=some y) (lv:Lmb v) (lu:Lmb u):
  ∃m':J6 u v,m'.i=m.i+1/\m'.us=m.us++[(m.c+(y+x))%4294967296]/\m'.c=(m.c+(y+x))/4294967296:=by
 have hx':=ck lv hx;have hy':=ck lu hy;have hc:=m.hc;refine⟨⟨m.i+1,m.us++[(m.c+(y+x))%4294967296],(m.c+(y+x))/4294967296,?_,by rw[List.length_append,m.len];rfl,mv m.lmb (Nat.mod_lt _ (by omega)),by omega,?_⟩,rfl,rfl,rfl⟩
 ·have:=(List.getElem?_eq_some_iff.1 hx).1;omega
 have hv:=m.val;rw[nB,m.len,bG hx,bG hy,Nat.pow_succ];have hs:m.c+(y+x)=(m.c+(y+x))%4294967296+4294967296*((m.c+(y+x))/4294967296):=by omega
 generalize(m.c+(y+x))%4294967296=lo at*
 generalize(m.c+(y+x))/4294967296=hi' at*
 generalize 4294967296^m.i=p at*
 have h4:(m.c+(y+x))*p=(lo+4294967296*hi')*p:=by rw[hs]
 grind
theorem Hq {U V g q R:Nat} (hq:q=U/V) (hg:q<=g) (h:R+g*V=U) (hV:0<V):g=q/\R=U%V:=by
 have h1:g<=U/V:=(Nat.le_div_iff_mul_le hV).2 (by omega);have h2:g=q:=by omega
 refine⟨h2,?_⟩;have:=Nat.div_add_mod U V;rw[<- hq,<- h2,Nat.mul_comm]at this;omega
theorem KX {U V g q R T Bn c t W:Nat} (hq:q=U/V) (hg:g<=q+1) (h:R+g*V=U+4294967296*Bn) (hlt:U<g*V) (hV:0<V) (hVB:V<=Bn) (hW:W<Bn)
  (hR:R=T+t*Bn) (ht:W+c*Bn=T+V) (hc:c<=1) (htt:t<4294967296):g=q+1/\(t+c)%4294967296=0/\W=U%V:=by
 have h1:g=q+1:=by
  by_cases hh:g=q+1
  ·exact hh
  exfalso;have:g*V<=(U/V)*V:=Nat.mul_le_mul_right _ (by omega);have:=Nat.div_mul_le_self U V;omega
 have h2:=Nat.div_add_mod U V;have h3:=Nat.mod_lt U hV;rw[<- hq]at h2;subst h1;have h4:(q+1)*V=V*q+V:=by grind
 have h5:W+(t+c)*Bn=U%V+4294967296*Bn:=by
  have:(t+c)*Bn=t*Bn+c*Bn:=by grind
  omega
 have h6:t+c=4294967296:=by
  rcases Nat.lt_trichotomy (t+c) 4294967296 with hh|hh|hh
  ·exfalso;have:(t+c)*Bn+Bn<=4294967296*Bn:=by
    have:=Nat.mul_le_mul_right Bn (show t+c+1<=4294967296 by omega);have e:(t+c+1)*Bn=(t+c)*Bn+Bn:=by grind
    omega
   omega
  ·exact hh
  omega
 refine⟨rfl,by rw[h6],?_⟩;rw[h6]at h5;omega
def bQ:Nat->Nat->List Nat
 |0,_=>[]
 |n+1,x=>x%4294967296::bQ n (x/4294967296)
theorem bL: ∀n x,(bQ n x).length=n
 |0,_=>rfl
 |n+1,x=>by simp[bQ,bL n]
theorem mu: ∀n x,Lmb (bQ n x)
 |0,_=>fun a h=>by simp[bQ]at h
 |n+1,x=>by rw[bQ,dA];exact⟨Nat.mod_lt _ (by omega),mu n _⟩
theorem v6: ∀n x,natV (bQ n x)=x%4294967296^n
 |0,x=>by simp[bQ,natV,Nat.mod_one]
 |n+1,x=>by
  rw[bQ,natV,v6 n,Nat.pow_succ,Nat.mul_comm (4294967296^n),Nat.mod_mul]
theorem fv {n x:Nat} (h:x<4294967296^n):natV (bQ n x)=x:=by rw[v6,Nat.mod_eq_of_lt h]
theorem Dc: ∀{l:List Nat},Lmb l->l=bQ l.length (natV l)
 |[],_=>rfl
 |a::l,h=>by
  rw[dA]at h;have h1:(a+4294967296*natV l)%4294967296=a:=by omega
  have h2:(a+4294967296*natV l)/4294967296=natV l:=by omega
  show a::l=bQ (l.length+1) (natV (a::l));rw[bQ,natV,h1,h2,<- Dc h.2]
theorem yW {l:List Nat} {n x:Nat} (h:Lmb l) (hn:l.length=n) (hx:natV l=x):l=bQ n x:=by
 subst hn hx;exact Dc h
theorem fm: ∀{n x i:Nat},i<n->(bQ n x)[i]?=some (x/4294967296^i%4294967296)
 |0,_,_,h=>by omega
 |n+1,x,0,_=>by simp[bQ]
 |n+1,x,i+1,h=>by
  rw[bQ,List.getElem?_cons_succ,fm (by omega),Nat.div_div_eq_div_mul,Nat.pow_succ,Nat.mul_comm 4294967296]
theorem qL {n x:Nat} (h:x<4294967296^n):dI (bQ n x)=aR x:=by
 rw[d7 (mu _ _),fv h]
theorem pm {l:List Nat} {i a:Nat} (h:l[i]?=some a):natV (l.drop i)=a+4294967296*natV (l.drop (i+1)):=by rw[dQ h,natV]
/-! Short division. -/
theorem IU {a b Y:Nat} (hb:0<b) (ha:a<4294967296):(a+4294967296*Y)/b%4294967296=(Y%b*4294967296+a)/b/\(a+4294967296*Y)/b/4294967296=Y/b/\(a+4294967296*Y)%b=(Y%b*4294967296+a)%b:=by
 have h1:=Nat.div_add_mod Y b;have h2:=Nat.mod_lt Y hb;generalize hq:Y/b=q at*
 generalize hr:Y%b=r at*
 have e:a+4294967296*Y=b*(4294967296*q)+(r*4294967296+a):=by rw[<- h1];grind
 have hlt:(r*4294967296+a)/b<4294967296:=by
  rw[Nat.div_lt_iff_lt_mul hb];have:(r+1)*4294967296<=b*4294967296:=Nat.mul_le_mul_right _ (by omega);omega
 rw[e,Nat.mul_add_div hb,Nat.mul_add_mod];generalize(r*4294967296+a)/b=t at*
 refine⟨by omega,by omega,Nat.mul_add_mod _ _ _⟩
theorem LK {l:List Nat} {i a b n:Nat} (hn:l.length=n) (hi:i<n) (ha:l[i]?=some a) (ha':a<4294967296) (hb:0<b):
  (l.take (i+1)++bQ (n-(i+1)) (natV (l.drop (i+1))/b)).set i ((natV (l.drop (i+1))%b*4294967296+a)/b)=l.take i++bQ (n-i) (natV (l.drop i)/b)/\
  (natV (l.drop (i+1))%b*4294967296+a)%b=natV (l.drop i)%b:=by
 obtain⟨h1,h2,h3⟩:=IU (Y:=natV (l.drop (i+1))) hb ha';rw[pm ha];refine⟨?_,h3.symm⟩;rw[show n-i=n-(i+1)+1 by omega,bQ,h1,h2,List.take_add_one,ha];simp only[Option.toList_some,List.append_assoc,List.singleton_append];rw[List.set_append_right _ _ (by simp;omega)];have e:i-(l.take i).length=0:=by simp;omega
 rw[e,List.set_cons_zero]
/-! Shifts. -/
theorem zF {s:Nat} (hs:s<32):2^s<=2147483648/\1<=2^s:=⟨by have:=Nat.pow_le_pow_right (n:=2) (by omega) (show s<=31 by omega);simpa using this,Nat.one_le_two_pow⟩
theorem Jc {X Y s:Nat} (hs:s<=32):(X+18446744073709551616*Y)/2^s%4294967296=X/2^s%4294967296:=by
 have e:18446744073709551616*Y=2^s*(2^(32-s)*(4294967296*Y)):=by
  rw[<- Nat.mul_assoc,<- Nat.pow_add,show s+(32-s)=32 by omega];grind
 rw[e,Nat.add_mul_div_left _ _ (Nat.two_pow_pos s)];have e2:2^(32-s)*(4294967296*Y)=4294967296*(2^(32-s)*Y):=by grind
 rw[e2,Nat.add_mul_mod_self_left]
theorem Py {l:List Nat} (hl:Lmb l) {i s:Nat} (hs:s<=32):natV l/2^s/4294967296^i%4294967296=(l.getD i 0+4294967296*l.getD (i+1) 0)/2^s%4294967296:=by
 have e:natV l/2^s/4294967296^i=natV (l.drop i)/2^s:=by
  rw[Nat.div_div_eq_div_mul,Nat.mul_comm,<- Nat.div_div_eq_div_mul]
  congr 1
  by_cases hi:i<=l.length
  ·have h1:natV l=natV (l.take i)+4294967296^i*natV (l.drop i):=by
    conv=>lhs;rw[<- List.take_append_drop i l]
    rw[iw,List.length_take,Nat.min_eq_left hi]
   have h2:=eI hl i;rw[h1,Nat.add_mul_div_left _ _ (Nat.pow_pos (by omega)),Nat.div_eq_of_lt h2,Nat.zero_add]
  rw[List.drop_eq_nil_iff.2 (by omega)];have h2:=fq hl;have h3:4294967296^l.length<=4294967296^i:=Nat.pow_le_pow_right (by omega) (by omega);rw[Nat.div_eq_of_lt (by omega)];rfl
 rw[e];have g: ∀j,natV (l.drop j)=l.getD j 0+4294967296*natV (l.drop (j+1)):=fun j=>by
  rw[List.getD_eq_getElem?_getD];cases h:l[j]? with
  |none=>
   rw[List.getElem?_eq_none_iff]at h;rw[List.drop_eq_nil_iff.2 h,List.drop_eq_nil_iff.2 (by omega)];rfl
  |some a=>exact pm h
 rw[g i,g (i+1)];have e2:l.getD i 0+4294967296*(l.getD (i+1) 0+4294967296*natV (l.drop (i+1+1)))=(l.getD i 0+4294967296*l.getD (i+1) 0)+18446744073709551616*natV (l.drop (i+1+1)):=by grind
 rw[e2,Jc hs]
theorem DS {l:List Nat} (hl:Lmb l) {i s n v:Nat} (hs:s<=32) (hn:l.length=n) (hi:i<n) (hv:v=(l.getD i 0+4294967296*l.getD (i+1) 0)/2^s%4294967296):
  ((bQ n (natV l/2^s)).take i++l.drop i).set i v=(bQ n (natV l/2^s)).take (i+1)++l.drop (i+1):=by
 have hg:=fm (n:=n) (x:=natV l/2^s) hi;rw[Py hl hs,<- hv]at hg;have hd:l.drop i=l[i]'(by omega)::l.drop (i+1):=List.drop_eq_getElem_cons (by omega);rw[List.set_append_right _ _ (by simp[bL];omega),List.take_add_one,hg,hd];have e:i-((bQ n (natV l/2^s)).take i).length=0:=by simp[bL];omega
 rw[e,List.set_cons_zero]
 simp
def uE (m:List Nat) (s i:Nat):Nat:=natV (m.take i)*2^s/4294967296^i
theorem Oq {m:List Nat} (hm:Lmb m) (s i:Nat):uE m s i<2^s:=by
 unfold uE;rw[Nat.div_lt_iff_lt_mul (Nat.pow_pos (by omega)),Nat.mul_comm];exact Nat.mul_lt_mul_of_pos_left (eI hm i) (Nat.two_pow_pos s)
theorem LT {m:List Nat} {s i a:Nat} (ha:m[i]?=some a):uE m s i+a*2^s=natV (m.take (i+1))*2^s/4294967296^i/\(uE m s i+a*2^s)/4294967296=uE m s (i+1):=by
 have h1:=bG ha;have e:natV (m.take (i+1))*2^s=natV (m.take i)*2^s+4294967296^i*(a*2^s):=by rw[h1];grind
 have h2:uE m s i+a*2^s=natV (m.take (i+1))*2^s/4294967296^i:=by
  unfold uE;rw[e,Nat.add_mul_div_left _ _ (Nat.pow_pos (by omega))]
 refine⟨h2,?_⟩;rw[h2];unfold uE;rw[Nat.div_div_eq_div_mul,Nat.pow_succ]
theorem Or {m:List Nat} {s i j:Nat} (hj:j<i) (hi:i<=m.length):natV (m.take i)*2^s/4294967296^j%4294967296=natV m*2^s/4294967296^j%4294967296:=by
 have h1:natV m=natV (m.take i)+4294967296^i*natV (m.drop i):=by
  conv=>lhs;rw[<- List.take_append_drop i m]
  rw[iw,List.length_take,Nat.min_eq_left hi]
 obtain⟨d,rfl⟩: ∃d,i=j+1+d:=⟨i-(j+1),by omega⟩;have e:natV m*2^s=natV (m.take (j+1+d))*2^s+4294967296^j*(4294967296*(4294967296^d*natV (m.drop (j+1+d))*2^s)):=by
  rw[h1,Nat.pow_add,Nat.pow_add];grind
 rw[e,Nat.add_mul_div_left _ _ (Nat.pow_pos (by omega)),Nat.add_mul_mod_self_left]
theorem wg {n x:Nat}:bQ (n+1) x=bQ n x++[x/4294967296^n%4294967296]:=by
 apply List.ext_getElem?;intro i;rcases Nat.lt_trichotomy i n with h|h|h
 ·rw[fm (by omega),List.getElem?_append_left (by rw[bL];exact h),fm h]
 ·subst h;rw[fm (by omega),ar (by rw[bL];exact af _),bL,Nat.sub_self];rfl
 rw[au (by rw[bL];omega),au (by simp[bL];omega)]
theorem uN {a s:Nat} (h:a*2^s<18446744073709551616) (hs:s<=64):IntKind.u64.wrap ((a:Int)*2^(min s IntKind.u64.bits))=((a*2^s:Nat):Int):=by
 rw[show min s IntKind.u64.bits=s from Nat.min_eq_left hs,IntKind.wrap_u64];have e:(a:Int)*2^s=((a*2^s:Nat):Int):=by simp
 rw[e];omega
theorem Cy {a s:Nat} (hs:s<=64):Int.fdiv (a:Int) (2^(min s IntKind.u64.bits))=((a/2^s:Nat):Int):=by
 rw[show min s IntKind.u64.bits=s from Nat.min_eq_left hs];have e:(2:Int)^s=((2^s:Nat):Int):=by simp
 rw[e,Int.fdiv_eq_ediv_of_nonneg _ (Int.natCast_nonneg _)]
 simp
theorem pc (m:List Nat) (s:Nat) (lm:Lmb m) (hs:s<32) (bm:m.length<=536870912):CallC Tryz.prog 169 [bC m,.raw (.int .i64 (s:Int))] ⟨[⟨56,1,lc fU (bQ (m.length+1) (natV m*2^s))⟩],.one (.sl 0 0 0 (m.length+1))⟩:=by
 have hp:=zF hs;have ep:(m.length:Int)+1=((m.length+1:Nat):Int):=by omega
 refine aJ Tryz.func169 rfl (by kernel_rfl) ?_;rw[Tryz.ntmps169];refine aF fun _ K=>?_;simp only[kd,bC,aa,ag];apply K
 refine aF fun _ K=>?_;simp(disch:=omega) only[kd,aa,ep,aT,lA];apply K
 refine aF fun _ K=>?_;simp only[kd];apply K
 refine aH (aF fun _ K=>?_);simp only[kd,aa];apply K;refine aZ (G:=kK m.length) (fun g=>⟨(bC m::rN s::jk::jk::jk::.one (.sl 12 0 0 (m.length+1))::.raw (.int .u64 (uE m s g.i:Nat))::j4 (jk::jk::bC m::rN m.length::rN g.i::j16 (j4 (j4 (jk::[]))))),Hm [(12,[⟨56,1,lc fU (bQ g.i (natV m*2^s)++ag (m.length+1-g.i) 0)⟩])]⟩) (fun g=>m.length-g.i) ⟨0,by omega⟩ ?_ ?_
 ·refine aG ⟨?_,trivial⟩ ?_
  ·simp[bs,Hm,bQ]
  simp[wk,uE,natV]
 rintro⟨i,hi⟩;simp only;have hcl:=Oq lm s i;by_cases hm:i<m.length
 ·obtain⟨a,ha⟩:=getElem?_of_lt hm;have ha':=ck lm ha;obtain⟨k1,k2⟩:=LT (s:=s) ha;have hlow:=Or (m:=m) (s:=s) (i:=i+1) (j:=i) (by omega) (by omega);rw[<- k1]at hlow;have hmul:a*2^s<=4294967295*2147483648:=Nat.mul_le_mul (by omega) hp.1;have e1:=uN (a:=a) (s:=s) (by omega) (by omega);have e2:=xG (uE m s i) (a*2^s) (by omega) (by omega);rw[rO a (uE m s i) s hcl]at e2;have e3:IntKind.u32.wrap ((a*2^s+uE m s i:Nat):Int)=((natV m*2^s/4294967296^i%4294967296:Nat):Int):=by rw[r8,Nat.add_comm,hlow]
  have e4:Int.fdiv ((a*2^s+uE m s i:Nat):Int) (2^(min 32 IntKind.u64.bits))=((uE m s (i+1):Nat):Int):=by rw[F1,Nat.add_comm,k2]
  have hz:m.length+1-i=(m.length-i)+1:=by omega
  have hg:=qG (bQ i (natV m*2^s)) (m.length-i);have hset:=oK (bQ i (natV m*2^s)) (m.length-i) (natV m*2^s/4294967296^i%4294967296);rw[bL]at hg hset;rw[<- wg]at hset;rw[hz];obtain⟨c1,hc1⟩: ∃c1,c1=uE m s (i+1):=⟨_,rfl⟩;obtain⟨P1,hP1⟩: ∃P1,P1=bQ (i+1) (natV m*2^s):=⟨_,rfl⟩;rw[<- hc1]at e4;rw[<- hP1]at hset;clear k1 k2 hlow;generalize uE m s i=c0 at*
  generalize natV m*2^s/4294967296^i%4294967296=dg at*
  generalize bQ i (natV m*2^s)=P0 at*
  generalize hal:a*2^s=al at*
  refine aF fun _ K=>?_;simp(disch:=omega) only[kd,bC];apply K
  refine bM rfl ?_;refine aH (aM ?_);refine aF fun _ K=>?_;simp(disch:=omega) only[kd,aa,ha];apply K
  refine aF fun _ K=>?_;simp(disch:=omega) only[kd,aa,cX,e1,e2];apply K
  refine aF fun _ K=>?_;simp(disch:=omega) only[kd,aa,e3,hg,dv,hset];apply K
  refine aN fun _ K=>?_;simp only[kd,aa,Int.reduceLE,ao,e4];apply K
  show bu _ _ _ _;refine aN fun _ K=>?_;simp(disch:=omega) only[kd,aT];apply K
  refine⟨⟨i+1,by omega⟩,by simp only;omega,aG ⟨?_,trivial⟩ ?_⟩
  ·show _=[(⟨_,_,lc fU (bQ (i+1) (natV m*2^s)++ag (m.length+1-(i+1)) 0)⟩:OObj)];rw[show m.length+1-(i+1)=m.length-i by omega,<- hP1];rfl
  simp[wk,hc1]
 have hie:i=m.length:=by omega
 subst hie;have hc:uE m s m.length=natV m*2^s/4294967296^m.length:=by unfold uE;rw[List.take_length]
 have hd:uE m s m.length%4294967296=uE m s m.length:=Nat.mod_eq_of_lt (by omega);have e3:IntKind.u32.wrap ((uE m s m.length:Nat):Int)=((natV m*2^s/4294967296^m.length%4294967296:Nat):Int):=by rw[r8,hc]
 have hz:m.length+1-m.length=0+1:=by omega
 have hg:=qG (bQ m.length (natV m*2^s)) 0;have hset:=oK (bQ m.length (natV m*2^s)) 0 (natV m*2^s/4294967296^m.length%4294967296);rw[bL]at hg hset;rw[<- wg,List.replicate_zero,List.append_nil]at hset;rw[hz];clear hc hd;generalize bQ (m.length+1) (natV m*2^s)=R at*
 generalize bQ m.length (natV m*2^s)=P0 at*
 generalize natV m*2^s/4294967296^m.length%4294967296=dg at*
 generalize uE m s m.length=c0 at*
 refine aF fun _ K=>?_;simp(disch:=omega) only[kd,bC];apply K
 refine bV rfl ?_;show bu _ _ _ _;refine aF fun _ K=>?_;simp(disch:=omega) only[kd,aa,e3,hg,dv,hset];apply K
 refine aF fun _ K=>?_;simp only[kd];apply K
 refine aK ⟨.inr rfl,_,cj.refl _,?_⟩;refine⟨.one (.sl 12 0 0 (m.length+1)),12,?_,rfl,?_,rfl⟩
 ·simp(disch:=omega) only[kd,Tryz.results169]
 show _=[_];simp[renO,xt]
def FB (l:List Nat) (b i:Nat):List Nat:=l.take i++bQ (l.length-i) (natV (l.drop i)/b)
theorem LJ (l:List Nat) (b:Nat) {i:Nat} (h:i<=l.length):(FB l b i).length=l.length:=by simp[FB,bL];omega
theorem rq (l:List Nat) (b:Nat) (ll:Lmb l) (hb:0<b) (hb':b<4294967296) (hl:0<l.length) (bl:l.length<=536870912):
  qT Tryz.prog 167 [.undef,.raw (.int .u32 (b:Int))] 0 0 l.length ⟨56,1,lc fU l⟩ ⟨56,1,lc fU (bQ l.length (natV l/b))⟩ (.raw (.int .u32 ((natV l%b:Nat):Int))):=by
 refine sT Tryz.func167 rfl (by kernel_rfl) (by simp) hl (by simp[lc]) (dZ _ _) rfl (by simp[lc,bL]) (dZ _ _) rfl ?_;rw[Tryz.ntmps167];refine be (by kernel_rfl) fun _ K=>?_;simp only[kd,aa,ag];apply K
 refine be (by kernel_rfl) fun _ K=>?_;simp only[kd];apply K
 have e0:(l.length:Int)-1=(l.length:Int)-1:=rfl;refine ce (be (by kernel_rfl) fun _ K=>?_);simp(disch:=omega) only[kd,aa,aT];apply K;refine gB (G:=kK l.length) (fun g=>⟨(.one (.sl 0 0 0 l.length)::.raw (.int .u32 (b:Int))::jk::jk::jk::.raw (.int .u64 ((natV (l.drop g.i)%b:Nat):Int))::.raw (.int .i64 ((g.i:Int)-1))::j16 (j4 (j4 (j4 (jk::[]))))),Hm [(0,[⟨56,1,lc fU (FB l b g.i)⟩])]⟩) (fun g=>g.i) ⟨l.length,by omega⟩ ?_ ?_
 ·refine aG ⟨?_,trivial⟩ ?_
  ·simp[FB,bQ,famH]
  simp[wk,natV]
 rintro⟨i,hi⟩;simp only;by_cases h0:0<i
 ·obtain⟨j,rfl⟩: ∃j,i=j+1:=⟨i-1,by omega⟩;obtain⟨a,ha⟩:=getElem?_of_lt (l:=l) (k:=j) (by omega);have ha':=ck ll ha;have ej:((j+1:Nat):Int)-1=(j:Int):=by omega
  obtain⟨q1,q2⟩:=LK (b:=b) rfl (show j<l.length by omega) ha ha' hb;have hlen:=LJ l b hi;have hget:(FB l b (j+1))[j]?=some a:=by
   unfold FB;rw[List.getElem?_append_left (by simp;omega),List.getElem?_take,if_pos (by omega),ha]
  change (FB l b (j+1)).set j _=FB l b j at q1
  have hr:=Nat.mod_lt (natV (l.drop (j+1))) hb;generalize natV (l.drop (j+1))%b=r at*
  obtain⟨r',hr'⟩: ∃r',r'=natV (l.drop j)%b:=⟨_,rfl⟩;rw[<- hr']at q2;have hcast:((natV (l.drop j):Nat):Int)%(b:Int)=(r':Int):=by rw[hr'];simp
  have e1:=uN (a:=r) (s:=32) (by omega) (by omega);have e2:=xG (r*2^32) a (by omega) (by omega);rw[qw r a 32 (by omega),show r*2^32+a=r*4294967296+a from rfl]at e2;have e3:Int.tdiv ((r*4294967296+a:Nat):Int) (b:Int)=(((r*4294967296+a)/b:Nat):Int):=(Int.ofNat_tdiv _ _).symm;have e4:Int.tmod ((r*4294967296+a:Nat):Int) (b:Int)=(r':Int):=by rw[<- q2];exact(Int.ofNat_tmod _ _).symm
  have hq:(r*4294967296+a)/b<4294967296:=by
   rw[Nat.div_lt_iff_lt_mul hb];have:(r+1)*4294967296<=b*4294967296:=Nat.mul_le_mul_right _ (by omega);omega
  generalize(r*4294967296+a)/b=qd at*
  have e5:IntKind.u64.wrap (qd:Int)=(qd:Int):=by rw[IntKind.wrap_u64];omega
  have e6:IntKind.u32.wrap (qd:Int)=(qd:Int):=by rw[IntKind.wrap_u32];omega
  generalize FB l b (j+1)=S at*
  obtain⟨S',hS'⟩: ∃S',S'=FB l b j:=⟨_,rfl⟩;rw[<- hS']at q1;refine ce (be (by kernel_rfl) fun _ K=>?_);simp(disch:=omega) only[kd,ej];apply K;refine jS rfl (fH ?_);refine ce (eY ?_);refine be (by kernel_rfl) fun _ K=>?_;simp(disch:=omega) only[kd,aa,Int.reduceLE,ao,e1,hget,cX,e2];apply K
  refine be (by kernel_rfl) fun _ K=>?_;simp(disch:=omega) only[kd,aa,cX,e3,e5,e6,hget,dv,q1];apply K
  refine dD (by kernel_rfl) fun _ K=>?_;simp(disch:=omega) only[kd,aa,cX,e4];apply K
  show fc _ _ _ _ _;refine dD (by kernel_rfl) fun _ K=>?_;simp(disch:=omega) only[kd,aa,aT];apply K
  refine⟨⟨j,by omega⟩,by simp only;omega,aG ⟨?_,trivial⟩ ?_⟩
  ·show _=[(⟨_,_,lc fU (FB l b j)⟩:OObj)];rw[<- hS'];rfl
  simp[wk,hcast]
 have hi0:i=0:=by omega
 subst hi0;have hr:natV l%b<4294967296:=Nat.lt_trans (Nat.mod_lt _ hb) hb';have hS:FB l b 0=bQ l.length (natV l/b):=by simp[FB]
 rw[hS,List.drop_zero];generalize natV l%b=r at*
 generalize bQ l.length (natV l/b)=S at*
 have e6:IntKind.u32.wrap (r:Int)=(r:Int):=by rw[IntKind.wrap_u32];omega
 refine ce (be (by kernel_rfl) fun _ K=>?_);simp(disch:=omega) only[kd];apply K;refine iI rfl (fG ?_);show fc _ _ _ _ _;refine be (by kernel_rfl) fun _ K=>?_;simp only[kd,aa,e6];apply K
 refine rE ⟨.inr rfl,_,cj.refl _,rfl,oo _,?_⟩;simp(disch:=omega) only[kd,Tryz.results167]
def Ad (l:List Nat) (s i:Nat):List Nat:=(bQ l.length (natV l/2^s)).take i++l.drop i
theorem LU (l:List Nat) (s:Nat) {i:Nat} (h:i<=l.length):(Ad l s i).length=l.length:=by simp[Ad,bL];omega
theorem DR {l:List Nat} {s i j a:Nat} (hi:i<=j) (h:l[j]?=some a):(Ad l s i)[j]?=some a:=by
 have hj:=(List.getElem?_eq_some_iff.1 h).1;unfold Ad;have e:((bQ l.length (natV l/2^s)).take i).length=i:=by simp[bL];omega
 rw[ar (by omega),e,List.getElem?_drop,show i+(j-i)=j by omega,h]
theorem uW (l:List Nat) (s:Nat) (ll:Lmb l) (hs:s<32) (hl:0<l.length) (bl:l.length<=536870912):
  qT Tryz.prog 171 [.undef,.raw (.int .i64 (s:Int))] 0 0 l.length ⟨56,1,lc fU l⟩ ⟨56,1,lc fU (bQ l.length (natV l/2^s))⟩ (.tup []):=by
 refine sT Tryz.func171 rfl (by kernel_rfl) (by simp) hl (by simp[lc]) (dZ _ _) rfl (by simp[lc,bL]) (dZ _ _) rfl ?_;rw[Tryz.ntmps171];refine be (by kernel_rfl) fun _ K=>?_;simp only[kd,aa,ag];apply K
 refine gB (G:=kK l.length) (fun g=>⟨(.one (.sl 0 0 0 l.length)::rN s::j4 (jk::rN l.length::rN g.i::j16 (j4 (j4 (j4 (jk::[])))))),Hm [(0,[⟨56,1,lc fU (Ad l s g.i)⟩])]⟩) (fun g=>l.length-g.i) ⟨0,by omega⟩ ?_ ?_
 ·refine aG ⟨?_,trivial⟩ ?_
  ·simp[Ad,famH]
  simp[wk]
 rintro⟨i,hi⟩;simp only;have hlen:=LU l s hi;by_cases hm:i<l.length
 ·obtain⟨a,ha⟩:=getElem?_of_lt hm;have ha':=ck ll ha;have hget:=DR (s:=s) (af i) ha;have hga:l.getD i 0=a:=by rw[List.getD_eq_getElem?_getD,ha];rfl
  have ei:(i:Int)+1=((i+1:Nat):Int):=by omega
  obtain⟨S',hS'⟩: ∃S',S'=Ad l s (i+1):=⟨_,rfl⟩;by_cases hm2:i+1<l.length
  ·obtain⟨b,hb⟩:=getElem?_of_lt hm2;have hb':=ck ll hb;have hget2:=DR (s:=s) (show i<=i+1 by omega) hb;have hgb:l.getD (i+1) 0=b:=by rw[List.getD_eq_getElem?_getD,hb];rfl
   have hset:=DS (v:=(b*4294967296+a)/2^s%4294967296) ll (show s<=32 by omega) rfl hm (by rw[hga,hgb,Nat.add_comm,Nat.mul_comm])
   change (Ad l s i).set i _=Ad l s (i+1)at hset
   rw[<- hS']at hset;have e1:=uN (a:=b) (s:=32) (by omega) (by omega);have e2:=xG a (b*2^32) (by omega) (by omega);rw[rO b a 32 (by omega),show b*2^32+a=b*4294967296+a from rfl]at e2;have e3:=Cy (a:=b*4294967296+a) (s:=s) (by omega);have e4:=r8 ((b*4294967296+a)/2^s);generalize(b*4294967296+a)/2^s=qd at*
   generalize Ad l s i=S at*
   refine be (by kernel_rfl) fun _ K=>?_;simp(disch:=omega) only[kd];apply K
   refine wM rfl ?_;refine ce (eY ?_);refine be (by kernel_rfl) fun _ K=>?_;simp only[kd];apply K
   refine be (by kernel_rfl) fun _ K=>?_;simp(disch:=omega) only[kd,aa,hget,cX];apply K
   refine ce (be (by kernel_rfl) fun _ K=>?_);simp(disch:=omega) only[kd,aa,ei,aT];apply K;refine jS rfl ?_;refine dD (by kernel_rfl) fun _ K=>?_;simp(disch:=omega) only[kd,aa,ei,aT,hget2,cX,Int.reduceLE,ao,e1,e2];apply K
   show fc _ _ _ _ _;refine dD (by kernel_rfl) fun _ K=>?_;simp(disch:=omega) only[kd,aa,e3,e4,hget,dv,hset];apply K
   show fc _ _ _ _ _;refine dD (by kernel_rfl) fun _ K=>?_;simp(disch:=omega) only[kd,aT];apply K
   refine⟨⟨i+1,by omega⟩,by simp only;omega,aG ⟨?_,trivial⟩ ?_⟩
   ·show _=[(⟨_,_,lc fU (Ad l s (i+1))⟩:OObj)];rw[<- hS'];rfl
   simp[wk]
  have hgb:l.getD (i+1) 0=0:=by rw[List.getD_eq_getElem?_getD,au (by omega)];rfl
  have hset:=DS (v:=a/2^s%4294967296) ll (show s<=32 by omega) rfl hm (by rw[hga,hgb];rfl)
  change (Ad l s i).set i _=Ad l s (i+1)at hset
  rw[<- hS']at hset;have e3:=Cy (a:=a) (s:=s) (by omega);have e4:=r8 (a/2^s);generalize a/2^s=qd at*
  generalize Ad l s i=S at*
  refine be (by kernel_rfl) fun _ K=>?_;simp(disch:=omega) only[kd];apply K
  refine wM rfl ?_;refine ce (eY ?_);refine be (by kernel_rfl) fun _ K=>?_;simp only[kd];apply K
  refine be (by kernel_rfl) fun _ K=>?_;simp(disch:=omega) only[kd,aa,hget,cX];apply K
  refine ce (be (by kernel_rfl) fun _ K=>?_);simp(disch:=omega) only[kd,aa,ei,aT];apply K;refine iI rfl (fH ?_);show fc _ _ _ _ _;refine dD (by kernel_rfl) fun _ K=>?_;simp(disch:=omega) only[kd,aa,e3,e4,hget,dv,hset];apply K
  show fc _ _ _ _ _;refine dD (by kernel_rfl) fun _ K=>?_;simp(disch:=omega) only[kd,aT];apply K
  refine⟨⟨i+1,by omega⟩,by simp only;omega,aG ⟨?_,trivial⟩ ?_⟩
  ·show _=[(⟨_,_,lc fU (Ad l s (i+1))⟩:OObj)];rw[<- hS'];rfl
  simp[wk]
 have hie:i=l.length:=by omega
 subst hie;have hS:Ad l s l.length=bQ l.length (natV l/2^s):=by
  unfold Ad;rw[List.drop_length,List.append_nil,List.take_of_length_le (by rw[bL];exact af _)]
 rw[hS];generalize bQ l.length (natV l/2^s)=S at*
 refine be (by kernel_rfl) fun _ K=>?_;simp(disch:=omega) only[kd];apply K
 refine wL rfl ?_;refine⟨.inl rfl,_,cj.refl _,rfl,oo _,?_⟩;simp(disch:=omega) only[kd,Tryz.results171]
section
theorem Fa {l:List Nat} {n x y:Nat} (hn:l.length=n+2) (hx:l[n+1]?=some x) (hy:l[n]?=some y):natV l=(x*4294967296+y)*4294967296^n+natV (l.take n):=by
 have h1:=bG hx;have h2:=bG hy;rw[List.take_of_length_le (by omega)]at h1;rw[h1,h2,Nat.pow_succ];grind
theorem Fb {l:List Nat} {n x y z:Nat} (hn:l.length=n+3) (hx:l[n+2]?=some x) (hy:l[n+1]?=some y) (hz:l[n]?=some z):natV l=((x*4294967296+y)*4294967296+z)*4294967296^n+natV (l.take n):=by
 have h1:=bG hx;have h2:=bG hy;have h3:=bG hz;rw[List.take_of_length_le (by omega)]at h1;rw[h1,h2,h3,Nat.pow_succ,Nat.pow_succ];grind
structure uQ (u v:List Nat) (n v1 v2 u2 u1 u0:Nat):Prop where
 lu:Lmb u
 lv:Lmb v
 nu:u.length=n+3
 nv:v.length=n+2
 hv1:v[n+1]?=some v1
 hv2:v[n]?=some v2
 hu2:u[n+2]?=some u2
 hu1:u[n+1]?=some u1
 hu0:u[n]?=some u0
 top:2147483648<=v1
 lt:natV u<natV v*4294967296
section
variable {u v:List Nat} {n v1 v2 u2 u1 u0:Nat} (h:uQ u v n v1 v2 u2 u1 u0)
include h
theorem uQ.vpos:0<natV v:=by
 have:=h.lt;by_cases hv:natV v=0
 ·rw[hv]at this;omega
 omega
theorem uQ.bv1:v1<4294967296:=ck h.lv h.hv1
theorem uQ.bv2:v2<4294967296:=ck h.lv h.hv2
theorem uQ.bu2:u2<4294967296:=ck h.lu h.hu2
theorem uQ.bu1:u1<4294967296:=ck h.lu h.hu1
theorem uQ.bu0:u0<4294967296:=ck h.lu h.hu0
theorem uQ.eV:natV v=(v1*4294967296+v2)*4294967296^n+natV (v.take n):=Fa h.nv h.hv1 h.hv2
theorem uQ.eU:natV u=((u2*4294967296+u1)*4294967296+u0)*4294967296^n+natV (u.take n):=Fb h.nu h.hu2 h.hu1 h.hu0
theorem uQ.vl:natV (v.take n)<4294967296^n:=eI h.lv n
theorem uQ.ul:natV (u.take n)<4294967296^n:=eI h.lu n
theorem uQ.q_lt:natV u/natV v<4294967296:=by
 rw[Nat.div_lt_iff_lt_mul h.vpos,Nat.mul_comm];exact h.lt
theorem uQ.u2_le : u2 <= v1 := by
  have e1 := h.eV;have e2 := h.eU;have h1 := h.lt;have h2 := h.vl;have h3 := h.bv2;have hL : 0 < 4294967296 ^ n := Nat.pow_pos (by omega);generalize 4294967296 ^ n = L at *
  by_cases hc : u2 <= v1
  · exact hc
  · exfalso
    have h4 : (v1 + 1) * 4294967296 * 4294967296 * L <= natV u := by
      rw [e2];have : (v1 + 1) * 4294967296 * 4294967296 * L <= ((u2 * 4294967296 + u1) * 4294967296 + u0) * L := Nat.mul_le_mul_right _ (aB (Nat.mul_le_mul_right _ (aB (Nat.mul_le_mul_right _ (show v1 + 1 <= u2 by omega)) (Nat.le_add_right _ _))) (Nat.le_add_right _ _));exact aB this (Nat.le_add_right _ _)
    have h5 : natV v * 4294967296 <= (v1 + 1) * 4294967296 * 4294967296 * L := by
      have h6 : natV v <= (v1 + 1) * 4294967296 * L := by
        rw [e1];have : (v1 * 4294967296 + v2) * L + L <= (v1 + 1) * 4294967296 * L := by
          have := Nat.mul_le_mul_right L (show v1 * 4294967296 + v2 + 1 <= (v1 + 1) * 4294967296 by omega);rw [Nat.add_mul (v1 * 4294967296 + v2) 1 L, Nat.one_mul] at this;exact this
        omega
      calc natV v * 4294967296 <= (v1 + 1) * 4294967296 * L * 4294967296 := Nat.mul_le_mul_right _ h6
        _ = _ := by grind
    omega
structure O2 (u v:List Nat) (v1 high:Nat) where
 g:Nat
 r:Nat
 eq:g*v1+r=high
 ge:natV u/natV v<=g
 le:g<=4294967297
 hr:r<4294967296
omit h in
theorem Ez {a b c:Nat} (hb:0<b) (h:a<(c+1)*b):a/b<=c:=by
 have:=(Nat.div_lt_iff_lt_mul hb).2 h;omega
theorem uQ.first: ∃k:O2 u v v1 (u2*4294967296+u1),k.g=(u2*4294967296+u1)/v1/\k.r=(u2*4294967296+u1)%v1:=by
 have ht:=h.top;have hb1:=h.bv1;have hm:=Nat.mod_lt (u2*4294967296+u1) (show 0<v1 by omega);have hd:=Nat.div_add_mod (u2*4294967296+u1) v1;have hle:=h.u2_le;have hu1:=h.bu1;have hL:0<4294967296^n:=Nat.pow_pos (by omega);refine⟨⟨(u2*4294967296+u1)/v1,(u2*4294967296+u1)%v1,by rw[Nat.mul_comm];exact hd,?_,?_,by omega⟩,rfl,rfl⟩
 ·rw[Nat.le_div_iff_mul_le (by omega)];have e1:=h.eV;have e2:=h.eU;have h1:=h.ul;have h2:=h.bu0;refine Pq (U:=natV u) (V:=natV v) (L:=4294967296^n) ?_ ?_ (Nat.div_mul_le_self _ _) hL
  ·rw[e1];have:v1*4294967296*4294967296^n<=(v1*4294967296+v2)*4294967296^n:=Nat.mul_le_mul_right _ (by omega);omega
  rw[e2];have:((u2*4294967296+u1)*4294967296+u0)*4294967296^n+4294967296^n<=(u2*4294967296+u1+1)*4294967296*4294967296^n:=by
   have:=Nat.mul_le_mul_right (4294967296^n) (show(u2*4294967296+u1)*4294967296+u0+1<=(u2*4294967296+u1+1)*4294967296 by omega);rw[Nat.add_mul ((u2*4294967296+u1)*4294967296+u0) 1,Nat.one_mul]at this;exact this
  omega
 refine Ez (by omega) ?_;have:u2*4294967296<=v1*4294967296:=Nat.mul_le_mul_right _ hle;have e:(4294967297+1)*v1=v1*4294967296+2*v1:=by omega
 omega
theorem uQ.down (k:O2 u v v1 (u2*4294967296+u1)) (hc:4294967296<=k.g\/k.r*4294967296+u0<k.g*v2):natV u/natV v<k.g:=by
 rcases hc with hc|hc
 ·have:=h.q_lt;omega
 have e1:=h.eV;have e2:=h.eU;have h1:=h.ul;refine Pp (U:=natV u) (V:=natV v) (L:=4294967296^n) (high:=u2*4294967296+u1) ?_ ?_ (Nat.div_mul_le_self _ _) k.eq hc
 ·rw[e1];omega
 rw[e2,Nat.add_mul ((u2*4294967296+u1)*4294967296+u0) 1,Nat.one_mul];omega
theorem uQ.near {g r:Nat} (heq:g*v1+r=u2*4294967296+u1) (hB:g<=4294967296) (hc:g*v2<=r*4294967296+u0):g<=natV u/natV v+1:=by
 have e1:=h.eV;have e2:=h.eU;have ht:=h.top;refine KY (U:=natV u) (t3:=(u2*4294967296+u1)*4294967296+u0) e1 h.vl ?_ ?_ ?_ hB (by omega)
 ·rw[e2];omega
 ·have:=Nat.lt_div_mul_add (a:=natV u) h.vpos;rw[Nat.add_mul,Nat.one_mul];omega
 rw[<- heq];have e:g*(v1*4294967296+v2)=g*v1*4294967296+g*v2:=by grind
 have e':(g*v1+r)*4294967296=g*v1*4294967296+r*4294967296:=by grind
 omega
theorem uQ.vlt:natV v<=4294967296^(n+2):=Nat.le_of_lt (by have:=fq h.lv;rw[h.nv]at this;exact this)
theorem uQ.right {g:Nat} (m:JZ u v g) (hi:m.i=n+2) (hge:natV u/natV v<=g) (hno:m.c+m.b<=u2):g=natV u/natV v/\m.us++[u2-(m.c+m.b)]=bQ (n+3) (natV u%natV v):=by
 have hv:=m.val;rw[hi,List.take_of_length_le (by rw[h.nv];exact af _)]at hv;have hU:=bG h.hu2;rw[List.take_of_length_le (by rw[h.nu];exact af _)]at hU;have hml:m.us.length=n+2:=by rw[m.len,hi]
 have e:natV (m.us++[u2-(m.c+m.b)])+g*natV v=natV u:=by
  rw[nB,hml,hU];have:(u2-(m.c+m.b))*4294967296^(n+2)+(m.c+m.b)*4294967296^(n+2)=u2*4294967296^(n+2):=by
   rw[<- Nat.add_mul,Nat.sub_add_cancel hno]
  omega
 obtain⟨q1,q2⟩:=Hq rfl hge e h.vpos;refine⟨q1,yW (mv m.lmb ?_) (by simp[hml]) q2⟩;have:=h.bu2;omega
theorem uQ.left {g t:Nat} (m:JZ u v g) (hi:m.i=n+2) (hle:g<=natV u/natV v+1) (hyes:u2<m.c+m.b) (ht:t=u2+4294967296-(m.c+m.b)) (a:J6 (m.us++[t]) v) (hai:a.i=n+2):
  g=natV u/natV v+1/\a.us++[(t+a.c)%4294967296]=bQ (n+3) (natV u%natV v):=by
 have hv:=m.val;rw[hi,List.take_of_length_le (by rw[h.nv];exact af _)]at hv;have hU:=bG h.hu2;rw[List.take_of_length_le (by rw[h.nu];exact af _)]at hU;have hml:m.us.length=n+2:=by rw[m.len,hi]
 have hbu:=h.bu2;have hmc:=m.hc;have hmb:=m.hb;have hav:=a.val;have e0:(m.us++[t]).take (n+2)=m.us:=by rw[List.take_append_of_le_length (by omega),List.take_of_length_le (by omega)]
 rw[hai,e0,List.take_of_length_le (by rw[h.nv];exact af _)]at hav;have hW:=fq a.lmb;rw[a.len,hai]at hW;have e:natV m.us+t*4294967296^(n+2)+g*natV v=natV u+4294967296*4294967296^(n+2):=by
  rw[hU];have:t*4294967296^(n+2)+(m.c+m.b)*4294967296^(n+2)=(u2+4294967296)*4294967296^(n+2):=by
   rw[<- Nat.add_mul,ht,Nat.sub_add_cancel (by omega)]
  rw[Nat.add_mul u2]at this;omega
 have hlt:natV u<g*natV v:=by
  have h1:=fq m.lmb;rw[hml]at h1;have h2:(u2+1)*4294967296^(n+2)<=(m.c+m.b)*4294967296^(n+2):=Nat.mul_le_mul_right _ (by omega);rw[Nat.add_mul u2 1,Nat.one_mul]at h2;omega
 obtain⟨q1,q2,q3⟩:=KX (T:=natV m.us) (t:=t) (c:=a.c) (W:=natV a.us) (Bn:=4294967296^(n+2)) rfl hle e hlt h.vpos h.vlt hW rfl hav a.hc (by omega);refine⟨q1,yW (mv a.lmb (Nat.mod_lt _ (by omega))) (by simp[a.len,hai]) ?_⟩;rw[nB,q2,q3];simp
end
end
theorem lJ {pre u post:List Nat} {off i x:Nat} (hp:pre.length=off) (h:u[i]?=some x):(pre++(u++post))[off+i]?=some x:=by
 have hi:=(List.getElem?_eq_some_iff.1 h).1;rw[ar (by omega),hp,Nat.add_sub_cancel_left,List.getElem?_append_left hi,h]
theorem rU {pre u post:List Nat} {off i:Nat} (v:Nat) (hp:pre.length=off) (hi:i<u.length):(pre++(u++post)).set (off+i) v=pre++(u.set i v++post):=by
 rw[List.set_append_right _ _ (by omega),hp,Nat.add_sub_cancel_left,List.set_append_left _ _ hi]
theorem rV {us u:List Nat} {i:Nat} (v:Nat) (hus:us.length=i) (hi:i<u.length):(us++u.drop i).set i v=(us++[v])++u.drop (i+1):=by
 have hd:u.drop i=u[i]::u.drop (i+1):=List.drop_eq_getElem_cons hi;rw[hd,List.set_append_right _ _ (by omega),hus,Nat.sub_self,List.set_cons_zero,List.append_assoc];rfl
theorem xS {us u:List Nat} {i x:Nat} (hus:us.length=i) (hx:u[i]?=some x):(us++u.drop i)[i]?=some x:=by
 rw[ar (by omega),hus,Nat.sub_self,List.getElem?_drop,Nat.add_zero,hx]
theorem xU {us u:List Nat} {i:Nat} (hus:us.length=i) (hi:i<=u.length):(us++u.drop i).length=u.length:=by
 rw[List.length_append,hus,List.length_drop];omega
theorem Gm {P:Program} {k:Nat} {c z:Code} {Q:Exit->AS->Prop} {s:AS} (S:Nat->AS) (p:Nat->Prop) (h1:fc P k c (lV (fun s'=> ∃g,p g/\cj s' (S g)) Q) s) (h2: ∀g,p g->fc P k z Q (S g)):fc P k c (lV (fc P k z Q) Q) s:=h1.mono fun e s' h=>by
 cases e with
 |normal=>obtain⟨g,hp,hw⟩:=h;exact(h2 g hp).weak hw
 |_=>exact h
theorem Qx (y lo b:Nat) (hy:y<4294967296) (hlo:lo<4294967296) (hb:b<=1):IntKind.u32.wrap (IntKind.u64.wrap (IntKind.u64.wrap ((y:Int)-(lo:Int))-(b:Int)))=(((y+8589934592-(lo+b))%4294967296:Nat):Int)/\
  Int.fdiv (IntKind.u64.wrap (IntKind.u64.wrap ((y:Int)-(lo:Int))-(b:Int))) (2^(min 63 IntKind.u64.bits))=(((if y<lo+b then 1 else 0):Nat):Int):=by
 constructor
 ·rw[IntKind.wrap_u32,IntKind.wrap_u64,IntKind.wrap_u64];omega
 rw[IntKind.wrap_u64,IntKind.wrap_u64];show Int.fdiv _ 9223372036854775808=_;rw[Int.fdiv_eq_ediv_of_nonneg _ (by omega)];split<;>omega
theorem uV (pre u post v:List Nat) (off n v1 v2 u2 u1 u0:Nat) (hp:pre.length=off) (H:uQ u v n v1 v2 u2 u1 u0) (bR:(pre++(u++post)).length<=536870912):
  qT Tryz.prog 170 [.undef,bC v] 0 off (n+3) ⟨56,1,lc fU (pre++(u++post))⟩ ⟨56,1,lc fU (pre++(bQ (n+3) (natV u%natV v)++post))⟩ (.raw (.int .u32 ((natV u/natV v:Nat):Int))):=by
 have nu:=H.nu;have nv:=H.nv;have hv1:=H.hv1;have hv2:=H.hv2;have bv1:=H.bv1;have bv2:=H.bv2;have bu2:=H.bu2;have bu1:=H.bu1;have bu0:=H.bu0;have top:=H.top;have hqlt:=H.q_lt;have hRl:(pre++(u++post)).length=off+(n+3)+post.length:=by simp[hp,nu];omega
 have gu2:=lJ (post:=post) hp H.hu2;have gu1:=lJ (post:=post) hp H.hu1;have gu0:=lJ (post:=post) hp H.hu0;refine sT Tryz.func170 rfl (by kernel_rfl) (by simp) (by omega) (by simp[lc]at hRl⊢;omega) (dZ _ _) rfl (by simp[lc,bL,nu]) (dZ _ _) rfl ?_;rw[Tryz.ntmps170];have e2:((n+2:Nat):Int)-1=((n+1:Nat):Int):=by omega
 have e3:((n+2:Nat):Int)-2=((n:Nat):Int):=by omega
 refine be (by kernel_rfl) fun _ K=>?_;simp only[kd,bC,aa,ag];apply K
 refine be (by kernel_rfl) fun _ K=>?_;simp only[kd,aa,nv];apply K
 have a1:=uN (a:=u2) (s:=32) (by omega) (by omega);have a2:=xG (u2*2^32) u1 (by omega) (by omega);rw[qw u2 u1 32 (by omega),show u2*2^32+u1=u2*4294967296+u1 from rfl]at a2;obtain⟨high,hhigh⟩: ∃high,high=u2*4294967296+u1:=⟨_,rfl⟩;rw[<- hhigh]at a2;obtain⟨k0,hk1,hk2⟩: ∃k:O2 u v v1 high,k.g=high/v1/\k.r=high%v1:=by rw[hhigh];exact H.first
 have hk3:=k0.le;have a3:Int.tdiv (high:Int) (v1:Int)=(k0.g:Int):=by rw[hk1];exact(Int.ofNat_tdiv _ _).symm
 have a4:Int.tmod (high:Int) (v1:Int)=(k0.r:Int):=by rw[hk2];exact(Int.ofNat_tmod _ _).symm
 generalize hR:pre++(u++post)=R at*
 refine fX bj (by kernel_rfl) (by kernel_rfl) fun _ K=>?_;simp(disch:=omega) only[kd,aa,famH,gu2,cX,Int.reduceLE,ao,a1,e2,aT,gu1,a2];apply K
 refine fX bj (by kernel_rfl) (by kernel_rfl) fun _ K=>?_;simp(disch:=omega) only[kd,aa,e2,aT,hv1,cX,a3,a4];apply K
 refine ce (Gm (fun g=>⟨(.one (.sl 0 0 off (n+3))::bC v::jk::jk::jk::.raw (.int .i64 ((n+2:Nat):Int))::jk::.raw (.int .u64 (g:Int))::j16 (j16 (j16 (j16 (j16 (j16 (j16 (j16 (j16 (j16 (jk::jk::jk::[]))))))))))),Hm [(0,[⟨56,1,lc fU R⟩])]⟩) (fun g=>natV u/natV v<=g/\g<=natV u/natV v+1/\g<=4294967296) ?_ ?_)
 ·have H2:=H;subst hhigh;refine gB (G:=O2 u v v1 (u2*4294967296+u1)) (fun k=>⟨(.one (.sl 0 0 off (n+3))::bC v::jk::jk::jk::.raw (.int .i64 ((n+2:Nat):Int))::jk::.raw (.int .u64 (k.g:Int))::.raw (.int .u64 (k.r:Int))::j16 (j16 (j16 (j16 (j16 (j16 (j16 (j16 (j16 (j16 (jk::jk::[]))))))))))),Hm [(0,[⟨56,1,lc fU R⟩])]⟩) (fun k=>k.g) k0 ?_ ?_
  ·refine aG ⟨rfl,trivial⟩ ?_;simp[wk]
  intro k;have kg:=k.le;have kr:=k.hr;have keq:=k.eq;have kge:=k.ge;have e5:=F1 k.g
  -- the guess goes down
  have down:(4294967296<=k.g\/k.r*4294967296+u0<k.g*v2)->natV u/natV v<k.g:=H2.down k;have next:natV u/natV v<k.g->k.r+v1<4294967296-> ∃k':O2 u v v1 (u2*4294967296+u1),k'.g=k.g-1/\k'.r=k.r+v1:=fun h1 h2=>by
   refine⟨⟨k.g-1,k.r+v1,?_,by omega,by omega,h2⟩,rfl,rfl⟩;refine Eq.trans ?_ keq;have:k.g*v1=(k.g-1)*v1+v1:=by
    obtain⟨m,hm⟩: ∃m,k.g=m+1:=⟨k.g-1,(Nat.succ_pred_eq_of_pos (Nat.lt_of_le_of_lt (Nat.zero_le _) h1)).symm⟩;rw[hm,Nat.add_sub_cancel,Nat.add_mul,Nat.one_mul]
   omega
  have stop:natV u/natV v<k.g->4294967296<=k.r+v1->natV u/natV v<=k.g-1/\k.g-1<=natV u/natV v+1/\k.g-1<=4294967296:=fun h1 h2=>by
   refine⟨by omega,?_,by omega⟩;refine H2.near (r:=k.r+v1) ?_ (by omega) ?_
   ·refine Eq.trans ?_ keq;have:k.g*v1=(k.g-1)*v1+v1:=by
     obtain⟨m,hm⟩: ∃m,k.g=m+1:=⟨k.g-1,(Nat.succ_pred_eq_of_pos (Nat.lt_of_le_of_lt (Nat.zero_le _) h1)).symm⟩;rw[hm,Nat.add_sub_cancel,Nat.add_mul,Nat.one_mul]
    omega
   have h3:(k.g-1)*v2<=4294967296*4294967295:=Nat.mul_le_mul (by omega) (by omega);have h4:4294967296*4294967296<=(k.r+v1)*4294967296:=Nat.mul_le_mul_right _ h2;omega
  have e7:(k.g:Int)-1=((k.g-1:Nat):Int)\/k.g=0:=by omega
  have e8:(k.r:Int)+(v1:Int)=((k.r+v1:Nat):Int):=by omega
  have e9:=F1 (k.r+v1);by_cases hbig:4294967296<=k.g
  ·have hd:=down (.inl hbig)
   replace e7:=e7.resolve_right (by omega)
   refine ce (fX bj (by kernel_rfl) (by kernel_rfl) fun _ K=>?_);simp(disch:=omega) only[kd,aa,bC,Int.reduceLE,ao,e5,reduceCtorEq];apply K;refine jS rfl (fH ?_);refine eY ?_;refine be (by kernel_rfl) fun _ K=>?_;simp(disch:=omega) only[kd,aa,e7,cX];apply K
   refine be (by kernel_rfl) fun _ K=>?_;simp(disch:=omega) only[kd,aa,e2,aT,hv1,cX,e8];apply K
   by_cases hover:4294967296<=k.r+v1
   ·refine be (by kernel_rfl) fun _ K=>?_;simp(disch:=omega) only[kd,aa,Int.reduceLE,ao,e9];apply K
    refine jS rfl (fG ?_);refine⟨k.g-1,stop hd hover,aG ⟨rfl,trivial⟩ ?_⟩;simp[wk]
   obtain⟨k',q1,q2⟩:=next hd (by omega);refine be (by kernel_rfl) fun _ K=>?_;simp(disch:=omega) only[kd,aa,Int.reduceLE,ao,e9];apply K
   refine iI rfl (fH ?_);refine⟨k',by omega,aG ⟨rfl,trivial⟩ ?_⟩;simp[wk,q1,q2]
  have hmul:k.g*v2<=4294967295*4294967295:=Nat.mul_le_mul (by omega) (by omega);have e10:(k.g:Int)*(v2:Int)=((k.g*v2:Nat):Int):=by simp
  have e11:=uN (a:=k.r) (s:=32) (by omega) (by omega);have e12:=xG (k.r*2^32) u0 (by omega) (by omega);rw[qw k.r u0 32 (by omega),show k.r*2^32+u0=k.r*4294967296+u0 from rfl]at e12;by_cases hc:k.r*4294967296+u0<k.g*v2
  ·have hd:=down (.inr hc)
   replace e7:=e7.resolve_right (fun e=>by rw[e]at hd;exact absurd hd (Nat.not_lt_zero _))
   generalize k.g*v2=gv at*
   refine ce (fX bj (by kernel_rfl) (by kernel_rfl) fun _ K=>?_);simp(disch:=omega) only[kd,aa,bC,Int.reduceLE,ao,e5,e3,aT,hv2,cX,e10,e11,gu0,e12];apply K;refine jS rfl (fH ?_);refine eY ?_;refine be (by kernel_rfl) fun _ K=>?_;simp(disch:=omega) only[kd,aa,e7,cX];apply K
   refine be (by kernel_rfl) fun _ K=>?_;simp(disch:=omega) only[kd,aa,e2,aT,hv1,cX,e8];apply K
   by_cases hover:4294967296<=k.r+v1
   ·refine be (by kernel_rfl) fun _ K=>?_;simp(disch:=omega) only[kd,aa,Int.reduceLE,ao,e9];apply K
    refine jS rfl (fG ?_);refine⟨k.g-1,stop hd hover,aG ⟨rfl,trivial⟩ ?_⟩;simp[wk]
   obtain⟨k',q1,q2⟩:=next hd (by omega);refine be (by kernel_rfl) fun _ K=>?_;simp(disch:=omega) only[kd,aa,Int.reduceLE,ao,e9];apply K
   refine iI rfl (fH ?_);refine⟨k',by omega,aG ⟨rfl,trivial⟩ ?_⟩;simp[wk,q1,q2]
  have hnear:=H2.near keq (by omega) (Nat.le_of_not_lt hc);generalize k.g*v2=gv at*
  refine ce (fX bj (by kernel_rfl) (by kernel_rfl) fun _ K=>?_);simp(disch:=omega) only[kd,aa,bC,Int.reduceLE,ao,e5,e3,aT,hv2,cX,e10,e11,gu0,e12];apply K;refine iI rfl (fG ?_);refine⟨k.g,⟨kge,hnear,by omega⟩,aG ⟨rfl,trivial⟩ ?_⟩;simp[wk]
 rintro g ⟨hg1,hg2,hg3⟩;subst hR;clear gu2 gu1 gu0 a1 a2 a3 a4 hk1 hk2 hk3 k0;refine be (by kernel_rfl) fun _ K=>?_;simp only[kd,bC];apply K
 refine ce (be (by kernel_rfl) fun _ K=>?_);simp only[kd];apply K;refine gB (G:=JZ u v g) (fun m=>⟨(.one (.sl 0 0 off (n+3))::bC v::jk::jk::jk::.raw (.int .i64 ((n+2:Nat):Int))::jk::.raw (.int .u64 (g:Int))::jk::.raw (.int .u64 (m.c:Int))::.raw (.int .u64 (m.b:Int))::j16 (j16 (j16 (j16 (j4 (jk::jk::jk::.raw (.int .i64 ((n+2:Nat):Int))::rN m.i::j16 (j16 (j16 (j16 (j16 (j4 (jk::jk::jk::[])))))))))))),Hm [(0,[⟨56,1,lc fU (pre++((m.us++u.drop m.i)++post))⟩])]⟩) (fun m=>n+2-m.i) (JZ.start u v g) ?_ ?_
 ·refine aG ⟨?_,trivial⟩ ?_
  ·simp[Hm,JZ.start]
  simp[wk,JZ.start]
 intro m;have hmi:=m.hi;have hmc:=m.hc;have hmb:=m.hb;have hml:=m.len;by_cases hlt:m.i<n+2
 ·obtain⟨x,hx⟩:=getElem?_of_lt (l:=v) (k:=m.i) (by omega);obtain⟨y,hy⟩:=getElem?_of_lt (l:=u) (k:=m.i) (by omega);have hx':=ck H.lv hx;have hy':=ck H.lu hy;obtain⟨c1,c2⟩:=zx hg3 hx' hmc;have hgx:g*x<=4294967296*4294967295:=Nat.mul_le_mul hg3 (by omega);have e4:(g:Int)*(x:Int)=((g*x:Nat):Int):=by simp
  have e5:(m.c:Int)+((g*x:Nat):Int)=((m.c+g*x:Nat):Int):=by simp
  have hseg:=xS hml hy;have hsl:=xU (u:=u) hml (by omega);have hget:=lJ (post:=post) hp hseg;have hlo:(m.c+g*x)%4294967296<4294967296:=Nat.mod_lt _ (by omega);obtain⟨b1,b2⟩:=Qx y ((m.c+g*x)%4294967296) m.b hy' hlo hmb;obtain⟨m',q1,q2,q3,q4⟩:=K6 m (l:=(y+8589934592-((m.c+g*x)%4294967296+m.b))%4294967296) (b':=if y<(m.c+g*x)%4294967296+m.b then 1 else 0) hg3 hx hy H.lv (Nat.mod_lt _ (by omega)) (by split<;>omega) (by split<;>omega);have hset:=rU (post:=post) ((y+8589934592-((m.c+g*x)%4294967296+m.b))%4294967296) hp (show m.i<(m.us++u.drop m.i).length by omega);rw[rV _ hml (by omega)]at hset;have e6:=r8 (m.c+g*x);have e7:=F1 (m.c+g*x);have hrl:(pre++((m.us++u.drop m.i)++post)).length=off+(n+3)+post.length:=by simp only[List.length_append]at hRl hsl⊢;omega
  generalize(m.c+g*x)%4294967296=lo at*
  generalize(m.c+g*x)/4294967296=hi' at*
  generalize g*x=gx at*
  generalize(if y<lo+m.b then 1 else 0:Nat)=nb at*
  generalize(y+8589934592-(lo+m.b))%4294967296=nl at*
  generalize hRR:pre++((m.us++u.drop m.i)++post)=RR at*
  refine be (by kernel_rfl) fun _ K=>?_;simp(disch:=omega) only[kd,bC];apply K
  refine wM rfl ?_;refine ce (eY ?_);refine be (by kernel_rfl) fun _ K=>?_;simp only[kd];apply K
  refine be (by kernel_rfl) fun _ K=>?_;simp(disch:=omega) only[kd,aa,hx,cX,e4,e5];apply K
  refine be (by kernel_rfl) fun _ K=>?_;simp(disch:=omega) only[kd,aa,hget,cX,e6];apply K
  refine be (by kernel_rfl) fun _ K=>?_;simp(disch:=omega) only[kd,aa,b1,hget,dv,hset];apply K
  refine be (by kernel_rfl) fun _ K=>?_;simp only[kd,aa,Int.reduceLE,ao,e7];apply K
  refine dD (by kernel_rfl) fun _ K=>?_;simp only[kd,aa,Int.reduceLE,ao,b2];apply K
  show fc _ _ _ _ _;refine dD (by kernel_rfl) fun _ K=>?_;simp(disch:=omega) only[kd,aT];apply K
  refine⟨m',by omega,aG ⟨?_,trivial⟩ ?_⟩
  ·rw[q1,q2];rfl
  simp[wk,q1,q3,q4]
 have hie:m.i=n+2:=by omega
 have hseg:(m.us++u.drop m.i)[n+2]?=some u2:=by
  have:=xS hml (show u[m.i]?=some u2 by rw[hie];exact H.hu2);rwa[hie]at this⊢
 have hsl:=xU (u:=u) hml (by omega);have hget:=lJ (post:=post) hp hseg;have hset:=fun t=>rU (post:=post) t hp (show n+2<(m.us++u.drop m.i).length by omega)
 have hse: ∀t,(m.us++u.drop m.i).set (n+2) t=m.us++[t]:=fun t=>by
  have:=rV (u:=u) t hml (by omega);rw[List.drop_eq_nil_iff.2 (show u.length<=m.i+1 by omega),List.append_nil,hie]at this;rw[hie];exact this
 simp only[hse]at hset;obtain⟨b1,b2⟩:=Qx u2 m.c m.b bu2 hmc hmb;have hrl:(pre++((m.us++u.drop m.i)++post)).length=off+(n+3)+post.length:=by simp only[List.length_append]at hRl hsl⊢;omega
 by_cases hno:m.c+m.b<=u2
 ·have b3:(u2:Int)-(m.c:Int)-(m.b:Int)=((u2-(m.c+m.b):Nat):Int):=by omega
  have b4:Int.fdiv ((u2-(m.c+m.b):Nat):Int) (2^(min 63 IntKind.u64.bits))=0:=by
   rw[Cy (by omega)];have:(u2-(m.c+m.b))/2^63=0:=Nat.div_eq_of_lt (by omega);rw[this];rfl
  have hnl:u2-(m.c+m.b)<4294967296:=by omega
  obtain⟨q1,q2⟩:=H.right m hie hg1 hno;have hs:=hset (u2-(m.c+m.b));rw[q2]at hs;have e7:IntKind.u32.wrap (g:Int)=((natV u/natV v:Nat):Int):=by rw[r8,q1];omega
  generalize u2-(m.c+m.b)=nl at*
  generalize hRR:pre++((m.us++u.drop m.i)++post)=RR at*
  refine be (by kernel_rfl) fun _ K=>?_;simp(disch:=omega) only[kd,bC];apply K
  refine wL rfl ?_;show fc _ _ _ _ _;refine be (by kernel_rfl) fun _ K=>?_;simp(disch:=omega) only[kd,aa,hget,cX,b3];apply K
  refine be (by kernel_rfl) fun _ K=>?_;simp(disch:=omega) only[kd,aa,D4,hget,dv,hs];apply K
  refine ce (be (by kernel_rfl) fun _ K=>?_);simp(disch:=omega) only[kd,aa,Int.reduceLE,ao,b4];apply K;refine jS rfl ?_;refine be (by kernel_rfl) fun _ K=>?_;simp only[kd,aa,e7];apply K
  refine rE ⟨.inr rfl,⟨(.one (.sl 0 0 off (n+3))::jk::jk::jk::.raw (.int .u32 ((natV u/natV v:Nat):Int))::j16 (j16 (j16 (j16 (j16 (j16 (j16 (j16 (j16 (j16 (j4 (jk::jk::[])))))))))))),Hm [(0,[⟨56,1,lc fU (pre++(bQ (n+3) (natV u%natV v)++post))⟩])]⟩,aG ⟨rfl,trivial⟩ (by simp[wk]),rfl,oo _,?_⟩;simp(disch:=omega) only[kd,Tryz.results170]
 rw[if_pos (by omega)]at b2;obtain⟨t,ht⟩: ∃t,t=u2+4294967296-(m.c+m.b):=⟨_,rfl⟩;have ht4:t<4294967296:=by omega
 rw[show(u2+8589934592-(m.c+m.b))%4294967296=t by omega]at b1;have hs:=hset t;have lu':Lmb (m.us++[t]):=mv m.lmb ht4;have nu':(m.us++[t]).length=n+3:=by rw[List.length_append,hml,hie];rfl
 have hleft:=fun a hai=>H.left m hie hg2 (by omega) ht a hai
 have htop:(m.us++[t])[n+2]?=some t:=by rw[ar (by omega),hml,hie,Nat.sub_self];rfl
 clear hset hse hno ht;generalize hRR:pre++((m.us++u.drop m.i)++post)=RR at*
 refine be (by kernel_rfl) fun _ K=>?_;simp(disch:=omega) only[kd,bC];apply K
 refine wL rfl ?_;show fc _ _ _ _ _;refine be (by kernel_rfl) fun _ K=>?_;simp(disch:=omega) only[kd,aa,hget,cX];apply K
 refine be (by kernel_rfl) fun _ K=>?_;simp(disch:=omega) only[kd,aa,b1,hget,dv,hs];apply K
 refine ce (be (by kernel_rfl) fun _ K=>?_);simp(disch:=omega) only[kd,aa,Int.reduceLE,ao,b2];apply K;refine iI rfl (fH ?_);show fc _ _ _ _ _;refine be (by kernel_rfl) fun _ K=>?_;simp only[kd];apply K
 refine ce (be (by kernel_rfl) fun _ K=>?_);simp only[kd];apply K;refine gB (G:=J6 (m.us++[t]) v) (fun a=>⟨(.one (.sl 0 0 off (n+3))::bC v::jk::jk::jk::.raw (.int .i64 ((n+2:Nat):Int))::jk::.raw (.int .u64 (g:Int))::jk::.raw (.int .u64 (a.c:Int))::j16 (j16 (j16 (j16 (j16 (j16 (j16 (j4 (j4 (j4 (jk::.raw (.int .i64 ((n+2:Nat):Int))::rN a.i::j16 (j16 (jk::jk::[]))))))))))))),Hm [(0,[⟨56,1,lc fU (pre++((a.us++(m.us++[t]).drop a.i)++post))⟩])]⟩) (fun a=>n+2-a.i) (J6.start _ _) ?_ ?_
 ·refine aG ⟨?_,trivial⟩ ?_
  ·simp[Hm,J6.start,bs]
  simp[wk,J6.start]
 intro a;have hai:=a.hi;have hac:=a.hc;have hal:=a.len;generalize m.us++[t]=U' at*
 have hsl2:=xU (u:=U') hal (by omega);have hrl2:(pre++((a.us++U'.drop a.i)++post)).length=off+(n+3)+post.length:=by simp only[List.length_append]at hsl2⊢;omega
 by_cases hlt2:a.i<n+2
 ·obtain⟨x,hx⟩:=getElem?_of_lt (l:=v) (k:=a.i) (by omega);obtain⟨y,hy⟩:=getElem?_of_lt (l:=U') (k:=a.i) (by omega);have hx':=ck H.lv hx;have hy':=ck lu' hy;have hget2:=lJ (post:=post) hp (xS hal hy);have hset2:=rU (post:=post) ((a.c+(y+x))%4294967296) hp (show a.i<(a.us++U'.drop a.i).length by omega);rw[rV _ hal (by omega)]at hset2;obtain⟨a',q1,q2,q3⟩:=Kn a hx hy H.lv lu';have e4:(a.c:Int)+((y:Int)+(x:Int))=((a.c+(y+x):Nat):Int):=by omega
  have e6:=r8 (a.c+(y+x));have e7:=F1 (a.c+(y+x));generalize(a.c+(y+x))%4294967296=nl at*
  generalize(a.c+(y+x))/4294967296=nc at*
  generalize hR2:pre++((a.us++U'.drop a.i)++post)=R2 at*
  refine be (by kernel_rfl) fun _ K=>?_;simp(disch:=omega) only[kd,bC];apply K
  refine wM rfl ?_;refine ce (eY ?_);refine be (by kernel_rfl) fun _ K=>?_;simp only[kd];apply K
  refine fX bj (by kernel_rfl) (by kernel_rfl) fun _ K=>?_;simp(disch:=omega) only[kd,aa,hget2,cX,hx,e4];apply K
  refine be (by kernel_rfl) fun _ K=>?_;simp(disch:=omega) only[kd,aa,e6,hget2,dv,hset2];apply K
  refine dD (by kernel_rfl) fun _ K=>?_;simp only[kd,aa,Int.reduceLE,ao,e7];apply K
  show fc _ _ _ _ _;refine dD (by kernel_rfl) fun _ K=>?_;simp(disch:=omega) only[kd,aT];apply K
  refine⟨a',by omega,aG ⟨?_,trivial⟩ ?_⟩
  ·rw[q1,q2];rfl
  simp[wk,q1,q3]
 have hae:a.i=n+2:=by omega
 obtain⟨q1,q2⟩:=hleft a hae;have hget2:(pre++((a.us++U'.drop a.i)++post))[off+(n+2)]?=some t:=by
  have:=lJ (post:=post) hp (xS hal (show U'[a.i]?=some t by rw[hae];exact htop));rwa[hae]at this⊢
 have hset2:=rU (post:=post) ((t+a.c)%4294967296) hp (show a.i<(a.us++U'.drop a.i).length by omega);rw[rV _ hal (by omega),List.drop_eq_nil_iff.2 (show U'.length<=a.i+1 by omega),List.append_nil,q2,hae]at hset2;have e4:IntKind.u32.wrap ((t:Int)+(a.c:Int))=(((t+a.c)%4294967296:Nat):Int):=by rw[<- r8];congr 1<;>omega
 have e5:(g:Int)-1=((natV u/natV v:Nat):Int):=by rw[q1];simp
 have e6:IntKind.u32.wrap ((natV u/natV v:Nat):Int)=((natV u/natV v:Nat):Int):=by rw[r8];congr 1;exact Nat.mod_eq_of_lt hqlt
 have e8:IntKind.u64.wrap ((natV u/natV v:Nat):Int)=((natV u/natV v:Nat):Int):=by
  generalize natV u/natV v=qq at*
  rw[IntKind.wrap_u64];omega
 have hRe:pre++((a.us++U'.drop a.i)++post)=pre++((a.us++U'.drop (n+2))++post):=by rw[hae]
 generalize(t+a.c)%4294967296=nl at*
 rw[<- hRe]at hset2;generalize hR2:pre++((a.us++U'.drop a.i)++post)=R2 at*
 refine be (by kernel_rfl) fun _ K=>?_;simp(disch:=omega) only[kd,bC];apply K
 refine wL rfl ?_;show fc _ _ _ _ _;refine be (by kernel_rfl) fun _ K=>?_;simp(disch:=omega) only[kd,aa,hget2,D4,e4,dv,hset2];apply K
 refine be (by kernel_rfl) fun _ K=>?_;simp only[kd,aa,e5,e8,e6];apply K
 refine rE ⟨.inr rfl,⟨(.one (.sl 0 0 off (n+3))::jk::jk::jk::.raw (.int .u32 ((natV u/natV v:Nat):Int))::j16 (j16 (j16 (j16 (j16 (j16 (j16 (j16 (j16 (j16 (j4 (jk::jk::[])))))))))))),Hm [(0,[⟨56,1,lc fU (pre++(bQ (n+3) (natV u%natV v)++post))⟩])]⟩,aG ⟨rfl,trivial⟩ (by simp[wk]),rfl,oo _,?_⟩;simp(disch:=omega) only[kd,Tryz.results170]
section
theorem mH: ∀(k n x:Nat),bQ (k+n) x=bQ k x++bQ n (x/4294967296^k)
 |0,n,x=>by simp[bQ]
 |k+1,n,x=>by
  rw[show k+1+n=(k+n)+1 by omega,bQ,mH k n,bQ,Nat.div_div_eq_div_mul,Nat.pow_succ,Nat.mul_comm 4294967296];rfl
theorem tV: ∀(k x:Nat),bQ k (x%4294967296^k)=bQ k x
 |0,x=>rfl
 |k+1,x=>by
  rw[bQ,bQ,Nat.pow_succ,Nat.mul_comm (4294967296^k),Nat.mod_mul_right_mod,Nat.mod_mul_right_div_self,tV k]
theorem pw (k n x y:Nat) (hx:x<4294967296^k):bQ (k+n) (y*4294967296^k+x)=bQ k x++bQ n y:=by
 have hp:0<4294967296^k:=Nat.pow_pos (by omega);rw[mH,<- tV k (y*4294967296^k+x),Nat.mul_comm y,Nat.mul_add_mod,Nat.mod_eq_of_lt hx,Nat.mul_add_div hp,Nat.div_eq_of_lt hx,Nat.add_zero]
theorem wh: ∀n,bQ n 0=ag n 0
 |0=>rfl
 |n+1=>by rw[bQ,Nat.zero_mod,Nat.zero_div,wh n];rfl
def eu (A V k:Nat):Nat:=A%(V*4294967296^k)
def kD (A V k:Nat):Nat:=A/(V*4294967296^k)*4294967296^k
section
variable {A V k:Nat} (hV:0<V)
include hV
theorem IG : eu A V (k + 1) / 4294967296 ^ k < V * 4294967296 := by
  have hp : 0 < 4294967296 ^ k := Nat.pow_pos (by omega);rw [Nat.div_lt_iff_lt_mul hp];have := Nat.mod_lt A (show 0 < V * 4294967296 ^ (k + 1) from Nat.mul_pos hV (Nat.pow_pos (by omega)));rw [Nat.pow_succ] at this;unfold eu;rw [Nat.pow_succ]
  calc _ < V * (4294967296 ^ k * 4294967296) := this
    _ = _ := by grind
omit hV in
theorem II:eu A V k=eu A V (k+1)/4294967296^k%V*4294967296^k+eu A V (k+1)%4294967296^k:=by
 unfold eu;have e:V*4294967296^(k+1)=V*4294967296^k*4294967296:=by rw[Nat.pow_succ];grind
 have h1:A%(V*4294967296^k)=A%(V*4294967296^(k+1))%(V*4294967296^k):=by rw[e,Nat.mod_mul_right_mod]
 rw[h1];generalize A%(V*4294967296^(k+1))=x;rw[Nat.mul_comm V,Nat.mod_mul];generalize 4294967296^k=p;rw[Nat.add_comm,Nat.mul_comm p]
theorem Iz:kD A V k=kD A V (k+1)+eu A V (k+1)/4294967296^k/V*4294967296^k:=by
 unfold kD eu;have hp:0<4294967296^k:=Nat.pow_pos (by omega);have e:V*4294967296^(k+1)=V*4294967296^k*4294967296:=by rw[Nat.pow_succ];grind
 have h1:=Nat.div_add_mod A (V*4294967296^(k+1));generalize hq:A/(V*4294967296^(k+1))=q at*
 generalize hr:A%(V*4294967296^(k+1))=r at*
 have h2:A/(V*4294967296^k)=q*4294967296+r/4294967296^k/V:=by
  rw[<- h1,e,Nat.mul_assoc (V*4294967296^k),Nat.mul_add_div (Nat.mul_pos hV hp),Nat.div_div_eq_div_mul,Nat.mul_comm (4294967296^k) V,Nat.mul_comm 4294967296]
 rw[h2,Nat.pow_succ];grind
theorem pB:eu A V (k+1)/4294967296^k/V<4294967296:=by
 rw[Nat.div_lt_iff_lt_mul hV,Nat.mul_comm];exact IG hV
end
theorem Lt {A V k m:Nat} (hV:0<V) (hk:k<m) (hb:kD A V (k+1)<4294967296^m):(bQ m (kD A V (k+1))).set k (eu A V (k+1)/4294967296^k/V)=bQ m (kD A V k):=by
 have hd:=pB (A:=A) (k:=k) hV;rw[Iz (A:=A) (k:=k) hV];generalize eu A V (k+1)/4294967296^k/V=d at*
 obtain⟨q,hq⟩: ∃q,kD A V (k+1)=q*4294967296^(k+1):=⟨_,rfl⟩;rw[hq];obtain⟨r,rfl⟩: ∃r,m=k+(1+r):=⟨m-(k+1),by omega⟩;have e1:q*4294967296^(k+1)=(q*4294967296)*4294967296^k+0:=by rw[Nat.pow_succ];grind
 have e2:q*4294967296^(k+1)+d*4294967296^k=(q*4294967296+d)*4294967296^k+0:=by rw[Nat.pow_succ];grind
 have hp:0<4294967296^k:=Nat.pow_pos (by omega);rw[e2,pw _ _ _ _ hp,e1,pw _ _ _ _ hp,List.set_append_right _ _ (by rw[bL];exact af _),bL,Nat.sub_self,Nat.add_comm 1 r,bQ,bQ,List.set_cons_zero];have a1:(q*4294967296+d)%4294967296=d:=by omega
 have a2:(q*4294967296+d)/4294967296=q*4294967296/4294967296:=by omega
 rw[a1,a2]
theorem LD {A V k nb na:Nat} (hk:k+nb<=na):bQ (na+1) (eu A V (k+1))=bQ k (eu A V (k+1))++(bQ (nb+1) (eu A V (k+1)/4294967296^k)++bQ (na-(k+nb)) (eu A V (k+1)/4294967296^(k+nb+1))):=by
 conv=>lhs;rw[show na+1=k+((nb+1)+(na-(k+nb))) by omega]
 rw[mH,mH,Nat.div_div_eq_div_mul,<- Nat.pow_add,show k+(nb+1)=k+nb+1 by omega]
theorem IH {A V k nb na:Nat} (hV:0<V) (hVB:V<=4294967296^nb) (hk:k+nb<=na):bQ k (eu A V (k+1))++(bQ (nb+1) (eu A V (k+1)/4294967296^k%V)++bQ (na-(k+nb)) (eu A V (k+1)/4294967296^(k+nb+1)))=bQ (na+1) (eu A V k):=by
 have hp:0<4294967296^k:=Nat.pow_pos (by omega);have hz:eu A V (k+1)/4294967296^(k+nb+1)=0:=by
  apply Nat.div_eq_of_lt;have:=Nat.mod_lt A (show 0<V*4294967296^(k+1)from Nat.mul_pos hV (Nat.pow_pos (by omega)));unfold eu;refine Nat.lt_of_lt_of_le this ?_;have e:4294967296^(k+nb+1)=4294967296^nb*4294967296^(k+1):=by rw[<- Nat.pow_add];congr 1;omega
  rw[e];exact Nat.mul_le_mul_right _ hVB
 have hm:=Nat.mod_lt (eu A V (k+1)/4294967296^k) hV;rw[II (A:=A) (V:=V) (k:=k),hz];generalize eu A V (k+1)/4294967296^k%V=u at*
 rw[<- tV k (eu A V (k+1))];have hx:=Nat.mod_lt (eu A V (k+1)) hp;generalize eu A V (k+1)%4294967296^k=x at*
 have hu:u<4294967296^(nb+1):=by
  have:4294967296^nb<=4294967296^(nb+1):=Nat.pow_le_pow_right (by omega) (by omega);omega
 rw[show na+1=k+((nb+1)+(na-(k+nb))) by omega,pw _ _ _ _ hx]
 congr 1
 have:=pw (nb+1) (na-(k+nb)) u 0 hu;rw[Nat.zero_mul,Nat.zero_add]at this;exact this.symm
/-! The shift. -/
theorem yJ: ∀(x:Nat),x≠0->x<18446744073709551616->1<=Lib.bitLen x/\2^(Lib.bitLen x-1)<=x/\x<2^Lib.bitLen x:=fun x=>by
 induction x using Nat.strongRecOn with
 |_ x ih=>
  intro h0 hx;have hh:=Lib.bitLen_half x h0 hx;by_cases h1:x/2=0
  ·have hx1:x=1:=by omega
   subst hx1;have:Lib.bitLen 1=1:=by decide
   rw[this];exact⟨by omega,by decide,by decide⟩
  obtain⟨q1,q2,q3⟩:=ih (x/2) (by omega) h1 (by omega);rw[hh];refine⟨by omega,?_,?_⟩
  ·rw[show 1+Lib.bitLen (x/2)-1=(Lib.bitLen (x/2)-1)+1 by omega,Nat.pow_succ];omega
  rw[Nat.add_comm,Nat.pow_succ];omega
def lz (x:Nat):Nat:=32-Lib.bitLen x
theorem K4 {x : Nat} (h0 : x ≠ 0) (hx : x < 4294967296) : lz x < 32 /\ 2147483648 <= x * 2 ^ lz x /\ x * 2 ^ lz x < 4294967296 := by
  obtain ⟨h1, h2, h3⟩ := yJ x h0 (by omega);have h4 := Lib.bitLen_le x 32 (by omega) (by simpa using hx);unfold lz;refine ⟨by omega, ?_, ?_⟩
  · calc 2147483648 = 2 ^ (Lib.bitLen x - 1) * 2 ^ (32 - Lib.bitLen x) := by
          rw [<- Nat.pow_add, show Lib.bitLen x - 1 + (32 - Lib.bitLen x) = 31 by omega]
      _ <= _ := Nat.mul_le_mul_right _ h2
  · calc x * 2 ^ (32 - Lib.bitLen x) < 2 ^ Lib.bitLen x * 2 ^ (32 - Lib.bitLen x) := Nat.mul_lt_mul_of_pos_right h3 (Nat.two_pow_pos _)
      _ = 4294967296 := by rw [<- Nat.pow_add, show Lib.bitLen x + (32 - Lib.bitLen x) = 32 by omega]
theorem LS {b n x s : Nat} (hl : (aR b).length = n + 1) (hx : (aR b)[n]? = some x) (hs : 2147483648 <= x * 2 ^ s /\ x * 2 ^ s < 4294967296) (hs32 : s < 32) :
    b * 2 ^ s < 4294967296 ^ (n + 1) /\ 2147483648 * 4294967296 ^ n <= b * 2 ^ s := by
  have h1 := bG hx;rw [List.take_of_length_le (by omega), aP] at h1;have h2 := eI (aV b) n;have hp : 0 < 4294967296 ^ n := Nat.pow_pos (by omega);have hps := zF hs32;constructor
  · -- b < (x + 1) B^n, and (x + 1) 2^s <= B, for x 2^s < B and 2^s divides B
    have h3 : (x + 1) * 2 ^ s <= 4294967296 := by
      have e : 4294967296 = 2 ^ (32 - s) * 2 ^ s := by rw [<- Nat.pow_add, show 32 - s + s = 32 by omega]
      rw [e] at hs ⊢;exact Nat.mul_le_mul_right _ (Nat.lt_of_mul_lt_mul_right hs.2)
    calc b * 2 ^ s < (x + 1) * 4294967296 ^ n * 2 ^ s := by
          refine Nat.mul_lt_mul_of_pos_right ?_ (Nat.two_pow_pos s);rw [h1, Nat.add_mul, Nat.one_mul]; omega
      _ = (x + 1) * 2 ^ s * 4294967296 ^ n := by grind
      _ <= 4294967296 * 4294967296 ^ n := Nat.mul_le_mul_right _ h3
      _ = 4294967296 ^ (n + 1) := by rw [Nat.pow_succ, Nat.mul_comm]
  · calc 2147483648 * 4294967296 ^ n <= x * 2 ^ s * 4294967296 ^ n := Nat.mul_le_mul_right _ hs.1
      _ = x * 4294967296 ^ n * 2 ^ s := by grind
      _ <= b * 2 ^ s := Nat.mul_le_mul_right _ (by omega)
end
end Go.Proofs.YtiollbhgpiiodaaGreatDoor
