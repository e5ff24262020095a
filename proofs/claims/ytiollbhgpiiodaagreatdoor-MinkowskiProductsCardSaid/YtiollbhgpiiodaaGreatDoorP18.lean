/-
  Part 19 of a proof (walks and plain facts).
-/
import Derived.Test.YtiollbhgpiiodaaGreatDoorP17
set_option linter.all false
set_option maxRecDepth 100000
set_option maxHeartbeats 64000000
open Nat renaming reduceAdd → aa
open Nat renaming reduceEqDiff → ae
open List renaming replicate → ag
open Nat renaming reduceBEq → ah
open Int renaming reduceToNat → ao
open List renaming getElem?_eq_none → au
open List renaming mem_of_getElem? → ax
open List renaming getElem?_map → aA
namespace Go.Proofs.YtiollbhgpiiodaaGreatDoor
open Go.RowKit
theorem NZ {A V k n : Nat} (hV1 : V < 4294967296 ^ (n + 2)) (hV2 : 2147483648 * 4294967296 ^ (n + 1) <= V) : ∃ v1 v2 u2 u1 u0, uQ (bQ (n + 3) (eu A V (k + 1) / 4294967296 ^ k)) (bQ (n + 2) V) n v1 v2 u2 u1 u0 /\ natV (bQ (n + 3) (eu A V (k + 1) / 4294967296 ^ k)) = eu A V (k + 1) / 4294967296 ^ k /\ natV (bQ (n + 2) V) = V := by
  have hp : 0 < 4294967296 ^ (n + 1) := Nat.pow_pos (by omega);have hV : 0 < V := by omega
  have hr := IG (A := A) (k := k) hV;have hlt : eu A V (k + 1) / 4294967296 ^ k < 4294967296 ^ (n + 3) := by
    calc _ < V * 4294967296 := hr
      _ <= 4294967296 ^ (n + 2) * 4294967296 := Nat.mul_le_mul_right _ (Nat.le_of_lt hV1)
      _ = _ := (Nat.pow_succ ..).symm
  refine ⟨_, _, _, _, _, ⟨mu _ _, mu _ _, bL _ _, bL _ _, fm (by omega), fm (by omega), fm (by omega), fm (by omega), fm (by omega), ?_, ?_⟩, fv hlt, fv hV1⟩
  · have h1 : V / 4294967296 ^ (n + 1) < 4294967296 := by
      rw [Nat.div_lt_iff_lt_mul hp];have : 4294967296 ^ (n + 2) = 4294967296 ^ (n + 1) * 4294967296 := Nat.pow_succ ..;omega
    rw [Nat.mod_eq_of_lt h1, Nat.le_div_iff_mul_le hp];exact hV2
  · rw [fv hlt, fv hV1]; exact hr
theorem Ft {a b s n m:Nat} (ha:a<4294967296^(n+2+m)) (hb:4294967296^(n+1)<=b):eu (a*2^s) (b*2^s) (m+1)=a*2^s/\kD (a*2^s) (b*2^s) (m+1)=0:=by
 have h1:a*2^s<b*2^s*4294967296^(m+1):=by
  have h2:4294967296^(n+2+m)<=b*4294967296^(m+1):=by
   have e:4294967296^(n+2+m)=4294967296^(n+1)*4294967296^(m+1):=by rw[<- Nat.pow_add];congr 1;omega
   rw[e];exact Nat.mul_le_mul_right _ hb
  rw[Nat.mul_right_comm];exact Nat.mul_lt_mul_of_pos_right (Nat.lt_of_lt_of_le ha h2) (Nat.two_pow_pos s)
 unfold eu kD;rw[Nat.mod_eq_of_lt h1,Nat.div_eq_of_lt h1,Nat.zero_mul];exact⟨rfl,rfl⟩
theorem LC {a b s:Nat}:eu (a*2^s) (b*2^s) 0=a%b*2^s/\kD (a*2^s) (b*2^s) 0=a/b:=by
 unfold eu kD;rw[Nat.pow_zero,Nat.mul_one,Nat.mul_one,Nat.mul_mod_mul_right,Nat.mul_div_mul_right _ _ (Nat.two_pow_pos s)];exact⟨rfl,rfl⟩
theorem Og {A V k m:Nat} (hA:A<V*4294967296^m) (hk:k<=m):kD A V k<4294967296^m:=by
 have hp:0<4294967296^k:=Nat.pow_pos (by omega);unfold kD;have h1:A/(V*4294967296^k)<4294967296^(m-k):=by
  rw[<- Nat.div_div_eq_div_mul];apply Nat.div_lt_of_lt_mul;apply Nat.div_lt_of_lt_mul;have e:4294967296^m=4294967296^k*4294967296^(m-k):=by rw[<- Nat.pow_add];congr 1;omega
  rw[e]at hA;exact hA
 have e:4294967296^m=4294967296^(m-k)*4294967296^k:=by rw[<- Nat.pow_add];congr 1;omega
 rw[e];exact Nat.mul_lt_mul_of_pos_right h1 hp
theorem Al {b n:Nat} (h:(aR b).length=n+1): ∃x,(aR b)[n]?=some x/\x≠0/\x<4294967296/\4294967296^n<=b:=by
 obtain⟨x,hx⟩: ∃x,(aR b)[n]?=some x:=⟨(aR b)[n],by simp[h]⟩;have hc:=cd b;unfold nX at hc;rw[List.getLast?_eq_getElem?,h,Nat.add_sub_cancel,hx]at hc;have hx0:x≠0:=fun e=>hc (by rw[e])
 have h1:=bG hx;rw[List.take_of_length_le (by omega),aP]at h1;refine⟨x,hx,hx0,ck (aV b) hx,?_⟩;rw[h1];have:1*4294967296^n<=x*4294967296^n:=Nat.mul_le_mul_right _ (by omega);omega
theorem EU {b:Nat} (h:(aR b).length=1):(aR b)[0]?=some b/\b<4294967296:=by
 obtain⟨x,hx,_,hx',_⟩:=Al (n:=0) h;have h1:=bG hx;rw[List.take_of_length_le (by omega),aP]at h1;simp[natV]at h1;subst h1;exact⟨hx,hx'⟩
theorem zm (a:Nat):a<4294967296^(aR a).length:=by
 have:=fq (aV a);rwa[aP]at this
theorem Fp {n m x:Nat} (h:n<=m):(bQ m x).take n=bQ n x:=by
 obtain⟨d,rfl⟩: ∃d,m=n+d:=⟨m-n,by omega⟩;rw[mH,List.take_left' (bL _ _)]
theorem Po (x:Nat) (h:x<4294967296):CallC Tryz.prog 168 [.raw (.int .u32 (x:Int))] ⟨[],.raw (.int .i64 (lz x:Int))⟩:=by
 refine gW (by kernel_rfl) fun X w vs hX hvs ha=>?_
 obtain⟨v0,e0,r0⟩:=mf ha (j:=0) rfl;obtain⟨rfl,_⟩:=bY (ρ:=fun _ _=>none) (H:=fun _=>[]) r0;obtain rfl:vs= #[.int .u32 (x:Int)]:=by
  apply Array.ext_getElem?;intro j
  match j with
  |0=>exact e0
  |j+1=>rw[Array.getElem?_eq_none (by simp at hvs;omega)];rfl
 have hb:=Lib.bitLen_le x 32 (by omega) (by simpa using h);have e:(32-(Lib.bitLen (x:Int).toNat:Int))=(lz x:Int):=by rw[Int.toNat_natCast];unfold lz;omega
 have:=Any.bits_LeadingZeros32 Tryz.lays133 (x:Int) w (by omega) (by omega);rw[e]at this;exact this.mono fun e w' ⟨h1,h2⟩=>⟨_,h1,fun ρ H Y=>df rfl,by rw[h2];exact Ext.refl _⟩
theorem Es {P:Program} {f:FuncId} {args:List TV} {l:List Nat} (hl:0<l.length) (hc:callable P f=true) (h: ∀(X:Nat->Prop) (w:World) (vs:Array Value),(∀b,X b->b<w.heap.size)->vs.size=args.length->
  (∀(j:Nat) t,args[j]?=some t-> ∃v:Value,vs[j]?=some v/\t.rel (fun _ _=>none) (fun _=>[]) X w v)->Calls P f vs w fun e w'=> ∃v,e= .returned v/\w'.ownsRow w.heap.size 56 1 v l.length ((l.map fun n:Nat=>(n:Int)).map (Value.int .u32))/\Ext w w'):CallC P f args ⟨[⟨56,1,lc fU l⟩],.one (.sl 0 0 0 l.length)⟩:=
 ⟨hc,fun X w vs hX hvs ha=>(h X w vs hX hvs ha).mono fun e w' ⟨v,h1,⟨_,h2⟩,h3⟩=>by
  rcases h2 with⟨_,hn⟩|⟨g,cap,cur,hv,hg,hh,hnc,hm2,hs,ht⟩
  ·omega
  have hr:rho1 g cap 0 0=some (g,cap):=by simp[rho1]
  have hcell: ∀(i:Nat) z,l[i]?=some z->cur[i]?=some (.int .u32 (z:Int)):=fun i z hz=>by
   have h3:((l.map fun n:Nat=>(n:Int)).map (Value.int .u32))[i]?=some (.int .u32 (z:Int)):=by rw[aA,aA,hz];rfl
   rw[<- ht,List.getElem?_take]at h3;split at h3
   ·simpa using h3
   cases h3
  refine⟨v,h1,rho1 g cap,⟨yY h3,fun a r o ho=>?_,fun a r a' r' o o' b c c' ho ho' _ _=>?_,fun a r o b c ho hb=>?_,fun b hb=>Nat.lt_of_lt_of_le (hX b hb) h3.size,fun a r o ho=>?_⟩,?_⟩
  ·obtain⟨rfl,rfl,rfl⟩:=ro ho;refine⟨fun e he=>?_,Nat.zero_lt_one,?_⟩
   ·obtain⟨z,_,rfl⟩:=List.mem_map.1 he;rfl
   rw[hr];refine⟨cur,hh,hs,by rw[BB];exact hnc,hm2,fun i e j x he hx=>?_⟩;simp only at he;rw[BA]at he;obtain⟨z,hz,rfl⟩:=Option.map_eq_some_iff.1 he;cases j with
   |succ j=>simp[fU]at hx
   |zero=>
    simp[fU]at hx;subst hx;exact⟨.int .u32 (z:Int),by rw[Nat.mul_one,Nat.add_zero];exact hcell i z hz,rfl,cu.raw _ rfl⟩
  ·obtain⟨rfl,rfl,_⟩:=ro ho;obtain⟨rfl,rfl,_⟩:=ro ho';exact⟨rfl,rfl⟩
  ·obtain⟨rfl,rfl,_⟩:=ro ho;rw[hr]at hb;injection hb with hb
   injection hb with hb _
   subst hb;exact⟨.inl hg,fun hX'=>absurd (hX _ hX') (by omega)⟩
  ·obtain⟨rfl,rfl,rfl⟩:=ro ho;exact dw (dZ _ _)
  exact⟨_,rfl,by simp[BB],.inr ⟨g,cap,cap,hr,by rw[hv];simp,hnc,fun _=>rfl⟩⟩⟩
theorem EM (l:List Nat) (h0:0<l.length) (hl:l.length<=1073741824):CallC Tryz.prog 156 [bC l] ⟨[⟨56,1,lc fU l⟩],.one (.sl 0 0 0 l.length)⟩:=by
 refine Es h0 (by kernel_rfl) fun X w vs hX hvs ha=>?_
 obtain⟨v0,e0,r0⟩:=mf ha (j:=0) rfl;obtain⟨A,c,rfl,hc,hR⟩:=DJ r0;obtain rfl:vs= #[.slice A l.length c]:=by
  apply Array.ext_getElem?;intro j
  match j with
  |0=>exact e0
  |j+1=>rw[Array.getElem?_eq_none (by simp at hvs;omega)];rfl
 have hlen:(l.map fun n:Nat=>(n:Int)).length=l.length:=List.length_map _;have:=sX A c (l.map fun n:Nat=>(n:Int)) w hR (by rw[hlen];omega);rw[hlen]at this;exact this
section
theorem cx (c:Int) (F:Nat->Int): ∀k,b9 (fun p=>c*F p) k=c*b9 F k
 |0=>by simp[b9]
 |k+1=>by rw[b9,b9,cx c F k];grind
theorem mR (c:Int) (F:Nat->Int) (k:Nat):b9 (fun p=>F p*c) k=b9 F k*c:=by
 rw[Int.mul_comm,<- cx];exact aS k fun p _=>Int.mul_comm _ _
theorem jt (F:FF) (m:Nat): ∀n,b9 (fun i=>b9 (F i) m) n=b9 (fun j=>b9 (fun i=>F i j) n) m
 |0=>by simp only[b9];exact(eW m).symm
 |n+1=>by rw[b9,jt F m n,<- jO];rfl
theorem x4 {F:Nat->Int} {B:Int}: ∀k,(∀p,p<k-> -B<=F p/\F p<=B)-> -((k:Int)*B)<=b9 F k/\b9 F k<=(k:Int)*B
 |0,_=>by simp[b9]
 |k+1,h=>by
  have ih:=x4 k fun p hp=>h p (by omega)
  have h1:=h k (by omega);have e:(((k+1:Nat):Int))*B=(k:Int)*B+B:=by rw[Int.natCast_add,Int.add_mul];simp
  rw[b9,e];omega
def BF (n:Nat) (f:FF) (x y:Nat->Int):Int:=b9 (fun i=>x i*b9 (fun j=>f i j*y j) n) n
variable {n:Nat}
theorem dx {f f':FF} {x x' y y':Nat->Int} (hf: ∀i j,i<n->j<n->f i j=f' i j) (hx: ∀i,i<n->x i=x' i) (hy: ∀i,i<n->y i=y' i):BF n f x y=BF n f' x' y':=
 aS n fun i hi=>by rw[hx i hi,aS n fun j hj=>by rw[hf i j hi hj,hy j hj]]
theorem ic (f:FF) (x x' y:Nat->Int) (c:Int):BF n f (fun i=>x i+c*x' i) y=BF n f x y+c*BF n f x' y:=by
 unfold BF;rw[<- cx,<- jO];exact aS n fun i _=>by grind
theorem fL (f:FF) (x y y':Nat->Int) (c:Int):BF n f x (fun i=>y i+c*y' i)=BF n f x y+c*BF n f x y':=by
 unfold BF;rw[<- cx,<- jO];refine aS n fun i _=>?_
 rw[aS n (G:=fun j=>f i j*y j+c*(f i j*y' j)) (fun j _=>by grind),jO,cx];grind
theorem ry (f g:FF) (x y:Nat->Int) (a b:Int):BF n (fun i j=>a*f i j+b*g i j) x y=a*BF n f x y+b*BF n g x y:=by
 unfold BF;rw[<- cx,<- cx,<- jO];refine aS n fun i _=>?_
 rw[aS n (G:=fun j=>a*(f i j*y j)+b*(g i j*y j)) (fun j _=>by grind),jO,cx,cx];grind
theorem CD (u v x y:Nat->Int):BF n (fun i j=>u i*v j) x y=b9 (fun i=>x i*u i) n*b9 (fun j=>v j*y j) n:=by
 unfold BF;rw[<- mR];refine aS n fun i _=>?_
 rw[aS n (G:=fun j=>u i*(v j*y j)) (fun j _=>by grind),cx];grind
theorem nW {f:FF} (hs:SymF f n) (x y:Nat->Int):BF n f x y=BF n f y x:=by
 unfold BF;rw[aS n (G:=fun i=>b9 (fun j=>x i*f i j*y j) n) (fun i _=>by rw[<- cx];exact aS n fun j _=>by grind),
  aS n (F:=fun i=>y i*_) (G:=fun i=>b9 (fun j=>x j*f j i*y i) n) (fun i hi=>by rw[<- cx];exact aS n fun j hj=>by rw[hs i hi j hj];grind)]
 exact jt _ _ _
theorem qJ {f:FF} (hs:SymF f n) (hp: ∀k,k<n->0<dk f (k+1)) (x:Nat->Int): ∀m k,m+k=n->0<=BF n (bk f k) x x/\(BF n (bk f k) x x=0-> ∀i,k<=i->i<n->x i=0)
 |0,k,h=>by
  obtain rfl:k=n:=by omega
  refine⟨?_,fun _ i h1 h2=>by omega⟩;have:BF k (bk f k) x x=0:=by
   unfold BF;rw[aS k (G:=fun _=>0) (fun i hi=>by rw[aS k (G:=fun _=>0) (fun j _=>by rw[iQ f hi,Int.zero_mul]),eW,Int.mul_zero]),eW]
  omega
 |m+1,k,h=>by
  obtain⟨h1,h2⟩:=qJ hs hp x m (k+1) (by omega);have hne: ∀t,t<n->dk f (t+1)≠0:=fun t ht=>by have:=hp t ht;omega
  have hd:0<dk f k:=lj fun t ht=>hp t (by omega)
  have hd1:=hp k (by omega);have key:dk f k*BF n (bk f (k+1)) x x=dk f (k+1)*BF n (bk f k) x x-b9 (fun j=>bk f k k j*x j) n*b9 (fun j=>bk f k k j*x j) n:=by
   have e0:dk f k*BF n (bk f (k+1)) x x=BF n (fun i j=>dk f k*bk f (k+1) i j+0*bk f k i j) x x:=by rw[ry];omega
   rw[e0,dx (f':=fun i j=>dk f (k+1)*bk f k i j+(-1)*(bk f k k i*bk f k k j)) (fun i j hi hj=>by
    have:=sylv f k (fun t ht=>hne t (by omega)) i j;have e:=jU hs k (by omega) (fun t ht=>hne t (by omega)) i k hi (by omega);rw[e]at this;omega) (fun _ _=>rfl) (fun _ _=>rfl),ry,CD,aS n (F:=fun i=>x i*bk f k k i) (G:=fun j=>bk f k k j*x j) (fun i _=>Int.mul_comm _ _)]
   omega
  have hsq:0<=b9 (fun j=>bk f k k j*x j) n*b9 (fun j=>bk f k k j*x j) n:=by
   rcases Int.le_total 0 (b9 (fun j=>bk f k k j*x j) n)with h|h
   ·exact Int.mul_nonneg h h
   exact Int.mul_nonneg_of_nonpos_of_nonpos h h
  have hpr:=Int.mul_nonneg (Int.le_of_lt hd) h1;have hge:0<=dk f (k+1)*BF n (bk f k) x x:=by omega
  refine⟨?_,fun hz=>?_⟩
  ·rcases Int.lt_or_le (BF n (bk f k) x x) 0 with hl|hl
   ·have:=Int.mul_neg_of_pos_of_neg hd1 hl;omega
   exact hl
  rw[hz,Int.mul_zero]at key;have z1:dk f k*BF n (bk f (k+1)) x x=0:=by omega
  have z2:b9 (fun j=>bk f k k j*x j) n*b9 (fun j=>bk f k k j*x j) n=0:=by omega
  have z3:BF n (bk f (k+1)) x x=0:=by
   rcases Int.mul_eq_zero.1 z1 with h|h
   ·omega
   exact h
  have z4:b9 (fun j=>bk f k k j*x j) n=0:=by
   rcases Int.mul_eq_zero.1 z2 with h|h<;>exact h
  have hx:=h2 z3;rw[ii (a:=k) (by omega) (fun p hpn hpk=>by
   by_cases hlt:p<k
   ·rw[AT hs hne (by omega) hlt (by omega),Int.zero_mul]
   rw[hx p (by omega) hpn,Int.mul_zero])]at z4
  rw[b8]at hd1;intro i hi hin;by_cases e:i=k
  ·subst e;rcases Int.mul_eq_zero.1 z4 with h|h
   ·omega
   exact h
  exact hx i (by omega) hin
theorem F7 {f:FF} (hr:RedR f n) (x:Nat->Int):0<=BF n f x x/\(BF n f x x=0↔ ∀i,i<n->x i=0):=by
 have h:=qJ hr.1 hr.2.1 x n 0 rfl;have e:BF n (bk f 0) x x=BF n f x x:=dx (fun i j _ _=>dr f i j) (fun _ _=>rfl) (fun _ _=>rfl);rw[e]at h;refine⟨h.1,fun hz i hi=>h.2 hz i (by omega) hi,fun h0=>?_⟩;unfold BF;rw[aS n (G:=fun _=>0) (fun i hi=>by rw[h0 i hi,Int.zero_mul]),eW]
theorem schwarz {f:FF} (hr:RedR f n) (x y:Nat->Int):BF n f x y*BF n f x y<=BF n f x x*BF n f y y:=by
 have hs:=nW hr.1 x y;obtain⟨h1,h2⟩:=F7 hr y;obtain⟨q,hq⟩: ∃q,q=BF n f x y:=⟨_,rfl⟩;obtain⟨o,ho⟩: ∃o,o=BF n f y y:=⟨_,rfl⟩;obtain⟨N,hN⟩: ∃N,N=BF n f x x:=⟨_,rfl⟩;have hpos:=(F7 hr (fun i=>(0+o*x i)+(-q)*y i)).1;have e:BF n f (fun i=>(0+o*x i)+(-q)*y i) (fun i=>(0+o*x i)+(-q)*y i)=o*(o*N-q*q):=by
  have ez: ∀u,BF n f (fun _=>0) u=0:=fun u=>by
   unfold BF;rw[aS n (G:=fun _=>0) (fun i _=>Int.zero_mul _),eW]
  have ez': ∀u,BF n f u (fun _=>0)=0:=fun u=>by rw[nW hr.1,ez]
  rw[ic f (fun i=>0+o*x i) y,fL f (fun i=>0+o*x i) (fun i=>0+o*x i) y,fL f y (fun i=>0+o*x i) y,
   ic f (fun _=>0) x,ic f (fun _=>0) x,fL f x (fun _=>0) x,fL f y (fun _=>0) x,ez,ez,ez',ez',<- hs,<- hq,<- ho,<- hN]
  grind
 rw[e]at hpos;rw[<- hq,<- ho,<- hN];rcases Int.lt_or_le 0 o with h|h
 ·have:0<=o*N-q*q:=by
   rcases Int.lt_or_le (o*N-q*q) 0 with hl|hl
   ·have:=Int.mul_neg_of_pos_of_neg h hl;omega
   exact hl
  have:o*N=N*o:=Int.mul_comm _ _;omega
 have o0:o=0:=by omega
 have hy:=h2.1 (ho▸o0);have q0:q=0:=by
  rw[hq,hs];unfold BF;rw[aS n (G:=fun _=>0) (fun i hi=>by rw[hy i hi,Int.zero_mul]),eW]
 rw[o0,q0];omega
end
theorem pu (M:List (List Int)):CallC Tryz.prog 18 [bS M] ⟨[],.raw (.bool (cb M))⟩:=by
 refine gW (by kernel_rfl) fun X w vs hX hvs ha=>?_
 obtain⟨v0,e0,r0⟩:=mf ha (j:=0) rfl;obtain⟨A,c,rfl,hc,hl,hR⟩:=nK r0;obtain rfl:vs= #[.slice A M.length c]:=by
  apply Array.ext_getElem?;intro j
  match j with
  |0=>exact e0
  |j+1=>rw[Array.getElem?_eq_none (by simp at hvs;omega)];rfl
 refine(jX A c M w hR hl hc).mono fun e w' ⟨h1,h2⟩=>?_
 exact⟨_,h1,fun _ _ _=>uh _,h2⟩
theorem Lm (n:Int) (x:List Int):CallC Tryz.prog 58 [.raw (.int .i64 n),pO x] ⟨[],.raw (.bool (FitB n x))⟩:=by
 refine gW (by kernel_rfl) fun X w vs hX hvs ha=>?_
 obtain⟨v0,e0,r0⟩:=mf ha (j:=0) rfl;obtain⟨v1,e1,r1⟩:=mf ha (j:=1) rfl;obtain rfl:=lG r0;obtain⟨B,d,rfl,hd,hlx,hx⟩:=jL r1;obtain rfl:vs= #[.int .i64 n,.slice B x.length d]:=by
  apply Array.ext_getElem?;intro j
  match j with
  |0=>exact e0
  |1=>exact e1
  |j+2=>rw[Array.getElem?_eq_none (by simp at hvs;omega)];rfl
 refine(pa n B d x w hx hlx).mono fun e w' ⟨h1,h2⟩=>?_
 subst h2;exact⟨_,h1,fun _ _ _=>uh _,Ext.refl _⟩
theorem Oj (a b:List (List Int)):CallC Tryz.prog 32 [bS a,bS b] ⟨[],.raw (.bool (decide (a=b)))⟩:=by
 refine gW (by kernel_rfl) fun X w vs hX hvs ha=>?_
 obtain⟨v0,e0,r0⟩:=mf ha (j:=0) rfl;obtain⟨v1,e1,r1⟩:=mf ha (j:=1) rfl;obtain⟨A,c,rfl,hc,hl,hA⟩:=nK r0;obtain⟨B,d,rfl,hd,hlb,hB⟩:=nK r1;obtain rfl:vs= #[.slice A a.length c,.slice B b.length d]:=by
  apply Array.ext_getElem?;intro j
  match j with
  |0=>exact e0
  |1=>exact e1
  |j+2=>rw[Array.getElem?_eq_none (by simp at hvs;omega)];rfl
 refine(IT A B c d a b w hA hB hl hlb).mono fun e w' ⟨h1,h2⟩=>?_
 exact⟨_,h1,fun _ _ _=>uh _,h2⟩
theorem ID {X:Nat->Prop} {w:World} {l:List Int} {b off c:Nat} (hX: ¬X b) (hb:b<w.heap.size) (hl:l.length<=c) (hm:l.length<=9223372036854775807) (h:RdI .i64 w (some ⟨b,off,none⟩) l):cu X w (.sl (ls fI l)) (.slice (some ⟨b,off,none⟩) l.length c):=by
 have hc: ∀(i:Nat) (z:Int),l[i]?=some z->w.cell? ⟨b,off+i,none⟩=some (.int .i64 z):=fun i z hz=>by
  cases l with
  |nil=>simp at hz
  |cons z0 l0=>
   obtain⟨b',off',h1,hc⟩:=h (by simp);injection h1 with h1
   injection h1 with h1 h2
   subst h1 h2;exact hc i _ (by rw[aA,hz];rfl)
 have:=cu.sl (X:=X) (w:=w) b off 1 c (ls fI l) (fun i _=> .int .i64 (l.getD i 0)) hX hb (fun e he=>by
  obtain⟨z,_,rfl⟩:=List.mem_map.1 he;rfl) (by rw[ff];exact hl) (by rw[ff];exact hm) (fun i e j x he hx=>by
  rw[gH]at he;obtain⟨z,hz,rfl⟩:=Option.map_eq_some_iff.1 he;cases j with
  |succ j=>simp[fI]at hx
  |zero=>
   simp only[Nat.mul_one,Nat.add_zero,List.getD_eq_getElem?_getD,hz,Option.getD_some];exact hc i z hz) (fun i e j x he hx=>by
  rw[gH]at he;obtain⟨z,hz,rfl⟩:=Option.map_eq_some_iff.1 he;cases j with
  |succ j=>simp[fI]at hx
  |zero=>
   simp[fI]at hx;subst hx;simp only[List.getD_eq_getElem?_getD,hz,Option.getD_some];exact cu.raw _ rfl)
 rw[ff]at this;exact this
theorem In (M:List (List Int)) (x:List Int) (hM:cb M=true) (hx:FitB M.length x=true):CallC Tryz.prog 60 [bS M,pO x] ⟨[],pO (dy M x)⟩:=by
 refine sM (by kernel_rfl) fun X w vs hX hvs ha=>?_
 obtain⟨v0,e0,r0⟩:=mf ha (j:=0) rfl;obtain⟨v1,e1,r1⟩:=mf ha (j:=1) rfl;obtain⟨A,c,rfl,hc,hl,hR⟩:=nK r0;obtain⟨B,d,rfl,hd,hlx,hrx⟩:=jL r1;obtain rfl:vs= #[.slice A M.length c,.slice B x.length d]:=by
  apply Array.ext_getElem?;intro j
  match j with
  |0=>exact e0
  |1=>exact e1
  |j+2=>rw[Array.getElem?_eq_none (by simp at hvs;omega)];rfl
 have hs:=fp hM;obtain⟨hxl,hxb⟩:=ij.1 hx;have h8:M.length<=8:=hs.2.1;have h1:1<=M.length:=hs.1;refine(vu A B c d M x w hR hrx (by omega) (fun i hi=>by rw[hs.2.2.1 i hi];omega) hlx).mono fun e w' ⟨h1,h2,h3⟩=>?_
 refine⟨_,h1,fun ρ H Y hY=>?_,h3⟩;have hlen:=jT M x;have hb:w.heap.size<w'.heap.size:=by
  obtain⟨b,off,h4,h5⟩:=h2 (by intro h;rw[List.map_eq_nil_iff]at h;rw[h]at hlen;simp at hlen;omega);injection h4 with h4
  injection h4 with h4 h6
  subst h4 h6;cases hz:(dy M x)[0]? with
  |none=>rw[List.getElem?_eq_none_iff]at hz;omega
  |some z=>exact nf (h5 0 _ (by rw[aA,hz];rfl))
 have:=ID (X:=Y) (c:=M.length) (fun h=>absurd (hY _ h) (by omega)) hb (by omega) (by omega) h2;rw[hlen]at this;exact this
theorem Oe (M:List (List Int)) (x y:List Int) (hM:cb M=true) (hx:FitB M.length x=true) (hy:FitB M.length y=true):CallC Tryz.prog 59 [pO x,pO (dy M y)] ⟨[],OW (ew x (dy M y) x.length)⟩:=by
 refine gW (by kernel_rfl) fun X w vs hX hvs ha=>?_
 obtain⟨v0,e0,r0⟩:=mf ha (j:=0) rfl;obtain⟨v1,e1,r1⟩:=mf ha (j:=1) rfl;obtain⟨A,c,rfl,hc,hl,hrx⟩:=jL r0;obtain⟨B,d,rfl,hd,hly,hry⟩:=jL r1;obtain rfl:vs= #[.slice A x.length c,.slice B (dy M y).length d]:=by
  apply Array.ext_getElem?;intro j
  match j with
  |0=>exact e0
  |1=>exact e1
  |j+2=>rw[Array.getElem?_eq_none (by simp at hvs;omega)];rfl
 have hs:=fp hM;obtain⟨hxl,hxb⟩:=ij.1 hx;obtain⟨hyl,hyb⟩:=ij.1 hy;have h8:M.length<=8:=hs.2.1;have hlen:=jT M y;refine(Da A B c d x (dy M y) w hrx hry (by omega) (by omega) hly (fun i z hz=>kL hxb hz) (vt hs hyb)).mono fun e w' ⟨h1,h2⟩=>?_
 refine⟨_,h1,fun ρ H Y=>?_,h2⟩;unfold OW s8;split
 ·exact rR _ _
 exact rR _ _
/-! The plain side of Gram. -/
def vG (M l:List (List Int)) (i j:Nat):Int:=ew (l.getD i []) (dy M (l.getD j [])) (l.getD i []).length
structure PG (M l:List (List Int)) (i j:Nat):Prop where
 x:FitB M.length (l.getD i [])=true
 y:FitB M.length (l.getD j [])=true
 lo: -4611686018427387904<=vG M l i j
 hi:vG M l i j<=4611686018427387904
def PJ (M l:List (List Int)):Prop:=cb M=true/\ ∀i,i<l.length-> ∀j,j<l.length->PG M l i j
theorem Bv {M:List (List Int)} {x y:List Int} (hM:cb M=true) (hx:FitB M.length x=true) (hy:FitB M.length y=true):
  ew x (dy M y) x.length=BF M.length (ent M) (fun i=>x.getD i 0) (fun i=>y.getD i 0):=by
 obtain⟨h1,h8,hsq,hr⟩:=(gE M).1 hM;obtain⟨hxl,hxb⟩:=ij.1 hx;obtain⟨hyl,hyb⟩:=ij.1 hy;generalize hn:M.length=n at*
 have eM:M=bx n n (ent M):=by
  apply List.ext_getElem?;intro i;by_cases hi:i<n
  ·rw[bD _ _ hi];obtain⟨r,hr'⟩:=getElem?_of_lt (show i<M.length by omega);rw[hr'];have hrl:r.length=n:=by
    have:=hsq i (by omega);rw[List.getD_eq_getElem?_getD,hr']at this;simpa[hn] using this
   refine congrArg some ?_;apply List.ext_getElem?;intro j;by_cases hj:j<n
   ·rw[aY _ hj];obtain⟨z,hz⟩:=getElem?_of_lt (show j<r.length by omega);rw[hz];simp[ent,List.getD_eq_getElem?_getD,hr',hz]
   rw[au (by omega),au (by rw[bE];omega)]
  rw[au (by omega),au (by rw[bi];omega)]
 have er: ∀(x:List Int),x.length=n->x=bT n (fun i=>x.getD i 0):=fun x hxl=>by
  apply List.ext_getElem?;intro j;by_cases hj:j<n
  ·rw[aY _ hj];obtain⟨z,hz⟩:=getElem?_of_lt (show j<x.length by omega);simp[List.getD_eq_getElem?_getD,hz]
  rw[au (by omega),au (by rw[bE];omega)]
 have hM2:cb (bx n n (ent M))=true:=by rw[<- eM];exact hM
 have ex:=er x hxl;have ey:=er y hyl;rw[show dy M y=Qe n n (ent M) y by rw[<- AR hM2 hyb,<- eM],hxl,Qe];generalize(fun i=>x.getD i 0)=fx at*
 generalize(fun i=>y.getD i 0)=fy at*
 rw[ex,ey,oV _ _ n (Nat.le_refl _)];exact aS n fun i _=>by rw[oV _ _ n (Nat.le_refl _)]
theorem JP {M l:List (List Int)} {i j:Nat} (hM:cb M=true) (hi:FitB M.length (l.getD i [])=true) (hj:FitB M.length (l.getD j [])=true):vG M l i j=vG M l j i:=by
 unfold vG;rw[Bv hM hi hj,Bv hM hj hi];obtain⟨h1,h8,hsq,hr⟩:=(gE M).1 hM;exact nW hr.1 _ _
theorem Oh {P:Program} {fn:Func} {s:AS} {r:TV} (k:Nat) (hk:s.tmps[k]?=some (.raw (.slice none 0 0))) (hd:s.H 1000=[]) (h:rt P ⟨s.tmps.set k (.one (.p (.sl []))),s.H⟩ fn.results.toList=some r) (hp:noRefTV r=true): ∃s',cj s s'/\nP P fn ⟨[],r⟩ s':=
 ⟨_,Kk k hk,pI hd h hp⟩
theorem EO (a b:Nat) (hb:0<b) (la:(aR a).length<=268435456) (lb:(aR b).length<=268435456):CallC Tryz.prog 161 [bC (aR a),bC (aR b)] ⟨[],yS a b⟩:=by
 have hc:=oq (aR a) (aR b) (aV _) (aV _) (cd _) (cd _) (by omega) (by omega);rw[aP,aP]at hc;by_cases hlt:a<b
 ·rw[ng hlt]at hc;have hcl:=y5 (aR a) (by omega);unfold yS;rw[Nat.div_eq_of_lt hlt,Nat.mod_eq_of_lt hlt,cw];refine aJ Tryz.func161 rfl (by kernel_rfl) ?_;rw[Tryz.ntmps161];refine aF fun _ K=>?_;simp only[kd,bC,aa,ag];apply K
  refine aH (aM ?_);refine aI [⟨2,_,_,_,hc⟩] [] fun _ K=>?_;simp(disch:=omega) only[kd,bC,aa];apply K
  refine bf rfl ?_;refine aI [⟨1,_,_,_,hcl⟩] [] fun _ K=>?_;simp only[kd,bC,aa];apply K
  refine aK ⟨.inr rfl,Oh 4 rfl rfl ?_ rfl⟩;simp(disch:=omega) only[kd,Tryz.results161]
 obtain⟨c,hcv,hc0⟩: ∃c,c=fB a b/\0<=c:=⟨_,rfl,CV (by omega)⟩;rw[<- hcv]at hc;clear hcv;by_cases hs:(aR a).length<=2
 ·have sb:(aR b).length<=2:=Nat.le_trans (oA (show b<=a by omega)) hs;have ua:=iu hs;have ub:=iu sb;have h1:=rJ (aR a) (aV _) hs;have h2:=rJ (aR b) (aV _) sb;rw[aP]at h1 h2;have hq:a/b<=a:=Nat.div_le_self _ _;have hr:a%b<b:=Nat.mod_lt _ hb;have h3:=iq (a/b) (by omega);have h4:=iq (a%b) (by omega);have hb0:(b:Int)≠0:=by omega
  have e1:IntKind.u64.wrap (Int.tdiv (a:Int) (b:Int))=((a/b:Nat):Int):=by
   rw[Int.tdiv_eq_ediv_of_nonneg (by omega),<- Int.natCast_ediv];generalize a/b=q at*;rw[IntKind.wrap_u64];omega
  have e2:Int.tmod (a:Int) (b:Int)=((a%b:Nat):Int):=by
   rw[Int.tmod_eq_emod_of_nonneg (by omega),<- Int.natCast_emod]
  unfold yS;generalize a/b=q at*
  generalize a%b=r at*
  refine aJ Tryz.func161 rfl (by kernel_rfl) ?_;rw[Tryz.ntmps161];refine aF fun _ K=>?_;simp only[kd,bC,aa,ag];apply K
  refine aH (aM ?_);refine aI [⟨2,_,_,_,hc⟩] [] fun _ K=>?_;simp(disch:=omega) only[kd,bC,aa];apply K
  refine aU rfl ?_;refine aF fun _ K=>?_;simp(disch:=omega) only[kd,aa];apply K
  refine bf rfl ?_;refine aI [⟨1,_,_,_,h1⟩,⟨3,_,_,_,h2⟩] [] fun _ K=>?_;simp only[kd,bC,aa,ah];apply K
  refine bz bj [⟨3,_,_,_,h3⟩,⟨7,_,_,_,h4⟩] [] (by kernel_rfl) fun _ K=>?_;simp only[kd,bC,aa,ne_eq,hb0,not_false_eq_true,e1,e2,ah];apply K
  (refine aK ⟨.inr rfl,aL rfl ?_ rfl⟩;simp(disch:=omega) only[kd,Tryz.results161])
 by_cases h1:(aR b).length=1
 ·obtain⟨g0,b32⟩:=EU h1;have hcl:=EM (aR a) (by omega) (by omega);have hw:=rq (aR a) b (aV _) hb b32 (by omega) (by omega);rw[aP]at hw;have hq:a/b<4294967296^(aR a).length:=Nat.lt_of_le_of_lt (Nat.div_le_self _ _) (zm a);have hr:a%b<b:=Nat.mod_lt _ hb;have ht:=dX (bQ (aR a).length (a/b)) (by rw[bL];omega);rw[qL hq]at ht;have hf:=iq (a%b) (by omega);have hpl:=bL (aR a).length (a/b);unfold yS;generalize a%b=r at*
  generalize bQ (aR a).length (a/b)=R at*
  generalize a/b=q at*
  have e1:IntKind.u64.wrap (r:Int)=(r:Int):=by rw[IntKind.wrap_u64];omega
  refine aJ Tryz.func161 rfl (by kernel_rfl) ?_;rw[Tryz.ntmps161];refine aF fun _ K=>?_;simp only[kd,bC,aa,ag];apply K
  refine aH (aM ?_);refine aI [⟨2,_,_,_,hc⟩] [] fun _ K=>?_;simp(disch:=omega) only[kd,bC,aa];apply K
  refine aU rfl ?_;refine aF fun _ K=>?_;simp(disch:=omega) only[kd,aa];apply K
  refine aU rfl ?_;refine aF fun _ K=>?_;simp(disch:=omega) only[kd,aa];apply K
  refine bf rfl ?_;refine aI [⟨1,_,_,_,hcl⟩] [] fun _ K=>?_;simp only[kd,bC,aa];apply K
  (refine sk 4 hw 41 0 [] [] (by simp[wk]) (by omega) (oH rfl) (dZ _ _) (by simp[wk]) (by decide) fun K hK=>?_;simp(disch:=omega) only[kd,aa,ao,g0];apply hK;refine⟨⟨rfl,rfl⟩,by simp,?_⟩;intro K hK;simp only[kd,aa,NJ,cwD];apply hK)
  refine bu.weak ((bX 41 (cJ rfl)).trans (aG (tm:=(j4 (bC R::jk::jk::jk::.raw (.int .u32 (r:Int))::j16 (j16 (j16 (j16 (j16 (j4 (j4 (j4 (jk::jk::jk::[]))))))))))) (l:=[]) trivial (by simp[wk,gO,fj,bs,Hm,fP,gG,List.take_of_length_le,hpl]))) ?_;refine aI [⟨1,_,_,_,ht⟩,⟨4,_,_,_,hf⟩] [] fun _ K=>?_;simp only[kd,bC,aa,e1,ah];apply K
  (refine aK ⟨.inr rfl,aL rfl ?_ rfl⟩;simp(disch:=omega) only[kd,Tryz.results161])
 obtain⟨n,hn⟩: ∃n,(aR b).length=n+2:=⟨(aR b).length-2,by have:=fk (n:=b);omega⟩;obtain⟨m,hm⟩: ∃m,(aR a).length=n+2+m:=⟨(aR a).length-(n+2),by have:=oA (show b<=a by omega);omega⟩;obtain⟨x,hx,hx0,hx32,hbl⟩:=Al (n:=n+1) hn;have hz:=Po x hx32;obtain⟨z1,z2,z3⟩:=K4 hx0 hx32;obtain⟨s,hsz⟩: ∃s,s=lz x:=⟨_,rfl⟩;rw[<- hsz]at hz z1 z2 z3;clear hsz;obtain⟨V1,V2⟩:=LS hn hx ⟨z2,z3⟩ z1;have hp2:=Nat.two_pow_pos s;have hV:0<b*2^s:=Nat.mul_pos hb hp2;have pO:=pc (aR b) s (aV _) z1 (by omega);have sl2:=pc (aR a) s (aV _) z1 (by omega);rw[aP,hn]at pO;rw[aP,hm]at sl2;have ha':=zm a;rw[hm]at ha';obtain⟨st1,st2⟩:=Ft (s:=s) ha' hbl;have hA:a*2^s<b*2^s*4294967296^(m+1):=by
  have h2:4294967296^(n+2+m)<=b*4294967296^(m+1):=by
   have e:4294967296^(n+2+m)=4294967296^(n+1)*4294967296^(m+1):=by rw[<- Nat.pow_add];congr 1;omega
   rw[e];exact Nat.mul_le_mul_right _ hbl
  rw[Nat.mul_right_comm];exact Nat.mul_lt_mul_of_pos_right (Nat.lt_of_lt_of_le ha' h2) hp2
 obtain⟨en1,en2⟩:=LC (a:=a) (b:=b) (s:=s);have e1:((n+2:Nat):Int)-1=((n+1:Nat):Int):=by omega
 have e2:((n+2+m:Nat):Int)-((n+2:Nat):Int)=(m:Int):=by omega
 have e3:(m:Int)+1=((m+1:Nat):Int):=by omega
 have tk:=Fp (x:=b*2^s) (show n+2<=n+2+1 by omega);have kdh:=fun k=>NZ (A:=a*2^s) (k:=k) V1 V2
 have hQ: ∀k,k<=m+1->kD (a*2^s) (b*2^s) k<4294967296^(m+1):=fun k hk=>Og hA hk
 have hend:a%b*2^s<4294967296^(n+2+m+1):=by
  have h3:a%b<b:=Nat.mod_lt _ hb;have h4:a%b*2^s<=b*2^s:=Nat.mul_le_mul_right _ (Nat.le_of_lt h3);have h5:4294967296^(n+2)<=4294967296^(n+2+m+1):=Nat.pow_le_pow_right (by omega) (by omega);omega
 have hmod:a%b<4294967296^(n+2+m+1):=Nat.lt_of_le_of_lt (Nat.le_mul_of_pos_right _ hp2) hend;have hrw:=fun k (hk:k<=m)=>IH (A:=a*2^s) (V:=b*2^s) (k:=k) (nb:=n+2) (na:=n+2+m) hV (Nat.le_of_lt V1) (by omega)
 have hrr:=fun k (hk:k<=m)=>LD (A:=a*2^s) (V:=b*2^s) (k:=k) (nb:=n+2) (na:=n+2+m) (by omega)
 have hqs:=fun k (hk:k<=m)=>Lt (A:=a*2^s) (V:=b*2^s) (k:=k) (m:=m+1) hV (by omega) (hQ _ (by omega))
 have hdiv:a/b<4294967296^(m+1):=by have:=hQ 0 (by omega);rwa[en2]at this
 have sr:=uW (bQ (n+2+m+1) (a%b*2^s)) s (mu _ _) z1 (by rw[bL];omega) (by rw[bL];omega);rw[fv hend,bL,Nat.mul_div_cancel _ hp2]at sr;have ht1:=dX (bQ (m+1) (a/b)) (by rw[bL];omega);rw[qL hdiv]at ht1;have ht2:=dX (bQ (n+2+m+1) (a%b)) (by rw[bL];omega);rw[qL hmod]at ht2;have hlV:=bL (n+2) (b*2^s);refine aJ Tryz.func161 rfl (by kernel_rfl) ?_;rw[Tryz.ntmps161];refine aF fun _ K=>?_;simp only[kd,bC,aa,ag];apply K
 refine aH (mY (S:=⟨(bC (aR a)::bC (aR b)::j16 (j16 (j16 (j16 (j16 (j16 (j4 (jk::jk::[])))))))),Hm []⟩) (aM ?_) ?_)
 ·refine aI [⟨2,_,_,_,hc⟩] [] fun _ K=>?_;simp(disch:=omega) only[kd,bC,aa];apply K
  refine aU rfl ?_;refine aF fun _ K=>?_;simp(disch:=omega) only[kd,aa];apply K
  refine aU rfl ?_;refine aF fun _ K=>?_;simp(disch:=omega) only[kd,aa];apply K
  refine bU rfl (fun h=>by simp at h<;>omega) (fun _=>aO (aG trivial ?_));simp[wk]
 refine aI [⟨6,_,_,_,hz⟩] [] fun _ K=>?_;simp(disch:=omega) only[kd,aa,bC,hn,e1,aT,hx];apply K
 refine aI [⟨2,_,_,_,pO⟩] [] fun _ K=>?_;simp(disch:=omega) only[kd,bC,aa,hn,Nat.reduceLeDiff,reduceCtorEq];apply K
 refine bu.weak ((bX 61 (cJ rfl)).trans (aG (tm:=(bC (aR a)::bC (aR b)::j4 (jk::jk::jk::rN s::bC (bQ (n+2) (b*2^s))::j16 (j16 (j16 (j16 (j16 (j4 (j4 (j4 (jk::[]))))))))))) (l:=[]) trivial (by simp[wk,gO,fj,bs,Hm,fP,gG,tk]))) ?_;generalize hvv:bQ (n+2) (b*2^s)=vv at*
 refine aI [⟨2,_,_,_,sl2⟩] [] fun _ K=>?_;simp only[kd,bC,aa];apply K
 refine aF fun _ K=>?_;simp(disch:=omega) only[kd,aa,hm,hn,e2,aT,e3,lA,ae];apply K
 refine aH (aF fun _ K=>?_);simp(disch:=omega) only[kd,aa,hm,hn,e2,aT];apply K;generalize hAe:a*2^s=A at*
 generalize hVe:b*2^s=V at*
 refine aZ (G:=kK (m+1)) (fun g=>⟨(jk::bC (aR b)::jk::jk::.one (.sl 74 0 0 (m+1))::j4 (.raw (.int .i64 (s:Int))::bC vv::.one (.sl 67 0 0 (n+2+m+1))::.raw (.int .i64 ((g.i:Int)-1))::j16 (j16 (j16 (j16 (j16 (j4 (j4 (jk::jk::jk::[]))))))))),Hm [(67,[⟨56,1,lc fU (bQ (n+2+m+1) (eu A V g.i))⟩]),(74,[⟨56,1,lc fU (bQ (m+1) (kD A V g.i))⟩])]⟩) (fun g=>g.i) ⟨m+1,by omega⟩ ?_ ?_
 ·refine aG ⟨?_,?_,trivial⟩ ?_
  ·simp[st1,bs,Hm]
  ·simp[st2,bs,Hm,wh]
  simp[wk]
 rintro⟨i,hi⟩;simp only;by_cases h0:0<i
 ·obtain⟨k,rfl⟩: ∃k,i=k+1:=⟨i-1,by omega⟩;have hk:k<=m:=by omega
  have ek:((k+1:Nat):Int)-1=(k:Int):=by omega
  have ek2:(k:Int)+((n+2:Nat):Int)+1=((k+n+3:Nat):Int):=by omega
  have ek3:k+n+3-k=n+3:=by omega
  obtain⟨v1,v2,u2,u1,u0,K,nU,nV⟩:=kdh k;have w1:=hrw k hk;have w2:=hrr k hk;rw[show n+2+1=n+3 from rfl]at w1 w2;have w3:=hqs k hk;have gq:=fm (x:=kD A V (k+1)) (show k<m+1 by omega);have hds:=uV (bQ k (eu A V (k+1))) _ (bQ (n+2+m-(k+(n+2))) (eu A V (k+1)/4294967296^(k+(n+2)+1))) _ k n v1 v2 u2 u1 u0 (bL _ _) K (by rw[<- w2,bL];omega);rw[nU,nV]at hds;rw[w1,<- w2]at hds;have qd:=pB (A:=A) (k:=k) hV;have l1:=bL (m+1) (kD A V (k+1));have l2:=bL (n+2+m+1) (eu A V (k+1));obtain⟨R',hR'⟩: ∃R',R'=bQ (n+2+m+1) (eu A V k):=⟨_,rfl⟩;obtain⟨Q',hQ'⟩: ∃Q',Q'=bQ (m+1) (kD A V k):=⟨_,rfl⟩;rw[<- hR']at hds;rw[<- hQ']at w3;clear w1 w2 K nU nV;generalize eu A V (k+1)/4294967296^k/V=d at*
  generalize kD A V (k+1)/4294967296^k%4294967296=od at*
  generalize bQ (m+1) (kD A V (k+1))=Q0 at*
  generalize bQ (n+2+m+1) (eu A V (k+1))=R0 at*
  refine aH (aF fun _ K=>?_);simp(disch:=omega) only[kd,bC,ek];apply K;refine bf rfl (aO ?_);refine aH (aM ?_)
  ((refine AG 11 hds 67 0 [] [] (by simp[wk]) (by omega) (oH rfl) (dZ _ _) (by simp[wk]) (by decide) fun K hK=>?_);simp(disch:=omega) only[kd,aa,hn,aT,ek2,ae,Nat.reduceLeDiff,ek3];apply hK;refine⟨⟨rfl,rfl⟩,by simp,?_⟩;intro K hK;simp(disch:=omega) only[kd,aa,NJ,cwD,ae,gq,dv,w3];apply hK)
  show bu _ _ _ _;refine aN fun _ K=>?_;simp(disch:=omega) only[kd,aa,aT];apply K
  refine⟨⟨k,by omega⟩,by simp only;omega,aG ⟨?_,?_,trivial⟩ ?_⟩
  ·simp[bs,Hm,hR']
  ·simp[bs,Hm,hQ']
  simp[wk]
 have hi0:i=0:=by omega
 subst hi0;rw[en1,en2];generalize bQ (n+2+m+1) (a%b*2^s)=R0 at*
 unfold yS;have l1:=bL (m+1) (a/b);have l2:=bL (n+2+m+1) (a%b);generalize bQ (n+2+m+1) (a%b)=R1 at*
 generalize bQ (m+1) (a/b)=Q1 at*
 generalize a/b=q at*
 generalize a%b=r at*
 refine aH (aF fun _ K=>?_);simp(disch:=omega) only[kd,bC];apply K;refine aU rfl (bK ?_);show bu _ _ _ _
 (refine sk 2 sr 67 0 [] [] (by simp[wk]) (by omega) (oH rfl) (dZ _ _) (by simp[wk]) (by decide) fun K hK=>?_;simp only[kd];apply hK;refine⟨⟨rfl,rfl⟩,by simp,?_⟩;intro K hK;simp only[kd,aa,NJ,cwD,ae];apply hK)
 refine bu.weak ((bX 67 (cJ rfl)).trans ((bX 74 (cJ rfl)).trans (aG (tm:=(j4 (bC Q1::j4 (jk::jk::bC R1::j16 (j16 (j16 (j16 (j16 (j4 (j4 (j4 ([])))))))))))) (l:=[]) trivial (by simp[wk,gO,fj,bs,Hm,fP,gG,List.take_of_length_le,l1,l2])))) ?_;refine aI [⟨1,_,_,_,ht1⟩,⟨3,_,_,_,ht2⟩] [] fun _ K=>?_;simp only[kd,bC,aa,ah];apply K
 (refine aK ⟨.inr rfl,aL rfl ?_ rfl⟩;simp(disch:=omega) only[kd,Tryz.results161])
theorem NO {a b:Int} (hb:b≠0) (ha:0<=a):a/b=fD (decide (b<0)) (a.natAbs/b.natAbs)/\a%b=fD false (a.natAbs%b.natAbs):=by
 have e1:tr a b=fD false (a.natAbs%b.natAbs):=by unfold tr;rw[decide_eq_false (by omega)]
 have e2:tq a b=fD (decide (b<0)) (a.natAbs/b.natAbs):=by unfold tq;rw[decide_eq_false (show ¬a<0 by omega)];by_cases h:b<0<;>simp[h]
 rw[<- e1,<- e2];exact A5 hb (by rw[e1];unfold fD;simp;omega)
theorem KM {a b:Int} (hb:b≠0) (ha:a<0) (h:a.natAbs%b.natAbs=0):a/b=fD (!decide (b<0)) (a.natAbs/b.natAbs)/\a%b=fD false (a.natAbs%b.natAbs):=by
 have e1:tr a b=fD false (a.natAbs%b.natAbs):=by unfold tr;rw[h];unfold fD;simp
 have e2:tq a b=fD (!decide (b<0)) (a.natAbs/b.natAbs):=by unfold tq;rw[decide_eq_true ha];by_cases h:b<0<;>simp[h]
 rw[<- e1,<- e2];exact A5 hb (by rw[e1,h];unfold fD;simp)
theorem NN {a b:Int} (hb:b≠0) (ha:a<0) (h:a.natAbs%b.natAbs≠0):a/b=fD (!decide (b<0)) (a.natAbs/b.natAbs+1)/\a%b=fD false (b.natAbs-a.natAbs%b.natAbs):=by
 have e1:tr a b= -((a.natAbs%b.natAbs:Nat):Int):=by unfold tr;rw[decide_eq_true ha];rfl
 have hlt:a.natAbs%b.natAbs<b.natAbs:=Nat.mod_lt _ (by omega);by_cases hbn:b<0
 ·obtain⟨p1,p2⟩:=C8 (a:=a) hbn (by rw[e1];omega);have e2:tq a b=((a.natAbs/b.natAbs:Nat):Int):=by unfold tq;rw[decide_eq_true ha,decide_eq_true hbn];rfl
  rw[p1,p2,e1,e2,decide_eq_true hbn];generalize a.natAbs/b.natAbs=q at*
  generalize a.natAbs%b.natAbs=r at*
  unfold fD;constructor<;>simp<;>omega
 obtain⟨p1,p2⟩:=C9 (a:=a) (show 0<b by omega) (by rw[e1];omega);have e2:tq a b= -((a.natAbs/b.natAbs:Nat):Int):=by unfold tq;rw[decide_eq_true ha,decide_eq_false hbn];rfl
 rw[p1,p2,e1,e2,decide_eq_false hbn];generalize a.natAbs/b.natAbs=q at*
 generalize a.natAbs%b.natAbs=r at*
 unfold fD;constructor<;>simp<;>omega
def Bd (z:Int):Prop:=Sz z 268435456
theorem EN (a b:Int) (hb0:b≠0) (ha:Bd a) (hb:Bd b):CallC Tryz.prog 157 [tZ a,tZ b] ⟨[],.tup [(true,cZ (a/b)),(true,cZ (a%b)),(false,[.p (.raw (.bool true))])]⟩:=by
 have la:(aR a.natAbs).length<=268435456:=iX ha;have lb:(aR b.natAbs).length<=268435456:=iX hb;have t1:=dX (aR a.natAbs) (by omega);have t2:=dX (aR b.natAbs) (by omega);rw[gJ]at t1 t2;have hl0:(aR b.natAbs).length≠0:=fun h=>hb0 (by have:=fk.1 h;omega)
 have hd:=EO a.natAbs b.natAbs (by omega) la lb;unfold yS at hd;have hr0:=fk (n:=a.natAbs%b.natAbs);have hlt:a.natAbs%b.natAbs<b.natAbs:=Nat.mod_lt _ (by omega);have lq:=oA (show a.natAbs/b.natAbs<=a.natAbs from Nat.div_le_self _ _);have lr:=oA (Nat.le_of_lt hlt);by_cases han:a<0
 ·by_cases hr:a.natAbs%b.natAbs=0
  ·obtain⟨p1,p2⟩:=KM hb0 han hr;have h8:=eh (!decide (b<0)) (a.natAbs/b.natAbs);have h9:=eh false (a.natAbs%b.natAbs);rw[<- p1]at h8;rw[<- p2]at h9;have hl:(aR (a.natAbs%b.natAbs)).length=0:=hr0.2 hr;clear p1 p2;generalize a.natAbs/b.natAbs=q at*
   generalize a.natAbs%b.natAbs=r at*
   generalize a/b=Q at*
   generalize a%b=R at*
   refine aJ Tryz.func157 rfl (by kernel_rfl) ?_;rw[Tryz.ntmps157];refine aF fun _ K=>?_;simp(disch:=omega) only[kd,aa,tZ,ag,ae];apply K
   refine aI [⟨2,_,_,_,t2⟩] [] fun _ K=>?_;simp(disch:=omega) only[kd,bC,aa,ae];apply K
   refine aH (aF fun _ K=>?_);simp(disch:=omega) only[kd,aa];apply K;refine aU rfl (aO ?_);show bu _ _ _ _;refine aI [⟨2,_,_,_,t1⟩,⟨4,_,_,_,hd⟩] [] fun _ K=>?_;simp(disch:=omega) only[kd,bC,aa,ae,ah];apply K
   refine aF fun _ K=>?_;simp(disch:=omega) only[kd,aa,ae];apply K
   refine aH (aM ?_);refine aH (aM ?_);refine aH (aM ?_);refine aH (aH (aF fun _ K=>?_));simp(disch:=omega) only[kd,aa,ae];apply K;refine aU rfl (aO ?_);show bu _ _ _ _;refine aF fun _ K=>?_;simp(disch:=omega) only[kd,aa,ae];apply K
   refine bf rfl (bK ?_);show bu _ _ _ _;refine aF fun _ K=>?_;simp only[kd,aa];apply K
   refine bK ?_;show bu _ _ _ _;refine aI [⟨2,_,_,_,h8⟩,⟨4,_,_,_,h9⟩] [] fun _ K=>?_;simp(disch:=omega) only[kd,bC,tZ,aa,ah,ae];apply K
   (refine aK ⟨.inr rfl,aL rfl ?_ rfl⟩;simp(disch:=omega) only[kd,Tryz.results157,ae,aa,cZ])
  obtain⟨p1,p2⟩:=NN hb0 han hr;have h6:=vL (aR (a.natAbs/b.natAbs)) [1] (aV _) (by intro x hx;simp at hx;omega) (by omega) (by simp);rw[aP,show natV [1]=1 from rfl,show bC [1]= .one (.p (.sl [[.raw (.int .u32 1)]]))from rfl]at h6;have h7:=qn (aR b.natAbs) (aR (a.natAbs%b.natAbs)) (aV _) (aV _) lr (by rw[aP,aP];omega) (by omega);rw[aP,aP]at h7;have h8:=eh (!decide (b<0)) (a.natAbs/b.natAbs+1);have h9:=eh false (b.natAbs-a.natAbs%b.natAbs);rw[<- p1]at h8;rw[<- p2]at h9;have hl:(aR (a.natAbs%b.natAbs)).length≠0:=fun h=>hr (hr0.1 h)
  clear p1 p2;generalize b.natAbs-a.natAbs%b.natAbs=br at*
  generalize a.natAbs/b.natAbs=q at*
  generalize a.natAbs%b.natAbs=r at*
  generalize a/b=Q at*
  generalize a%b=R at*
  refine aJ Tryz.func157 rfl (by kernel_rfl) ?_;rw[Tryz.ntmps157];refine aF fun _ K=>?_;simp(disch:=omega) only[kd,aa,tZ,ag,ae];apply K
  refine aI [⟨2,_,_,_,t2⟩] [] fun _ K=>?_;simp(disch:=omega) only[kd,bC,aa,ae];apply K
  refine aH (aF fun _ K=>?_);simp(disch:=omega) only[kd,aa];apply K;refine aU rfl (aO ?_);show bu _ _ _ _;refine aI [⟨2,_,_,_,t1⟩,⟨4,_,_,_,hd⟩] [] fun _ K=>?_;simp(disch:=omega) only[kd,bC,aa,ae,ah];apply K
  refine aF fun _ K=>?_;simp(disch:=omega) only[kd,aa,ae];apply K
  refine aH (aM ?_);refine aH (aM ?_);refine aH (aM ?_);refine aH (aH (aF fun _ K=>?_));simp(disch:=omega) only[kd,aa,ae];apply K;refine bf rfl (bK ?_);show bu _ _ _ _;refine aI [⟨2,_,_,_,h6⟩] [] fun _ K=>?_;simp(disch:=omega) only[kd,bC,aa,Nat.reduceMul,Nat.reduceLeDiff];apply K
  refine ma [⟨2,_,_,_,h7⟩] [] fun _ K=>?_;simp only[kd,bC,aa];apply K
  show bu _ _ _ _;refine aF fun _ K=>?_;simp only[kd,aa];apply K
  refine bK ?_;show bu _ _ _ _;refine aI [⟨2,_,_,_,h8⟩,⟨4,_,_,_,h9⟩] [] fun _ K=>?_;simp(disch:=omega) only[kd,bC,tZ,aa,ah,ae];apply K
  (refine aK ⟨.inr rfl,aL rfl ?_ rfl⟩;simp(disch:=omega) only[kd,Tryz.results157,ae,aa,cZ])
 obtain⟨p1,p2⟩:=NO hb0 (show 0<=a by omega);have h8:=eh (decide (b<0)) (a.natAbs/b.natAbs);have h9:=eh false (a.natAbs%b.natAbs);rw[<- p1]at h8;rw[<- p2]at h9;clear p1 p2;generalize a.natAbs/b.natAbs=q at*
 generalize a.natAbs%b.natAbs=r at*
 generalize a/b=Q at*
 generalize a%b=R at*
 refine aJ Tryz.func157 rfl (by kernel_rfl) ?_;rw[Tryz.ntmps157];refine aF fun _ K=>?_;simp(disch:=omega) only[kd,aa,tZ,ag,ae];apply K
 refine aI [⟨2,_,_,_,t2⟩] [] fun _ K=>?_;simp(disch:=omega) only[kd,bC,aa,ae];apply K
 refine aH (aF fun _ K=>?_);simp(disch:=omega) only[kd,aa];apply K;refine aU rfl (aO ?_);show bu _ _ _ _;refine aI [⟨2,_,_,_,t1⟩,⟨4,_,_,_,hd⟩] [] fun _ K=>?_;simp(disch:=omega) only[kd,bC,aa,ae,ah];apply K
 refine aF fun _ K=>?_;simp(disch:=omega) only[kd,aa,ae];apply K
 refine aH (aM ?_);refine aH (aM ?_);refine aH (aM ?_);refine aH (aH (aF fun _ K=>?_));simp(disch:=omega) only[kd,aa,ae];apply K;refine aU rfl (aO ?_);show bu _ _ _ _;refine aF fun _ K=>?_;simp(disch:=omega) only[kd,aa,ae];apply K
 refine aU rfl (aO ?_);refine bK ?_;show bu _ _ _ _;refine aI [⟨2,_,_,_,h8⟩,⟨4,_,_,_,h9⟩] [] fun _ K=>?_;simp(disch:=omega) only[kd,bC,tZ,aa,ah,ae];apply K
 (refine aK ⟨.inr rfl,aL rfl ?_ rfl⟩;simp(disch:=omega) only[kd,Tryz.results157,ae,aa,cZ])
structure Qt (M:List (List Int)) where
 i:Nat
 hi:i<=M.length
 ok: ∀r∈M.take i,r.length=(M.headD []).length
theorem I7 (M:List (List Int)):CallC Tryz.prog 126 [bS M] ⟨[],Oo M⟩:=by
 by_cases h1:M.length<1
 ·rw[fE (fun h=>by have:=h.1;omega)];refine aJ Tryz.func126 rfl (by kernel_rfl) ?_;rw[Tryz.ntmps126];refine aF fun _ K=>?_;simp only[kd,aa,bS,ag];apply K
  refine aH (aF fun _ K=>?_);simp(disch:=omega) only[kd,aa,reduceCtorEq];apply K;refine bf rfl ?_;refine aF fun _ K=>?_;simp only[kd,aa];apply K
  (refine aK ⟨.inr rfl,aL rfl ?_ rfl⟩;simp(disch:=omega) only[kd,Tryz.results126])
 by_cases h2:16<M.length
 ·rw[fE (fun h=>by have:=h.2.1;omega)];refine aJ Tryz.func126 rfl (by kernel_rfl) ?_;rw[Tryz.ntmps126];refine aF fun _ K=>?_;simp only[kd,aa,bS,ag];apply K
  refine aH (aF fun _ K=>?_);simp(disch:=omega) only[kd,aa];apply K;refine bf rfl ?_;refine aF fun _ K=>?_;simp only[kd,aa];apply K
  (refine aK ⟨.inr rfl,aL rfl ?_ rfl⟩;simp(disch:=omega) only[kd,Tryz.results126])
 have h0:=ms (M:=M) (by omega);have hmem0:M.headD []∈M:=ax h0;by_cases c1:(M.headD []).length<1
 ·rw[fE (fun h=>by have:=(h.2.2 _ hmem0).1;omega)];refine aJ Tryz.func126 rfl (by kernel_rfl) ?_;rw[Tryz.ntmps126];refine aF fun _ K=>?_;simp only[kd,aa,bS,ag];apply K
  refine aH (aF fun _ K=>?_);simp(disch:=omega) only[kd,aa];apply K;refine aU rfl (aO ?_);show bu _ _ _ _;refine aF fun _ K=>?_;simp(disch:=omega) only[kd,aa,ao,h0,fR];apply K
  refine aH (aF fun _ K=>?_);simp(disch:=omega) only[kd,aa,reduceCtorEq];apply K;refine bf rfl ?_;refine aF fun _ K=>?_;simp only[kd,aa];apply K
  (refine aK ⟨.inr rfl,aL rfl ?_ rfl⟩;simp(disch:=omega) only[kd,Tryz.results126])
 by_cases c2:16<(M.headD []).length
 ·rw[fE (fun h=>by have:=(h.2.2 _ hmem0).2.1;omega)];refine aJ Tryz.func126 rfl (by kernel_rfl) ?_;rw[Tryz.ntmps126];refine aF fun _ K=>?_;simp only[kd,aa,bS,ag];apply K
  refine aH (aF fun _ K=>?_);simp(disch:=omega) only[kd,aa];apply K;refine aU rfl (aO ?_);show bu _ _ _ _;refine aF fun _ K=>?_;simp(disch:=omega) only[kd,aa,ao,h0,fR];apply K
  refine aH (aF fun _ K=>?_);simp(disch:=omega) only[kd,aa];apply K;refine bf rfl ?_;refine aF fun _ K=>?_;simp only[kd,aa];apply K
  (refine aK ⟨.inr rfl,aL rfl ?_ rfl⟩;simp(disch:=omega) only[kd,Tryz.results126])
 refine aJ Tryz.func126 rfl (by kernel_rfl) ?_;rw[Tryz.ntmps126];refine aF fun _ K=>?_;simp only[kd,aa,bS,ag];apply K
 refine aH (aF fun _ K=>?_);simp(disch:=omega) only[kd,aa];apply K;refine aU rfl (aO ?_);show bu _ _ _ _;refine aF fun _ K=>?_;simp(disch:=omega) only[kd,aa,ao,h0,fR];apply K
 refine aH (aF fun _ K=>?_);simp(disch:=omega) only[kd,aa];apply K;refine aU rfl (aO ?_);show bu _ _ _ _;refine aH (aF fun _ K=>?_);simp only[kd,aa];apply K;refine aZ (G:=Qt M) (fun g=>⟨(bS M::j4 (.raw (.int .i64 ((M.headD []).length:Int))::j16 (j4 (bS M::rN M.length::rN g.i::j4 (j4 (jk::jk::jk::[])))))),Hm []⟩) (fun g=>M.length-g.i) ⟨0,by omega,fun r hr=>by simp at hr⟩ ?_ ?_
 ·refine aG trivial ?_;simp[wk]
 rintro⟨i,hi,ok⟩;simp only;by_cases hm:i<M.length
 ·obtain⟨r,hr⟩:=getElem?_of_lt hm;have hmem:r∈M:=ax hr;refine aF fun _ K=>?_;simp(disch:=omega) only[kd,bS];apply K
  refine bM rfl ?_;refine aH (aM ?_);refine aF fun _ K=>?_;simp(disch:=omega) only[kd,aa,hr,fR];apply K
  by_cases c3:r.length=(M.headD []).length
  ·refine aF fun _ K=>?_;simp(disch:=omega) only[kd,aa];apply K
   refine aU rfl (aO ?_);show bu _ _ _ _;refine aN fun _ K=>?_;simp(disch:=omega) only[kd,aT];apply K
   refine⟨⟨i+1,by omega,fun r' hr'=>?_⟩,by simp only;omega,aG trivial ?_⟩
   ·rw[List.take_add_one,hr]at hr';rcases List.mem_append.1 hr' with h|h
    ·exact ok r' h
    have:r'=r:=by simpa using h
    subst this;exact c3
   simp[wk]
  rw[fE (fun h=>by have:=(h.2.2 r hmem).2.2;omega)];refine aF fun _ K=>?_;simp(disch:=omega) only[kd,aa];apply K
  refine bf rfl ?_;refine aF fun _ K=>?_;simp only[kd,aa];apply K
  (refine aK ⟨.inr rfl,aL rfl ?_ rfl⟩;simp(disch:=omega) only[kd,Tryz.results126])
 have hsh:CI M:=⟨by omega,by omega,fun r hr=>by
  have:=ok r (by rw[List.take_of_length_le (by omega)];exact hr);exact⟨by omega,by omega,this⟩⟩
 rw[iS hsh];refine aF fun _ K=>?_;simp(disch:=omega) only[kd,bS];apply K
 refine bV rfl ?_;show bu _ _ _ _;refine aF fun _ K=>?_;simp only[kd,aa];apply K
 (refine aK ⟨.inr rfl,aL rfl ?_ rfl⟩;simp(disch:=omega) only[kd,Tryz.results126])
theorem I9 (M:List (List Int)):CallC Tryz.prog 155 [bJ M] ⟨[],Oo M⟩:=by
 by_cases h1:M.length<1
 ·rw[fE (fun h=>by have:=h.1;omega)];refine aJ Tryz.func155 rfl (by kernel_rfl) ?_;rw[Tryz.ntmps155];refine aF fun _ K=>?_;simp only[kd,aa,bJ,ag];apply K
  refine aH (aF fun _ K=>?_);simp(disch:=omega) only[kd,aa,reduceCtorEq];apply K;refine bf rfl ?_;refine aF fun _ K=>?_;simp only[kd,aa];apply K
  (refine aK ⟨.inr rfl,aL rfl ?_ rfl⟩;simp(disch:=omega) only[kd,Tryz.results155])
 by_cases h2:16<M.length
 ·rw[fE (fun h=>by have:=h.2.1;omega)];refine aJ Tryz.func155 rfl (by kernel_rfl) ?_;rw[Tryz.ntmps155];refine aF fun _ K=>?_;simp only[kd,aa,bJ,ag];apply K
  refine aH (aF fun _ K=>?_);simp(disch:=omega) only[kd,aa];apply K;refine bf rfl ?_;refine aF fun _ K=>?_;simp only[kd,aa];apply K
  (refine aK ⟨.inr rfl,aL rfl ?_ rfl⟩;simp(disch:=omega) only[kd,Tryz.results155])
 have h0:=ms (M:=M) (by omega);have hmem0:M.headD []∈M:=ax h0;by_cases c1:(M.headD []).length<1
 ·rw[fE (fun h=>by have:=(h.2.2 _ hmem0).1;omega)];refine aJ Tryz.func155 rfl (by kernel_rfl) ?_;rw[Tryz.ntmps155];refine aF fun _ K=>?_;simp only[kd,aa,bJ,ag];apply K
  refine aH (aF fun _ K=>?_);simp(disch:=omega) only[kd,aa];apply K;refine aU rfl (aO ?_);show bu _ _ _ _;refine aF fun _ K=>?_;simp(disch:=omega) only[kd,aa,ao,h0,fR];apply K
  refine aH (aF fun _ K=>?_);simp(disch:=omega) only[kd,aa,reduceCtorEq];apply K;refine bf rfl ?_;refine aF fun _ K=>?_;simp only[kd,aa];apply K
  (refine aK ⟨.inr rfl,aL rfl ?_ rfl⟩;simp(disch:=omega) only[kd,Tryz.results155])
 by_cases c2:16<(M.headD []).length
 ·rw[fE (fun h=>by have:=(h.2.2 _ hmem0).2.1;omega)];refine aJ Tryz.func155 rfl (by kernel_rfl) ?_;rw[Tryz.ntmps155];refine aF fun _ K=>?_;simp only[kd,aa,bJ,ag];apply K
  refine aH (aF fun _ K=>?_);simp(disch:=omega) only[kd,aa];apply K;refine aU rfl (aO ?_);show bu _ _ _ _;refine aF fun _ K=>?_;simp(disch:=omega) only[kd,aa,ao,h0,fR];apply K
  refine aH (aF fun _ K=>?_);simp(disch:=omega) only[kd,aa];apply K;refine bf rfl ?_;refine aF fun _ K=>?_;simp only[kd,aa];apply K
  (refine aK ⟨.inr rfl,aL rfl ?_ rfl⟩;simp(disch:=omega) only[kd,Tryz.results155])
 refine aJ Tryz.func155 rfl (by kernel_rfl) ?_;rw[Tryz.ntmps155];refine aF fun _ K=>?_;simp only[kd,aa,bJ,ag];apply K
 refine aH (aF fun _ K=>?_);simp(disch:=omega) only[kd,aa];apply K;refine aU rfl (aO ?_);show bu _ _ _ _;refine aF fun _ K=>?_;simp(disch:=omega) only[kd,aa,ao,h0,fR];apply K
 refine aH (aF fun _ K=>?_);simp(disch:=omega) only[kd,aa];apply K;refine aU rfl (aO ?_);show bu _ _ _ _;refine aH (aF fun _ K=>?_);simp only[kd,aa];apply K;refine aZ (G:=Qt M) (fun g=>⟨(bJ M::j4 (.raw (.int .i64 ((M.headD []).length:Int))::j16 (j4 (bJ M::rN M.length::rN g.i::j4 (j4 (jk::jk::jk::[])))))),Hm []⟩) (fun g=>M.length-g.i) ⟨0,by omega,fun r hr=>by simp at hr⟩ ?_ ?_
 ·refine aG trivial ?_;simp[wk]
 rintro⟨i,hi,ok⟩;simp only;by_cases hm:i<M.length
 ·obtain⟨r,hr⟩:=getElem?_of_lt hm;have hmem:r∈M:=ax hr;refine aF fun _ K=>?_;simp(disch:=omega) only[kd,bJ];apply K
  refine bM rfl ?_;refine aH (aM ?_);refine aF fun _ K=>?_;simp(disch:=omega) only[kd,aa,hr,fR];apply K
  by_cases c3:r.length=(M.headD []).length
  ·refine aF fun _ K=>?_;simp(disch:=omega) only[kd,aa];apply K
   refine aU rfl (aO ?_);show bu _ _ _ _;refine aN fun _ K=>?_;simp(disch:=omega) only[kd,aT];apply K
   refine⟨⟨i+1,by omega,fun r' hr'=>?_⟩,by simp only;omega,aG trivial ?_⟩
   ·rw[List.take_add_one,hr]at hr';rcases List.mem_append.1 hr' with h|h
    ·exact ok r' h
    have:r'=r:=by simpa using h
    subst this;exact c3
   simp[wk]
  rw[fE (fun h=>by have:=(h.2.2 r hmem).2.2;omega)];refine aF fun _ K=>?_;simp(disch:=omega) only[kd,aa];apply K
  refine bf rfl ?_;refine aF fun _ K=>?_;simp only[kd,aa];apply K
  (refine aK ⟨.inr rfl,aL rfl ?_ rfl⟩;simp(disch:=omega) only[kd,Tryz.results155])
 have hsh:CI M:=⟨by omega,by omega,fun r hr=>by
  have:=ok r (by rw[List.take_of_length_le (by omega)];exact hr);exact⟨by omega,by omega,this⟩⟩
 rw[iS hsh];refine aF fun _ K=>?_;simp(disch:=omega) only[kd,bJ];apply K
 refine bV rfl ?_;show bu _ _ _ _;refine aF fun _ K=>?_;simp only[kd,aa];apply K
 (refine aK ⟨.inr rfl,aL rfl ?_ rfl⟩;simp(disch:=omega) only[kd,Tryz.results155])
theorem NW (a b:Int) (ha:Bg a) (hb:Bg b):CallC Tryz.prog 131 [tZ a,tZ b] ⟨[],.raw (.int .i64 (km a b))⟩:=by
 have h1:=rI a ha;have h2:=rI b hb;have t1:=dX (aR a.natAbs) ha.len;have t2:=dX (aR b.natAbs) hb.len;rw[gJ]at t1 t2;have h3:=oq (aR a.natAbs) (aR b.natAbs) (aV _) (aV _) (cd _) (cd _) ha.len hb.len;rw[aP,aP]at h3;have r1:=pN a;have r2:=pN b;have r3:=sY a.natAbs b.natAbs;have r4: -1<=sg a*fB a.natAbs b.natAbs/\sg a*fB a.natAbs b.natAbs<=1:=by
  have:sg a= -1\/sg a=0\/sg a=1:=by omega
  rcases this with h|h|h<;>rw[h]<;>omega
 by_cases hs:sg a=sg b
 ·rw[CW hs];refine aJ Tryz.func131 rfl (by kernel_rfl) ?_;rw[Tryz.ntmps131];refine aF fun _ K=>?_;simp(disch:=omega) only[kd,aa,tZ,ag,ae];apply K
  refine bz bj [⟨1,_,_,_,h1⟩,⟨3,_,_,_,h2⟩] [] (by kernel_rfl) fun _ K=>?_;simp only[kd,tZ,aa,ae,ah];apply K
  refine aH (aM ?_);refine aF fun _ K=>?_;simp(disch:=omega) only[kd,aa];apply K
  refine aU rfl ?_;refine aF fun _ K=>?_;simp(disch:=omega) only[kd,aa];apply K
  refine aU rfl (aO ?_);show bu _ _ _ _;refine bz bj [⟨3,_,_,_,t1⟩,⟨6,_,_,_,t2⟩,⟨7,_,_,_,h3⟩] [] (by kernel_rfl) fun _ K=>?_;simp(disch:=omega) only[kd,bC,aa,ae,ah,aT];apply K
  (refine aK ⟨.inr rfl,aL rfl ?_ rfl⟩;simp(disch:=omega) only[kd,Tryz.results131])
 rw[CX hs];refine aJ Tryz.func131 rfl (by kernel_rfl) ?_;rw[Tryz.ntmps131];refine aF fun _ K=>?_;simp(disch:=omega) only[kd,aa,tZ,ag,ae];apply K
 refine bz bj [⟨1,_,_,_,h1⟩,⟨3,_,_,_,h2⟩] [] (by kernel_rfl) fun _ K=>?_;simp only[kd,tZ,aa,ae,ah];apply K
 refine aH (aM ?_);refine aF fun _ K=>?_;simp only[kd,aa];apply K
 by_cases hlt:sg a<sg b
 ·rw[if_pos hlt];refine bU rfl (fun _=>?_) (fun h=>by simp at h<;>omega);refine aF fun _ K=>?_;simp(disch:=omega) only[kd];apply K
  (refine aK ⟨.inr rfl,aL rfl ?_ rfl⟩;simp(disch:=omega) only[kd,Tryz.results131])
 rw[if_neg hlt];refine bU rfl (fun h=>by simp at h<;>omega) (fun _=>?_);refine aF fun _ K=>?_;simp(disch:=omega) only[kd,aa];apply K
 refine bf rfl ?_;refine aF fun _ K=>?_;simp only[kd];apply K
 (refine aK ⟨.inr rfl,aL rfl ?_ rfl⟩;simp(disch:=omega) only[kd,Tryz.results131])
theorem Ip (n:Nat) (f:FF) (hn1:1<=n) (hn:n<=16):CallC Tryz.prog 143 [bJ (bx n n f)] ⟨[],.tup [(false,[.p (.raw (.int .i64 (n:Int)))]),(false,[.p (.raw (.int .i64 (n:Int)))]),(false,[.p (.raw (.bool true))])]⟩:=by
 have hS:=I9 (bx n n f);rw[iS (pf f hn1 hn hn1 hn),bi,jm f hn1]at hS;refine aJ Tryz.func143 rfl (by kernel_rfl) ?_;rw[Tryz.ntmps143];refine aF fun _ K=>?_;simp only[kd,aa,bJ,ag];apply K
 refine aI [⟨1,_,_,_,hS⟩] [] fun _ K=>?_;simp only[kd,bJ,aa];apply K
 (refine aK ⟨.inr rfl,aL rfl ?_ rfl⟩;simp(disch:=omega) only[kd,Tryz.results143])
theorem we (n:Nat) (f:FF) (hn1:1<=n) (hn:n<=16):CallC Tryz.prog 130 [bJ (bx n n f)] ⟨[],.tup [(false,[.p (.raw (.int .i64 (n:Int)))]),(false,[.p (.raw (.bool true))])]⟩:=by
 have hS:=Ip n f hn1 hn;refine aJ Tryz.func130 rfl (by kernel_rfl) ?_;rw[Tryz.ntmps130];refine aF fun _ K=>?_;simp only[kd,bJ,ag];apply K
 refine aI [⟨1,_,_,_,hS⟩] [] fun _ K=>?_;simp only[kd,bJ,aa];apply K
 refine aF fun _ K=>?_;simp(disch:=omega) only[kd,aa];apply K
 (refine aK ⟨.inr rfl,aL rfl ?_ rfl⟩;simp(disch:=omega) only[kd,Tryz.results130])
theorem KH (a b c d e:Int) (s:Nat) (hs:s<=67174400) (ha:Sz a s) (hb:Sz b s) (hc:Sz c s) (hd:Sz d s) (he:Sz e s) (he0:e≠0):
  CallC Tryz.prog 150 [tZ a,tZ b,tZ c,tZ d,tZ e] ⟨[],tZ ((a*d-b*c)/e)⟩:=by
 have s1:=ha.mul hd;have s2:=hb.mul hc;have s3:=s1.sub s2;have h1:=Hl a d (ha.mono (by omega)) (hd.mono (by omega));have h2:=Hl b c (hb.mono (by omega)) (hc.mono (by omega));have h3:=NX (a*d) (b*c) (s1.mono (by omega)) (s2.mono (by omega));have h4:=EN (a*d-b*c) e he0 (s3.mono (by omega)) (he.mono (by omega));refine aJ Tryz.func150 rfl (by kernel_rfl) ?_;rw[Tryz.ntmps150];refine aF fun _ K=>?_;simp(disch:=omega) only[kd,aa,tZ,ag,ae];apply K
 refine bu.weak (aG (tm:=(j4 (jk::.one (.ptr 5 0 0 0)::.one (.ptr 6 0 0 0)::.one (.ptr 7 0 0 0)::.one (.ptr 8 0 0 0)::.one (.ptr 9 0 0 0)::.one (.ptr 10 0 0 0)::j16 (jk::[])))) (l:=[(5,uO a),(6,uO b),(7,uO c),(8,uO d),(9,uO e),(10,w7)]) ⟨rfl,rfl,rfl,rfl,rfl,rfl,trivial⟩ (by simp[wk])) ?_;refine bz bj [⟨2,_,_,_,h1⟩,⟨5,_,_,_,h2⟩,⟨6,_,_,_,h3⟩,⟨8,_,_,_,h4⟩] [] (by kernel_rfl) fun _ K=>?_;simp(disch:=omega) only[kd,tZ,cZ,aa,ae,ah];apply K
 refine aF fun _ K=>?_;simp(disch:=omega) only[kd,ae,aa];apply K
 (refine aK ⟨.inr rfl,aL rfl ?_ rfl⟩;simp(disch:=omega) only[kd,Tryz.results150,ae,aa,tZ])
abbrev sW (M:List (List Int)):List PV:=[.sl (ls (fR fZ) M)]
theorem Oy {n:Nat} {f:FF} {i j:Nat} (hi:i<n) (hj:j<n) (hn:n<=16) (hf:Bg (f i j)):
  CallC Tryz.prog 147 [.raw (.int .i64 (i:Int)),.raw (.int .i64 (j:Int)),.one (.p (.ptr (sW (bx n n f))))] ⟨[],tZ (f i j)⟩:=by
 have hr:=bD n f hi;have hjr:=aY (f i) hj;have hS:=xn (f i j) hf;refine aJ Tryz.func147 rfl (by kernel_rfl) ?_;rw[Tryz.ntmps147];refine aF fun _ K=>?_;simp(disch:=omega) only[kd,aa,ag];apply K
 refine aI [⟨7,_,_,_,hS⟩] [] fun _ K=>?_;simp(disch:=omega) only[kd,tZ,aa,hr,fR,hjr,fZ];apply K
 (refine aK ⟨.inr rfl,aL rfl ?_ rfl⟩;simp(disch:=omega) only[kd,Tryz.results147,aa,tZ])
theorem Oz (b:Nat) {m:Nat} {g:FF} {last:Int} {i j:Nat} (hi:i+1<m) (hj:j+1<m) (hm:m<=16) (s:Nat) (hs:s<=67174400) (hg: ∀i j,i<m->j<m->Sz (g i j) s) (hl:Sz last s) (hl0:last≠0):
  CallT Tryz.prog b 32 149 [.raw (.int .i64 (i:Int)),.raw (.int .i64 (j:Int)),.one (.p (.ptr (sW (bx m m g)))),.raw (.pointer (some ⟨b,0,none⟩))] (fZ last)
   ⟨[],tZ ((g 0 0*g (i+1) (j+1)-g (i+1) 0*g 0 (j+1))/last)⟩ (fZ last):=by
 have r0:=bD m g (show 0<m by omega);have r1:=bD m g hi;have c00:=aY (g 0) (show 0<m by omega);have c0j:=aY (g 0) hj;have ci0:=aY (g (i+1)) (show 0<m by omega);have cij:=aY (g (i+1)) hj;have e1:((i:Int)+1).toNat=i+1:=by omega
 have e2:((j:Int)+1).toNat=j+1:=by omega
 have hC:=KH (g 0 0) (g (i+1) 0) (g 0 (j+1)) (g (i+1) (j+1)) last s hs (hg _ _ (by omega) (by omega)) (hg _ _ hi (by omega)) (hg _ _ (by omega) hj) (hg _ _ hi hj) hl hl0;refine mj Tryz.func149 rfl (by kernel_rfl) ?_;rw[Tryz.ntmps149];refine Gt 3 900 rfl rfl ?_;refine fc.weak (aG (tm:=(.raw (.int .i64 (i:Int))::rN j::.one (.p (.ptr (sW (bx m m g))))::.one (.ptr 900 0 0 0)::j16 (j16 (jk::[])))) (l:=[(900,uO last)]) ⟨rfl,trivial⟩ (by simp[wk,GC,w5,ag])) ?_;refine be (by kernel_rfl) fun _ K=>?_;simp(disch:=omega) only[kd,aa,ae];apply K
 refine m8 bj [⟨29,_,_,_,hC⟩] [] (by kernel_rfl) (by kernel_rfl) fun _ K=>?_;simp(disch:=omega) only[kd,tZ,aa,ao,r0,fR,c00,fZ,aT,e1,r1,ci0,e2,c0j,cij,ae];apply K
 refine rE ⟨fZ last,rfl,rfl,.inr rfl,rfl,aL rfl ?_ rfl⟩;simp(disch:=omega) only[kd,Tryz.results149,tA,kp,ae,aa,tZ]
end Go.Proofs.YtiollbhgpiiodaaGreatDoor
