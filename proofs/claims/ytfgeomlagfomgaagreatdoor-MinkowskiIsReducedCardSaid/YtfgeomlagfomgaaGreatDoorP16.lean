/-
  Part 17 of a proof (walks and plain facts).
-/
import Derived.Test.YtfgeomlagfomgaaGreatDoorP15
import Derived.Shelf.Small.Bits
import Derived.Ground.NamesProg
import Derived.Test.YtfgeomlagfomgaaGreatDoorProg
set_option linter.all false
set_option maxRecDepth 100000
set_option maxHeartbeats 64000000
open Nat renaming reduceAdd → aa
open Go.Value renaming oneCell' → ab
open List renaming find?_cons → ac
open Go.Proofs.YtfgeomlagfomgaaGreatDoor.CallRes renaming plain → ae
open Nat renaming reduceEqDiff → af
open Nat renaming le_refl → ai
open List renaming replicate → aj
open Nat renaming reduceBEq → ak
open Nat renaming add_zero → az
open List renaming getElem?_eq_none → aC
open List renaming getElem?_map → aH
namespace Go.Proofs.YtfgeomlagfomgaaGreatDoor
open Go.RowKit
theorem J4 {A V k n : Nat} (hV1 : V < 4294967296 ^ (n + 2)) (hV2 : 2147483648 * 4294967296 ^ (n + 1) <= V) : ∃ v1 v2 u2 u1 u0, td (dE (n + 3) (gF A V (k + 1) / 4294967296 ^ k)) (dE (n + 2) V) n v1 v2 u2 u1 u0 /\ natV (dE (n + 3) (gF A V (k + 1) / 4294967296 ^ k)) = gF A V (k + 1) / 4294967296 ^ k /\ natV (dE (n + 2) V) = V := by
  have hp : 0 < 4294967296 ^ (n + 1) := Nat.pow_pos (by omega)
  have hV : 0 < V := by omega
  have hr := Fx (A := A) (k := k) hV
  have hlt : gF A V (k + 1) / 4294967296 ^ k < 4294967296 ^ (n + 3) := by
    calc _ < V * 4294967296 := hr
      _ <= 4294967296 ^ (n + 2) * 4294967296 := Nat.mul_le_mul_right _ (Nat.le_of_lt hV1)
      _ = _ := (Nat.pow_succ ..).symm
  refine ⟨_, _, _, _, _, ⟨mI _ _, mI _ _, dA _ _, dA _ _, gY (by omega), gY (by omega), gY (by omega), gY (by omega), gY (by omega), ?_, ?_⟩, il hlt, il hV1⟩
  · have h1 : V / 4294967296 ^ (n + 1) < 4294967296 := by
      rw [Nat.div_lt_iff_lt_mul hp]
      have : 4294967296 ^ (n + 2) = 4294967296 ^ (n + 1) * 4294967296 := Nat.pow_succ ..
      omega
    rw [Nat.mod_eq_of_lt h1, Nat.le_div_iff_mul_le hp]
    exact hV2
  · rw [il hlt, il hV1]; exact hr
theorem C8 {a b s n m:Nat} (ha:a<4294967296^(n+2+m)) (hb:4294967296^(n+1)<=b):gF (a*2^s) (b*2^s) (m+1)=a*2^s/\lD (a*2^s) (b*2^s) (m+1)=0:=by
 have h1:a*2^s<b*2^s*4294967296^(m+1):=by
  have h2:4294967296^(n+2+m)<=b*4294967296^(m+1):=by
   have e:4294967296^(n+2+m)=4294967296^(n+1)*4294967296^(m+1):=by rw[<- Nat.pow_add];congr 1;omega
   rw[e]
   exact Nat.mul_le_mul_right _ hb
  rw[Nat.mul_right_comm]
  exact Nat.mul_lt_mul_of_pos_right (Nat.lt_of_lt_of_le ha h2) (Nat.two_pow_pos s)
 unfold gF lD
 rw[Nat.mod_eq_of_lt h1,Nat.div_eq_of_lt h1,Nat.zero_mul]
 exact⟨rfl,rfl⟩
theorem Is {a b s:Nat}:gF (a*2^s) (b*2^s) 0=a%b*2^s/\lD (a*2^s) (b*2^s) 0=a/b:=by
 unfold gF lD
 rw[Nat.pow_zero,Nat.mul_one,Nat.mul_one,Nat.mul_mod_mul_right,Nat.mul_div_mul_right _ _ (Nat.two_pow_pos s)]
 exact⟨rfl,rfl⟩
theorem Kl {A V k m:Nat} (hA:A<V*4294967296^m) (hk:k<=m):lD A V k<4294967296^m:=by
 have hp:0<4294967296^k:=Nat.pow_pos (by omega)
 unfold lD
 have h1:A/(V*4294967296^k)<4294967296^(m-k):=by
  rw[<- Nat.div_div_eq_div_mul]
  apply Nat.div_lt_of_lt_mul
  apply Nat.div_lt_of_lt_mul
  have e:4294967296^m=4294967296^k*4294967296^(m-k):=by rw[<- Nat.pow_add];congr 1;omega
  rw[e]at hA
  exact hA
 have e:4294967296^m=4294967296^(m-k)*4294967296^k:=by rw[<- Nat.pow_add];congr 1;omega
 rw[e]
 exact Nat.mul_lt_mul_of_pos_right h1 hp
theorem yp {b n:Nat} (h:(bT b).length=n+1): ∃x,(bT b)[n]?=some x/\x≠0/\x<4294967296/\4294967296^n<=b:=by
 obtain⟨x,hx⟩: ∃x,(bT b)[n]?=some x:=⟨(bT b)[n],by simp[h]⟩
 have hc:=dV b
 unfold nN at hc
 rw[List.getLast?_eq_getElem?,h,Nat.add_sub_cancel,hx]at hc
 have hx0:x≠0:=fun e=>hc (by rw[e])
 have h1:=dq hx
 rw[List.take_of_length_le (by omega),bN]at h1
 refine⟨x,hx,hx0,dY (ce b) hx,?_⟩
 rw[h1]
 have:1*4294967296^n<=x*4294967296^n:=Nat.mul_le_mul_right _ (by omega)
 omega
theorem CH {b:Nat} (h:(bT b).length=1):(bT b)[0]?=some b/\b<4294967296:=by
 obtain⟨x,hx,_,hx',_⟩:=yp (n:=0) h
 have h1:=dq hx
 rw[List.take_of_length_le (by omega),bN]at h1
 simp[natV]at h1
 subst h1
 exact⟨hx,hx'⟩
theorem xC (a:Nat):a<4294967296^(bT a).length:=by
 have:=ik (ce a)
 rwa[bN]at this
theorem C1 {n m x:Nat} (h:n<=m):(dE m x).take n=dE n x:=by
 obtain⟨d,rfl⟩: ∃d,m=n+d:=⟨m-n,by omega⟩
 rw[mO,List.take_left' (dA _ _)]
end Go.Proofs.YtfgeomlagfomgaaGreatDoor
namespace Go.Proofs
open Go.Shelf
def Tryz.lays133_ren:Go.Shelf.Ren:=⟨fun|133=>178|128=>182|n=>n,fun|51=>79|3=>3|4=>4|46=>80|5=>5|9=>9|n=>n,fun|n=>n⟩
theorem Tryz.lays133:Go.Proofs.Lays.n133 Tryz.prog Tryz.lays133_ren:={
 mixed:=by kernel_rfl
 f128:=Tryz.func182.trans (congrArg some (by kernel_rfl))
 f133:=Tryz.func178.trans (congrArg some (by kernel_rfl))
 t3:=Tryz.underlying3
 a3:=Tryz.isAgg3
 z3:=Tryz.sizeOf3
 v3:=Tryz.zeroValue3
 t4:=Tryz.underlying4
 a4:=Tryz.isAgg4
 z4:=Tryz.sizeOf4
 v4:=Tryz.zeroValue4
 t5:=Tryz.underlying5
 a5:=Tryz.isAgg5
 z5:=Tryz.sizeOf5
 v5:=Tryz.zeroValue5
 t9:=Tryz.underlying9
 a9:=Tryz.isAgg9
 z9:=Tryz.sizeOf9
 v9:=Tryz.zeroValue9
 t46:=Tryz.underlying80
 a46:=Tryz.isAgg80
 z46:=Tryz.sizeOf80
 v46:=Tryz.zeroValue80
 t51:=Tryz.underlying79
 a51:=Tryz.isAgg79
 z51:=Tryz.sizeOf79
 v51:=Tryz.zeroValue79}
end Go.Proofs
namespace Go.Proofs.YtfgeomlagfomgaaGreatDoor
open Go.RowKit
theorem Lc (x:Nat) (h:x<4294967296):CallC Tryz.prog 178 [.raw (.int .u32 (x:Int))] ⟨[],.raw (.int .i64 (lz x:Int))⟩:=by
 refine i6 (by kernel_rfl) fun X w vs hX hvs ha=>?_
 obtain⟨v0,e0,r0⟩:=my ha (j:=0) rfl
 obtain⟨rfl,_⟩:=dQ (ρ:=fun _ _=>none) (H:=fun _=>[]) r0
 obtain rfl:vs= #[.int .u32 (x:Int)]:=by
  apply Array.ext_getElem?
  intro j
  match j with
  |0=>exact e0
  |j+1=>rw[Array.getElem?_eq_none (by simp at hvs;omega)];rfl
 have hb:=Lib.bitLen_le x 32 (by omega) (by simpa using h)
 have e:(32-(Lib.bitLen (x:Int).toNat:Int))=(lz x:Int):=by rw[Int.toNat_natCast];unfold lz;omega
 have:=Any.bits_LeadingZeros32 Tryz.lays133 (x:Int) w (by omega) (by omega)
 rw[e]at this
 exact this.mono fun e w' ⟨h1,h2⟩=>⟨_,h1,fun ρ H Y=>fA rfl,by rw[h2];exact Ext.refl _⟩
theorem Ci {P:Program} {f:FuncId} {args:List TV} {l:List Nat} (hl:0<l.length) (hc:callable P f=true) (h: ∀(X:Nat->Prop) (w:World) (vs:Array Value),(∀b,X b->b<w.heap.size)->vs.size=args.length->
  (∀(j:Nat) t,args[j]?=some t-> ∃v:Value,vs[j]?=some v/\t.rel (fun _ _=>none) (fun _=>[]) X w v)->Calls P f vs w fun e w'=> ∃v,e= .returned v/\w'.ownsRow w.heap.size 79 1 v l.length ((l.map fun n:Nat=>(n:Int)).map (Value.int .u32))/\Ext w w'):CallC P f args ⟨[⟨79,1,lc fU l⟩],.one (.sl 0 0 0 l.length)⟩:=
 ⟨hc,fun X w vs hX hvs ha=>(h X w vs hX hvs ha).mono fun e w' ⟨v,h1,⟨_,h2⟩,h3⟩=>by
  rcases h2 with⟨_,hn⟩|⟨g,cap,cur,hv,hg,hh,hnc,hm2,hs,ht⟩
  ·omega
  have hr:rho1 g cap 0 0=some (g,cap):=by simp[rho1]
  have hcell: ∀(i:Nat) z,l[i]?=some z->cur[i]?=some (.int .u32 (z:Int)):=fun i z hz=>by
   have h3:((l.map fun n:Nat=>(n:Int)).map (Value.int .u32))[i]?=some (.int .u32 (z:Int)):=by rw[aH,aH,hz];rfl
   rw[<- ht,List.getElem?_take]at h3
   split at h3
   ·simpa using h3
   cases h3
  refine⟨v,h1,rho1 g cap,⟨xk h3,fun a r o ho=>?_,fun a r a' r' o o' b c c' ho ho' _ _=>?_,fun a r o b c ho hb=>?_,fun b hb=>Nat.lt_of_lt_of_le (hX b hb) h3.size,fun a r o ho=>?_⟩,?_⟩
  ·obtain⟨rfl,rfl,rfl⟩:=qD ho
   refine⟨fun e he=>?_,Nat.zero_lt_one,?_⟩
   ·obtain⟨z,_,rfl⟩:=List.mem_map.1 he
    rfl
   rw[hr]
   refine⟨cur,hh,hs,by rw[gE];exact hnc,hm2,fun i e j x he hx=>?_⟩
   simp only at he
   rw[dp]at he
   obtain⟨z,hz,rfl⟩:=Option.map_eq_some_iff.1 he
   cases j with
   |succ j=>simp[fU]at hx
   |zero=>
    simp[fU]at hx
    subst hx
    exact⟨.int .u32 (z:Int),by rw[Nat.mul_one,az];exact hcell i z hz,rfl,ee.raw _ rfl⟩
  ·obtain⟨rfl,rfl,_⟩:=qD ho
   obtain⟨rfl,rfl,_⟩:=qD ho'
   exact⟨rfl,rfl⟩
  ·obtain⟨rfl,rfl,_⟩:=qD ho
   rw[hr]at hb
   injection hb with hb
   injection hb with hb _
   subst hb
   exact⟨.inl hg,fun hX'=>absurd (hX _ hX') (by omega)⟩
  ·obtain⟨rfl,rfl,rfl⟩:=qD ho
   exact fg (fc _ _)
  exact⟨_,rfl,by simp[gE],.inr ⟨g,cap,cap,hr,by rw[hv];simp,hnc,fun _=>rfl⟩⟩⟩
theorem CA (l:List Nat) (h0:0<l.length) (hl:l.length<=1073741824):CallC Tryz.prog 162 [de l] ⟨[⟨79,1,lc fU l⟩],.one (.sl 0 0 0 l.length)⟩:=by
 refine Ci h0 (by kernel_rfl) fun X w vs hX hvs ha=>?_
 obtain⟨v0,e0,r0⟩:=my ha (j:=0) rfl
 obtain⟨A,c,rfl,hc,hR⟩:=Bs r0
 obtain rfl:vs= #[.slice A l.length c]:=by
  apply Array.ext_getElem?
  intro j
  match j with
  |0=>exact e0
  |j+1=>rw[Array.getElem?_eq_none (by simp at hvs;omega)];rfl
 have hlen:(l.map fun n:Nat=>(n:Int)).length=l.length:=List.length_map _
 have:=rz A c (l.map fun n:Nat=>(n:Int)) w hR (by rw[hlen];omega)
 rw[hlen]at this
 exact this
theorem tX: ∀x:List Int,ms x x=0
 |[]=>rfl
 |a::x=>by simp[ms,tX x]
theorem Az: ∀{x y:List Int},ms x y=0->x=y
 |[],[],_=>rfl
 |[],_::_,h=>by simp[ms]at h
 |_::_,[],h=>by simp[ms]at h
 |a::x,b::y,h=>by
  unfold ms at h
  split at h
  ·omega
  split at h
  ·omega
  rw[Az h,show a=b from by omega]
theorem FJ (A B:Option Addr) (c d:Nat) (a b:List (List Int)) (w:World) (ha:pB .i64 w A a) (hb:pB .i64 w B b) (la:a.length<=9223372036854775807) (lb:b.length<=9223372036854775807):
  Calls Tryz.prog 28 #[.slice A a.length c,.slice B b.length d] w fun e w'=>e= .returned (.bool (decide (a=b)))/\Ext w w':=by
 have HA:=Lib.hid ha
 have HB:=Lib.hid hb
 clear ha hb
 by_cases hl:a.length=b.length
 ·have hlb:((a.length:Int) !=(b.length:Int))=false:=by simp[hl]
  have HL:=Lib.hid hl
  have hle:a.length<=b.length:=by omega
  clear hl
  go_enter Tryz.func28,Tryz.ntmps28
  go_wp2_with fail
  clear hlb
  go_loopw [13,5] (fun i _ wr=> ∃k:Nat,k<=a.length/\i= .int .i64 k/\Hid (Ext w wr)/\Hid (∀j,j<k->a[j]?=b[j]?)) (fun i _ _=>a.length-(intOf i).toNat)
  case atStart=>exact⟨0,Nat.zero_le _,rfl,Lib.hid (Ext.refl _),Lib.hid (fun j h=>by omega)⟩
  case round=>
   obtain⟨k,hk,rfl,HE,HQ⟩:=hrel
   by_cases hlt:k<a.length
   ·obtain⟨x,hx⟩:=getElem?_of_lt hlt
    obtain⟨y,hy⟩:=getElem?_of_lt (l:=b) (k:=k) (by omega)
    obtain⟨b1,o1,B1,c1,rfl,hc1,hcl1,hlx,hr1⟩:=(HA.out.ext HE.out.drew).at_ hx
    obtain⟨b2,o2,B2,c2,rfl,hc2,hcl2,hly,hr2⟩:=(HB.out.ext HE.out.drew).at_ hy
    have HX:=Lib.hid hx
    have HY:=Lib.hid hy
    have HR1:=Lib.hid hr1
    have HR2:=Lib.hid hr2
    have HE1:=Lib.hid HE.out.drew
    have hkb:(k:Int)<(b.length:Int):=by omega
    clear hx hy hr1 hr2 HE
    go_wp2_with fail
    refine pj 8 (by kernel_rfl) (by kernel_rfl) ?_
    simp only[List.take_succ_cons,List.take_zero,List.drop_succ_cons,List.drop_zero]
    generalize wr.drew=w3 at*
    iterate 8 still_step
    refine wpStill_nil ?_
    have HC:=Lib.hid (sD B1 B2 c1 c2 x y w3 HR1.out HR2.out hlx hly)
    clear hc1 hc2
    by_cases h0:ms x y=0
    ·have h0':(ms x y !=0)=false:=by simp[h0]
     have H0:=Lib.hid h0
     clear h0
     go_wp2_with fail
     refine HC.out.mono ?_
     rintro e w4 ⟨rfl,n,rfl⟩
     go_wp2_with fail
     go_roundw
     case rel=>
      refine⟨k+1,by omega,by go_num,Lib.hid (HE1.out.drewN n),Lib.hid (fun j hj=>?_)⟩
      by_cases e:j=k
      ·subst e;rw[HX.out,HY.out,Az H0.out]
      exact HQ.out j (by omega)
     case measure=>simp[intOf];omega
    have h0':(ms x y !=0)=true:=by simp[h0]
    go_wp2_with fail
    refine HC.out.mono ?_
    rintro e w4 ⟨rfl,n,rfl⟩
    go_wp2_with fail
    go_ret
    refine⟨f8 (fun h=>?_),HE1.out.drewN n⟩
    subst h
    have h1:=HX.out
    rw[HY.out]at h1
    cases h1
    exact h0 (tX _)
   go_wp2_with fail
   go_ret
   refine⟨wa ?_,HE.out⟩
   apply List.ext_getElem?
   intro j
   rcases Nat.lt_or_ge j a.length with h|h
   ·exact HQ.out j (by omega)
   rw[aC h,aC (by have:=HL.out;omega)]
 have hlb:((a.length:Int) !=(b.length:Int))=true:=by simp;omega
 go_enter Tryz.func28,Tryz.ntmps28
 go_wp2_with fail
 go_ret
 exact⟨f8 (fun h=>hl (by rw[h])),Ext.refl _⟩
section
theorem d8 (c:Int) (F:Nat->Int): ∀k,dK (fun p=>c*F p) k=c*dK F k
 |0=>by simp[dK]
 |k+1=>by rw[dK,dK,d8 c F k];grind
theorem mU (c:Int) (F:Nat->Int) (k:Nat):dK (fun p=>F p*c) k=dK F k*c:=by
 rw[Int.mul_comm,<- d8];exact bZ k fun p _=>Int.mul_comm _ _
theorem lE (F:Nat->Nat->Int) (m:Nat): ∀n,dK (fun i=>dK (F i) m) n=dK (fun j=>dK (fun i=>F i j) n) m
 |0=>by simp only[dK];exact(fQ m).symm
 |n+1=>by rw[dK,lE F m n,<- kA];rfl
theorem wq {F:Nat->Int} {B:Int}: ∀k,(∀p,p<k-> -B<=F p/\F p<=B)-> -((k:Int)*B)<=dK F k/\dK F k<=(k:Int)*B
 |0,_=>by simp[dK]
 |k+1,h=>by
  have ih:=wq k fun p hp=>h p (by omega)
  have h1:=h k (by omega)
  have e:(((k+1:Nat):Int))*B=(k:Int)*B+B:=by rw[Int.natCast_add,Int.add_mul];simp
  rw[dK,e];omega
def BF (n:Nat) (f:Nat->Nat->Int) (x y:Nat->Int):Int:=dK (fun i=>x i*dK (fun j=>f i j*y j) n) n
variable {n:Nat}
theorem iy {f f':Nat->Nat->Int} {x x' y y':Nat->Int} (hf: ∀i j,i<n->j<n->f i j=f' i j) (hx: ∀i,i<n->x i=x' i) (hy: ∀i,i<n->y i=y' i):BF n f x y=BF n f' x' y':=
 bZ n fun i hi=>by rw[hx i hi,bZ n fun j hj=>by rw[hf i j hi hj,hy j hj]]
theorem jc (f:Nat->Nat->Int) (x x' y:Nat->Int) (c:Int):BF n f (fun i=>x i+c*x' i) y=BF n f x y+c*BF n f x' y:=by
 unfold BF
 rw[<- d8,<- kA];exact bZ n fun i _=>by grind
theorem iE (f:Nat->Nat->Int) (x y y':Nat->Int) (c:Int):BF n f x (fun i=>y i+c*y' i)=BF n f x y+c*BF n f x y':=by
 unfold BF
 rw[<- d8,<- kA]
 refine bZ n fun i _=>?_
 rw[bZ n (G:=fun j=>f i j*y j+c*(f i j*y' j)) (fun j _=>by grind),kA,d8];grind
theorem Al (f g:Nat->Nat->Int) (x y:Nat->Int) (a b:Int):BF n (fun i j=>a*f i j+b*g i j) x y=a*BF n f x y+b*BF n g x y:=by
 unfold BF
 rw[<- d8,<- d8,<- kA]
 refine bZ n fun i _=>?_
 rw[bZ n (G:=fun j=>a*(f i j*y j)+b*(g i j*y j)) (fun j _=>by grind),kA,d8,d8];grind
theorem GA (u v x y:Nat->Int):BF n (fun i j=>u i*v j) x y=dK (fun i=>x i*u i) n*dK (fun j=>v j*y j) n:=by
 unfold BF
 rw[<- mU]
 refine bZ n fun i _=>?_
 rw[bZ n (G:=fun j=>u i*(v j*y j)) (fun j _=>by grind),d8];grind
theorem nM {f:Nat->Nat->Int} (hs:SymF f n) (x y:Nat->Int):BF n f x y=BF n f y x:=by
 unfold BF
 rw[bZ n (G:=fun i=>dK (fun j=>x i*f i j*y j) n) (fun i _=>by rw[<- d8];exact bZ n fun j _=>by grind),
  bZ n (F:=fun i=>y i*_) (G:=fun i=>dK (fun j=>x j*f j i*y i) n) (fun i hi=>by rw[<- d8];exact bZ n fun j hj=>by rw[hs i hi j hj];grind)]
 exact lE _ _ _
theorem qc {f:Nat->Nat->Int} (hs:SymF f n) (hp: ∀k,k<n->0<dk f (k+1)) (x:Nat->Int): ∀m k,m+k=n->0<=BF n (bk f k) x x/\(BF n (bk f k) x x=0-> ∀i,k<=i->i<n->x i=0)
 |0,k,h=>by
  obtain rfl:k=n:=by omega
  refine⟨?_,fun _ i h1 h2=>by omega⟩
  have:BF k (bk f k) x x=0:=by
   unfold BF
   rw[bZ k (G:=fun _=>0) (fun i hi=>by rw[bZ k (G:=fun _=>0) (fun j _=>by rw[lP f hi,Int.zero_mul]),fQ,Int.mul_zero]),fQ]
  omega
 |m+1,k,h=>by
  obtain⟨h1,h2⟩:=qc hs hp x m (k+1) (by omega)
  have hne: ∀t,t<n->dk f (t+1)≠0:=fun t ht=>by have:=hp t ht;omega
  have hd:0<dk f k:=mB fun t ht=>hp t (by omega)
  have hd1:=hp k (by omega)
  have key:dk f k*BF n (bk f (k+1)) x x=dk f (k+1)*BF n (bk f k) x x-dK (fun j=>bk f k k j*x j) n*dK (fun j=>bk f k k j*x j) n:=by
   have e0:dk f k*BF n (bk f (k+1)) x x=BF n (fun i j=>dk f k*bk f (k+1) i j+0*bk f k i j) x x:=by rw[Al];omega
   rw[e0,iy (f':=fun i j=>dk f (k+1)*bk f k i j+(-1)*(bk f k k i*bk f k k j)) (fun i j hi hj=>by
    have:=sylv f k (fun t ht=>hne t (by omega)) i j
    have e:=mA hs k (by omega) (fun t ht=>hne t (by omega)) i k hi (by omega)
    rw[e]at this
    omega) (fun _ _=>rfl) (fun _ _=>rfl),Al,GA,bZ n (F:=fun i=>x i*bk f k k i) (G:=fun j=>bk f k k j*x j) (fun i _=>Int.mul_comm _ _)]
   omega
  have hsq:0<=dK (fun j=>bk f k k j*x j) n*dK (fun j=>bk f k k j*x j) n:=by
   rcases Int.le_total 0 (dK (fun j=>bk f k k j*x j) n)with h|h
   ·exact Int.mul_nonneg h h
   exact Int.mul_nonneg_of_nonpos_of_nonpos h h
  have hpr:=Int.mul_nonneg (Int.le_of_lt hd) h1
  have hge:0<=dk f (k+1)*BF n (bk f k) x x:=by omega
  refine⟨?_,fun hz=>?_⟩
  ·rcases Int.lt_or_le (BF n (bk f k) x x) 0 with hl|hl
   ·have:=Int.mul_neg_of_pos_of_neg hd1 hl
    omega
   exact hl
  rw[hz,Int.mul_zero]at key
  have z1:dk f k*BF n (bk f (k+1)) x x=0:=by omega
  have z2:dK (fun j=>bk f k k j*x j) n*dK (fun j=>bk f k k j*x j) n=0:=by omega
  have z3:BF n (bk f (k+1)) x x=0:=by
   rcases Int.mul_eq_zero.1 z1 with h|h
   ·omega
   exact h
  have z4:dK (fun j=>bk f k k j*x j) n=0:=by
   rcases Int.mul_eq_zero.1 z2 with h|h<;>exact h
  have hx:=h2 z3
  rw[jg (a:=k) (by omega) (fun p hpn hpk=>by
   by_cases hlt:p<k
   ·rw[yV hs hne (by omega) hlt (by omega),Int.zero_mul]
   rw[hx p (by omega) hpn,Int.mul_zero])]at z4
  rw[dS]at hd1
  intro i hi hin
  by_cases e:i=k
  ·subst e
   rcases Int.mul_eq_zero.1 z4 with h|h
   ·omega
   exact h
  exact hx i (by omega) hin
theorem Dy {f:Nat->Nat->Int} (hr:iY f n) (x:Nat->Int):0<=BF n f x x/\(BF n f x x=0↔ ∀i,i<n->x i=0):=by
 have h:=qc hr.1 hr.2.1 x n 0 rfl
 have e:BF n (bk f 0) x x=BF n f x x:=iy (fun i j _ _=>fX f i j) (fun _ _=>rfl) (fun _ _=>rfl)
 rw[e]at h
 refine⟨h.1,fun hz i hi=>h.2 hz i (by omega) hi,fun h0=>?_⟩
 unfold BF
 rw[bZ n (G:=fun _=>0) (fun i hi=>by rw[h0 i hi,Int.zero_mul]),fQ]
theorem schwarz {f:Nat->Nat->Int} (hr:iY f n) (x y:Nat->Int):BF n f x y*BF n f x y<=BF n f x x*BF n f y y:=by
 have hs:=nM hr.1 x y
 obtain⟨h1,h2⟩:=Dy hr y
 obtain⟨q,hq⟩: ∃q,q=BF n f x y:=⟨_,rfl⟩
 obtain⟨o,ho⟩: ∃o,o=BF n f y y:=⟨_,rfl⟩
 obtain⟨N,hN⟩: ∃N,N=BF n f x x:=⟨_,rfl⟩
 have hpos:=(Dy hr (fun i=>(0+o*x i)+(-q)*y i)).1
 have e:BF n f (fun i=>(0+o*x i)+(-q)*y i) (fun i=>(0+o*x i)+(-q)*y i)=o*(o*N-q*q):=by
  have ez: ∀u,BF n f (fun _=>0) u=0:=fun u=>by
   unfold BF;rw[bZ n (G:=fun _=>0) (fun i _=>Int.zero_mul _),fQ]
  have ez': ∀u,BF n f u (fun _=>0)=0:=fun u=>by rw[nM hr.1,ez]
  rw[jc f (fun i=>0+o*x i) y,iE f (fun i=>0+o*x i) (fun i=>0+o*x i) y,iE f y (fun i=>0+o*x i) y,
   jc f (fun _=>0) x,jc f (fun _=>0) x,iE f x (fun _=>0) x,iE f y (fun _=>0) x,ez,ez,ez',ez',<- hs,<- hq,<- ho,<- hN]
  grind
 rw[e]at hpos
 rw[<- hq,<- ho,<- hN]
 rcases Int.lt_or_le 0 o with h|h
 ·have:0<=o*N-q*q:=by
   rcases Int.lt_or_le (o*N-q*q) 0 with hl|hl
   ·have:=Int.mul_neg_of_pos_of_neg h hl
    omega
   exact hl
  have:o*N=N*o:=Int.mul_comm _ _
  omega
 have o0:o=0:=by omega
 have hy:=h2.1 (ho▸o0)
 have q0:q=0:=by
  rw[hq,hs];unfold BF
  rw[bZ n (G:=fun _=>0) (fun i hi=>by rw[hy i hi,Int.zero_mul]),fQ]
 rw[o0,q0];omega
end
theorem o7 (M:List (List Int)):CallC Tryz.prog 45 [dx M] ⟨[],.raw (.bool (dO M))⟩:=by
 refine i6 (by kernel_rfl) fun X w vs hX hvs ha=>?_
 obtain⟨v0,e0,r0⟩:=my ha (j:=0) rfl
 obtain⟨A,c,rfl,hc,hl,hR⟩:=nC r0
 obtain rfl:vs= #[.slice A M.length c]:=by
  apply Array.ext_getElem?
  intro j
  match j with
  |0=>exact e0
  |j+1=>rw[Array.getElem?_eq_none (by simp at hvs;omega)];rfl
 refine(kK A c M w hR hl hc).mono fun e w' ⟨h1,h2⟩=>?_
 exact⟨_,h1,fun _ _ _=>sE _,h2⟩
theorem If (n:Int) (x:List Int):CallC Tryz.prog 95 [.raw (.int .i64 n),mp x] ⟨[],.raw (.bool (FitB n x))⟩:=by
 refine i6 (by kernel_rfl) fun X w vs hX hvs ha=>?_
 obtain⟨v0,e0,r0⟩:=my ha (j:=0) rfl
 obtain⟨v1,e1,r1⟩:=my ha (j:=1) rfl
 obtain rfl:=qT r0
 obtain⟨B,d,rfl,hd,hlx,hx⟩:=kx r1
 obtain rfl:vs= #[.int .i64 n,.slice B x.length d]:=by
  apply Array.ext_getElem?
  intro j
  match j with
  |0=>exact e0
  |1=>exact e1
  |j+2=>rw[Array.getElem?_eq_none (by simp at hvs;omega)];rfl
 refine(oM n B d x w hx hlx).mono fun e w' ⟨h1,h2⟩=>?_
 subst h2
 exact⟨_,h1,fun _ _ _=>sE _,Ext.refl _⟩
theorem Kp (a b:List (List Int)):CallC Tryz.prog 28 [dx a,dx b] ⟨[],.raw (.bool (decide (a=b)))⟩:=by
 refine i6 (by kernel_rfl) fun X w vs hX hvs ha=>?_
 obtain⟨v0,e0,r0⟩:=my ha (j:=0) rfl
 obtain⟨v1,e1,r1⟩:=my ha (j:=1) rfl
 obtain⟨A,c,rfl,hc,hl,hA⟩:=nC r0
 obtain⟨B,d,rfl,hd,hlb,hB⟩:=nC r1
 obtain rfl:vs= #[.slice A a.length c,.slice B b.length d]:=by
  apply Array.ext_getElem?
  intro j
  match j with
  |0=>exact e0
  |1=>exact e1
  |j+2=>rw[Array.getElem?_eq_none (by simp at hvs;omega)];rfl
 refine(FJ A B c d a b w hA hB hl hlb).mono fun e w' ⟨h1,h2⟩=>?_
 exact⟨_,h1,fun _ _ _=>sE _,h2⟩
theorem Fv {X:Nat->Prop} {w:World} {l:List Int} {b off c:Nat} (hX: ¬X b) (hb:b<w.heap.size) (hl:l.length<=c) (hm:l.length<=9223372036854775807) (h:RdI .i64 w (some ⟨b,off,none⟩) l):ee X w (.sl (ls fI l)) (.slice (some ⟨b,off,none⟩) l.length c):=by
 have hc: ∀(i:Nat) (z:Int),l[i]?=some z->w.cell? ⟨b,off+i,none⟩=some (.int .i64 z):=fun i z hz=>by
  cases l with
  |nil=>simp at hz
  |cons z0 l0=>
   obtain⟨b',off',h1,hc⟩:=h (by simp)
   injection h1 with h1
   injection h1 with h1 h2
   subst h1 h2
   exact hc i _ (by rw[aH,hz];rfl)
 have:=ee.sl (X:=X) (w:=w) b off 1 c (ls fI l) (fun i _=> .int .i64 (l.getD i 0)) hX hb (fun e he=>by
  obtain⟨z,_,rfl⟩:=List.mem_map.1 he
  rfl) (by rw[bE];exact hl) (by rw[bE];exact hm) (fun i e j x he hx=>by
  rw[ch]at he
  obtain⟨z,hz,rfl⟩:=Option.map_eq_some_iff.1 he
  cases j with
  |succ j=>simp[fI]at hx
  |zero=>
   simp only[Nat.mul_one,az,List.getD_eq_getElem?_getD,hz,Option.getD_some]
   exact hc i z hz) (fun i e j x he hx=>by
  rw[ch]at he
  obtain⟨z,hz,rfl⟩:=Option.map_eq_some_iff.1 he
  cases j with
  |succ j=>simp[fI]at hx
  |zero=>
   simp[fI]at hx
   subst hx
   simp only[List.getD_eq_getElem?_getD,hz,Option.getD_some]
   exact ee.raw _ rfl)
 rw[bE]at this
 exact this
theorem Ff (M:List (List Int)) (x:List Int) (hM:dO M=true) (hx:FitB M.length x=true):CallC Tryz.prog 97 [dx M,mp x] ⟨[],mp (fi M x)⟩:=by
 refine rt (by kernel_rfl) fun X w vs hX hvs ha=>?_
 obtain⟨v0,e0,r0⟩:=my ha (j:=0) rfl
 obtain⟨v1,e1,r1⟩:=my ha (j:=1) rfl
 obtain⟨A,c,rfl,hc,hl,hR⟩:=nC r0
 obtain⟨B,d,rfl,hd,hlx,hrx⟩:=kx r1
 obtain rfl:vs= #[.slice A M.length c,.slice B x.length d]:=by
  apply Array.ext_getElem?
  intro j
  match j with
  |0=>exact e0
  |1=>exact e1
  |j+2=>rw[Array.getElem?_eq_none (by simp at hvs;omega)];rfl
 have hs:=ii hM
 obtain⟨hxl,hxb⟩:=ji.1 hx
 have h8:M.length<=8:=hs.2.1
 have h1:1<=M.length:=hs.1
 refine(tU A B c d M x w hR hrx (by omega) (fun i hi=>by rw[hs.2.2.1 i hi];omega) hlx).mono fun e w' ⟨h1,h2,h3⟩=>?_
 refine⟨_,h1,fun ρ H Y hY=>?_,h3⟩
 have hlen:=kH M x
 have hb:w.heap.size<w'.heap.size:=by
  obtain⟨b,off,h4,h5⟩:=h2 (by intro h;rw[List.map_eq_nil_iff]at h;rw[h]at hlen;simp at hlen;omega)
  injection h4 with h4
  injection h4 with h4 h6
  subst h4 h6
  cases hz:(fi M x)[0]? with
  |none=>rw[List.getElem?_eq_none_iff]at hz;omega
  |some z=>exact lR (h5 0 _ (by rw[aH,hz];rfl))
 have:=Fv (X:=Y) (c:=M.length) (fun h=>absurd (hY _ h) (by omega)) hb (by omega) (by omega) h2
 rw[hlen]at this
 exact this
theorem Kj (M:List (List Int)) (x y:List Int) (hM:dO M=true) (hx:FitB M.length x=true) (hy:FitB M.length y=true):CallC Tryz.prog 96 [mp x,mp (fi M y)] ⟨[],KQ (iF x (fi M y) x.length)⟩:=by
 refine i6 (by kernel_rfl) fun X w vs hX hvs ha=>?_
 obtain⟨v0,e0,r0⟩:=my ha (j:=0) rfl
 obtain⟨v1,e1,r1⟩:=my ha (j:=1) rfl
 obtain⟨A,c,rfl,hc,hl,hrx⟩:=kx r0
 obtain⟨B,d,rfl,hd,hly,hry⟩:=kx r1
 obtain rfl:vs= #[.slice A x.length c,.slice B (fi M y).length d]:=by
  apply Array.ext_getElem?
  intro j
  match j with
  |0=>exact e0
  |1=>exact e1
  |j+2=>rw[Array.getElem?_eq_none (by simp at hvs;omega)];rfl
 have hs:=ii hM
 obtain⟨hxl,hxb⟩:=ji.1 hx
 obtain⟨hyl,hyb⟩:=ji.1 hy
 have h8:M.length<=8:=hs.2.1
 have hlen:=kH M y
 refine(AR A B c d x (fi M y) w hrx hry (by omega) (by omega) hly (fun i z hz=>lJ hxb hz) (tT hs hyb)).mono fun e w' ⟨h1,h2⟩=>?_
 refine⟨_,h1,fun ρ H Y=>?_,h2⟩
 unfold KQ rE
 split
 ·exact qR _ _
 exact qR _ _
/-! The plain side of Gram. -/
def vG (M l:List (List Int)) (i j:Nat):Int:=iF (l.getD i []) (fi M (l.getD j [])) (l.getD i []).length
structure PG (M l:List (List Int)) (i j:Nat):Prop where
 x:FitB M.length (l.getD i [])=true
 y:FitB M.length (l.getD j [])=true
 lo: -4611686018427387904<=vG M l i j
 hi:vG M l i j<=4611686018427387904
def Lr (M l:List (List Int)):Prop:=dO M=true/\ ∀i,i<l.length-> ∀j,j<l.length->PG M l i j
theorem zu {M:List (List Int)} {x y:List Int} (hM:dO M=true) (hx:FitB M.length x=true) (hy:FitB M.length y=true):
  iF x (fi M y) x.length=BF M.length (ent M) (fun i=>x.getD i 0) (fun i=>y.getD i 0):=by
 obtain⟨h1,h8,hsq,hr⟩:=(iQ M).1 hM
 obtain⟨hxl,hxb⟩:=ji.1 hx
 obtain⟨hyl,hyb⟩:=ji.1 hy
 generalize hn:M.length=n at*
 have eM:M=dC n n (ent M):=by
  apply List.ext_getElem?
  intro i
  by_cases hi:i<n
  ·rw[dm _ _ hi]
   obtain⟨r,hr'⟩:=getElem?_of_lt (show i<M.length by omega)
   rw[hr']
   have hrl:r.length=n:=by
    have:=hsq i (by omega)
    rw[List.getD_eq_getElem?_getD,hr']at this
    simpa[hn] using this
   refine congrArg some ?_
   apply List.ext_getElem?
   intro j
   by_cases hj:j<n
   ·rw[cu _ hj]
    obtain⟨z,hz⟩:=getElem?_of_lt (show j<r.length by omega)
    rw[hz]
    simp[ent,List.getD_eq_getElem?_getD,hr',hz]
   rw[aC (by omega),aC (by rw[dj];omega)]
  rw[aC (by omega),aC (by rw[cT];omega)]
 have er: ∀(x:List Int),x.length=n->x=dz n (fun i=>x.getD i 0):=fun x hxl=>by
  apply List.ext_getElem?
  intro j
  by_cases hj:j<n
  ·rw[cu _ hj]
   obtain⟨z,hz⟩:=getElem?_of_lt (show j<x.length by omega)
   simp[List.getD_eq_getElem?_getD,hz]
  rw[aC (by omega),aC (by rw[dj];omega)]
 have hM2:dO (dC n n (ent M))=true:=by rw[<- eM];exact hM
 have ex:=er x hxl
 have ey:=er y hyl
 rw[show fi M y=LQ n n (ent M) y by rw[<- yU hM2 hyb,<- eM],hxl,LQ]
 generalize(fun i=>x.getD i 0)=fx at*
 generalize(fun i=>y.getD i 0)=fy at*
 rw[ex,ey,oG _ _ n (ai _)]
 exact bZ n fun i _=>by rw[oG _ _ n (ai _)]
theorem Gm {M l:List (List Int)} {i j:Nat} (hM:dO M=true) (hi:FitB M.length (l.getD i [])=true) (hj:FitB M.length (l.getD j [])=true):vG M l i j=vG M l j i:=by
 unfold vG
 rw[zu hM hi hj,zu hM hj hi]
 obtain⟨h1,h8,hsq,hr⟩:=(iQ M).1 hM
 exact nM hr.1 _ _
theorem Kn {P:Program} {fn:Func} {s:AS} {r:TV} (k:Nat) (hk:s.tmps[k]?=some (.raw (.slice none 0 0))) (hd:s.H 1000=[]) (h:cH P ⟨s.tmps.set k (.one (.p (.sl []))),s.H⟩ fn.results.toList=some r) (hp:noRefTV r=true): ∃s',eg s s'/\nH P fn ⟨[],r⟩ s':=
 ⟨_,GK k hk,pn hd h hp⟩
theorem CC (a b:Nat) (hb:0<b) (la:(bT a).length<=268435456) (lb:(bT b).length<=268435456):CallC Tryz.prog 170 [de (bT a),de (bT b)] ⟨[],xd a b⟩:=by
 have hc:=n5 (bT a) (bT b) (ce _) (ce _) (dV _) (dV _) (by omega) (by omega)
 rw[bN,bN]at hc
 by_cases hlt:a<b
 ·rw[m8 hlt]at hc
  have hcl:=xm (bT a) (by omega)
  unfold xd
  rw[Nat.div_eq_of_lt hlt,Nat.mod_eq_of_lt hlt,ef]
  refine bG Tryz.func170 rfl (by kernel_rfl) ?_;rw[Tryz.ntmps170]
  (refine aL [] fun K hK=>?_;simp(disch:=omega) only[kc,aM,de,aa,aj,aN,ab];apply hK)
  refine aP (bA ?_)
  (refine aL [⟨2,_,_,_,hc⟩] fun K hK=>?_;simp(disch:=omega) only[kc,de,bj.a,aM,aa,aY,bU,bI,ac,bO,cq,ae,bV,bW,bs,noRefTV,bf,bQ,bM,aU,aO,aR,aX,aN,ab,aS,cw];apply hK)
  refine bJ rfl ?_
  (refine aL [⟨1,_,_,_,hcl⟩] fun K hK=>?_;simp(disch:=omega) only[kc,de,bj.a,aM,aa,aY,bU,bI,ac,bO,cq,ae,bV,bW,bs,noRefTV,bf,bQ,bM,aN,ab];apply hK)
  refine bC ⟨.inr rfl,Kn 4 rfl rfl ?_ rfl⟩
  simp(disch:=omega) only[kc,cH,Tryz.results170,eP,bH,dF,jX]
 obtain⟨c,hcv,hc0⟩: ∃c,c=ir a b/\0<=c:=⟨_,rfl,AA (by omega)⟩
 rw[<- hcv]at hc
 clear hcv
 by_cases hs:(bT a).length<=2
 ·have sb:(bT b).length<=2:=Nat.le_trans (n7 (show b<=a by omega)) hs
  have ua:=kt hs
  have ub:=kt sb
  have h1:=qK (bT a) (ce _) hs
  have h2:=qK (bT b) (ce _) sb
  rw[bN]at h1 h2
  have hq:a/b<=a:=Nat.div_le_self _ _
  have hr:a%b<b:=Nat.mod_lt _ hb
  have h3:=jo (a/b) (by omega)
  have h4:=jo (a%b) (by omega)
  have hb0:(b:Int)≠0:=by omega
  have e1:IntKind.u64.wrap (Int.tdiv (a:Int) (b:Int))=((a/b:Nat):Int):=by
   rw[Int.tdiv_eq_ediv_of_nonneg (by omega),<- Int.natCast_ediv];generalize a/b=q at*;rw[IntKind.wrap_u64];omega
  have e2:Int.tmod (a:Int) (b:Int)=((a%b:Nat):Int):=by
   rw[Int.tmod_eq_emod_of_nonneg (by omega),<- Int.natCast_emod]
  unfold xd
  generalize a/b=q at*
  generalize a%b=r at*
  refine bG Tryz.func170 rfl (by kernel_rfl) ?_;rw[Tryz.ntmps170]
  (refine aL [] fun K hK=>?_;simp(disch:=omega) only[kc,aM,de,aa,aj,aN,ab];apply hK)
  refine aP (bA ?_)
  (refine aL [⟨2,_,_,_,hc⟩] fun K hK=>?_;simp(disch:=omega) only[kc,de,bj.a,aM,aa,aY,bU,bI,ac,bO,cq,ae,bV,bW,bs,noRefTV,bf,bQ,bM,aU,aO,aR,aX,aN,ab,aS,cp];apply hK)
  refine bL rfl ?_
  (refine aL [] fun K hK=>?_;simp(disch:=omega) only[kc,aM,aa,be,aZ,aV,bE,aU,aO,aR,aX,aN,ab,aS,cw];apply hK)
  refine bJ rfl ?_
  (refine aL [⟨1,_,_,_,h1⟩,⟨3,_,_,_,h2⟩] fun K hK=>?_;simp(disch:=omega) only[kc,de,bj.a,aM,aa,aY,bU,bI,ac,bO,cq,ae,bV,bW,bs,noRefTV,bf,bQ,bM,ak];apply hK)
  (refine cL cJ [⟨3,_,_,_,h3⟩,⟨7,_,_,_,h4⟩] [] (by kernel_rfl) (by simp) fun K hK=>?_;simp(disch:=omega) only[kc,de,bj.a,aM,aa,aU,aO,aR,aX,aS,ne_eq,hb0,not_false_eq_true,e1,aY,bU,bI,ac,bO,cq,ae,bV,bW,bs,noRefTV,bf,bQ,bM,e2,ak];apply hK)
  (refine bC ⟨.inr rfl,bF rfl ?_ rfl⟩;simp(disch:=omega) only[cH,Tryz.results170,eP,bH,List.getElem?_cons_succ,List.getElem?_cons_zero,Option.bind_some,dF,Option.map_some])
 by_cases h1:(bT b).length=1
 ·obtain⟨g0,b32⟩:=CH h1
  have hcl:=CA (bT a) (by omega) (by omega)
  have hw:=qE (bT a) b (ce _) hb b32 (by omega) (by omega)
  rw[bN]at hw
  have hq:a/b<4294967296^(bT a).length:=Nat.lt_of_le_of_lt (Nat.div_le_self _ _) (xC a)
  have hr:a%b<b:=Nat.mod_lt _ hb
  have ht:=gk (dE (bT a).length (a/b)) (by rw[dA];omega)
  rw[qg hq]at ht
  have hf:=jo (a%b) (by omega)
  have hpl:=dA (bT a).length (a/b)
  unfold xd
  generalize a%b=r at*
  generalize dE (bT a).length (a/b)=R at*
  generalize a/b=q at*
  have e1:IntKind.u64.wrap (r:Int)=(r:Int):=by rw[IntKind.wrap_u64];omega
  refine bG Tryz.func170 rfl (by kernel_rfl) ?_;rw[Tryz.ntmps170]
  (refine aL [] fun K hK=>?_;simp(disch:=omega) only[kc,aM,de,aa,aj,aN,ab];apply hK)
  refine aP (bA ?_)
  (refine aL [⟨2,_,_,_,hc⟩] fun K hK=>?_;simp(disch:=omega) only[kc,de,bj.a,aM,aa,aY,bU,bI,ac,bO,cq,ae,bV,bW,bs,noRefTV,bf,bQ,bM,aU,aO,aR,aX,aN,ab,aS,cp];apply hK)
  refine bL rfl ?_
  (refine aL [] fun K hK=>?_;simp(disch:=omega) only[kc,aM,aa,be,aZ,aV,bE,aU,aO,aR,aX,aN,ab,aS,cp];apply hK)
  refine bL rfl ?_
  (refine aL [] fun K hK=>?_;simp(disch:=omega) only[kc,aM,aa,be,aZ,aV,bE,aU,aO,aR,aX,aN,ab,aS,cw];apply hK)
  refine bJ rfl ?_
  (refine aL [⟨1,_,_,_,hcl⟩] fun K hK=>?_;simp(disch:=omega) only[kc,de,bj.a,aM,aa,aY,bU,bI,ac,bO,cq,ae,List.isEmpty_cons,bV,bW,bs,Bool.not_false,noRefTV,bf,Bool.or_false,bQ,bM,renO,pR];apply hK)
  (refine ri 4 hw 41 0 [] [] (by simp) (by omega) (l8 rfl) (fc _ _) (by simp) (by decide) fun K hK=>?_;simp(disch:=omega) only[kc,aM,aa,aQ,aZ,aN,ab,aW,Int.reduceToNat,aV,ch,g0,fU,cg,packT,cW];apply hK;refine⟨⟨rfl,rfl⟩,by simp,?_⟩;intro K hK;simp(disch:=omega) only[kc,aa,aM,Hd,cwD,bD];apply hK)
  refine da.weak ((fp 41 (eE rfl)).trans (aT (tm:=[jk,jk,jk,jk,de R,jk,jk,jk,.raw (.int .u32 (r:Int)),jk,jk,jk,jk,jk,jk,jk,jk,jk,jk,jk,jk,jk,jk,jk,jk,jk,jk,jk,jk,jk,jk,jk,jk,jk,jk,jk,jk,jk,jk,jk,jk,jk,jk,jk,jk,jk,jk,jk,jk,jk,jk,jk,jk,jk,jk,jk,jk,jk,jk,jk,jk,jk,jk,jk,jk,jk,jk,jk,jk,jk,jk,jk,jk,jk,jk,jk,jk,jk,jk,jk,jk,jk,jk,jk,jk,jk,jk,jk,jk,jk,jk,jk,jk,jk,jk,jk,jk,jk,jk,jk,jk,jk,jk,jk]) (l:=[]) trivial (by simp[di,b9,b8,gT,gh,bD,Hm,eB,eZ,List.take_of_length_le,hpl]))) ?_
  (refine aL [⟨1,_,_,_,ht⟩,⟨4,_,_,_,hf⟩] fun K hK=>?_;simp(disch:=omega) only[kc,de,bj.a,aM,aa,Hm,aY,bU,bI,ac,bO,cq,ae,bV,bW,bs,noRefTV,bf,bQ,bM,ct,aU,Tryz.underlying79,dn,e1,ak];apply hK)
  (refine bC ⟨.inr rfl,bF rfl ?_ rfl⟩;simp(disch:=omega) only[cH,Tryz.results170,eP,bH,List.getElem?_cons_succ,List.getElem?_cons_zero,Option.bind_some,dF,Option.map_some])
 obtain⟨n,hn⟩: ∃n,(bT b).length=n+2:=⟨(bT b).length-2,by have:=gW (n:=b);omega⟩
 obtain⟨m,hm⟩: ∃m,(bT a).length=n+2+m:=⟨(bT a).length-(n+2),by have:=n7 (show b<=a by omega);omega⟩
 obtain⟨x,hx,hx0,hx32,hbl⟩:=yp (n:=n+1) hn
 have hz:=Lc x hx32
 obtain⟨z1,z2,z3⟩:=HG hx0 hx32
 obtain⟨s,hsz⟩: ∃s,s=lz x:=⟨_,rfl⟩
 rw[<- hsz]at hz z1 z2 z3
 clear hsz
 obtain⟨V1,V2⟩:=II hn hx ⟨z2,z3⟩ z1
 have hp2:=Nat.two_pow_pos s
 have hV:0<b*2^s:=Nat.mul_pos hb hp2
 have mp:=oO (bT b) s (ce _) z1 (by omega)
 have sl2:=oO (bT a) s (ce _) z1 (by omega)
 rw[bN,hn]at mp
 rw[bN,hm]at sl2
 have ha':=xC a
 rw[hm]at ha'
 obtain⟨st1,st2⟩:=C8 (s:=s) ha' hbl
 have hA:a*2^s<b*2^s*4294967296^(m+1):=by
  have h2:4294967296^(n+2+m)<=b*4294967296^(m+1):=by
   have e:4294967296^(n+2+m)=4294967296^(n+1)*4294967296^(m+1):=by rw[<- Nat.pow_add];congr 1;omega
   rw[e]
   exact Nat.mul_le_mul_right _ hbl
  rw[Nat.mul_right_comm]
  exact Nat.mul_lt_mul_of_pos_right (Nat.lt_of_lt_of_le ha' h2) hp2
 obtain⟨en1,en2⟩:=Is (a:=a) (b:=b) (s:=s)
 have e1:((n+2:Nat):Int)-1=((n+1:Nat):Int):=by omega
 have e2:((n+2+m:Nat):Int)-((n+2:Nat):Int)=(m:Int):=by omega
 have e3:(m:Int)+1=((m+1:Nat):Int):=by omega
 have tk:=C1 (x:=b*2^s) (show n+2<=n+2+1 by omega)
 have kdh:=fun k=>J4 (A:=a*2^s) (k:=k) V1 V2
 have hQ: ∀k,k<=m+1->lD (a*2^s) (b*2^s) k<4294967296^(m+1):=fun k hk=>Kl hA hk
 have hend:a%b*2^s<4294967296^(n+2+m+1):=by
  have h3:a%b<b:=Nat.mod_lt _ hb
  have h4:a%b*2^s<=b*2^s:=Nat.mul_le_mul_right _ (Nat.le_of_lt h3)
  have h5:4294967296^(n+2)<=4294967296^(n+2+m+1):=Nat.pow_le_pow_right (by omega) (by omega)
  omega
 have hmod:a%b<4294967296^(n+2+m+1):=Nat.lt_of_le_of_lt (Nat.le_mul_of_pos_right _ hp2) hend
 have hrw:=fun k (hk:k<=m)=>Fy (A:=a*2^s) (V:=b*2^s) (k:=k) (nb:=n+2) (na:=n+2+m) hV (Nat.le_of_lt V1) (by omega)
 have hrr:=fun k (hk:k<=m)=>It (A:=a*2^s) (V:=b*2^s) (k:=k) (nb:=n+2) (na:=n+2+m) (by omega)
 have hqs:=fun k (hk:k<=m)=>Ik (A:=a*2^s) (V:=b*2^s) (k:=k) (m:=m+1) hV (by omega) (hQ _ (by omega))
 have hdiv:a/b<4294967296^(m+1):=by have:=hQ 0 (by omega);rwa[en2]at this
 have sr:=tu (dE (n+2+m+1) (a%b*2^s)) s (mI _ _) z1 (by rw[dA];omega) (by rw[dA];omega)
 rw[il hend,dA,Nat.mul_div_cancel _ hp2]at sr
 have ht1:=gk (dE (m+1) (a/b)) (by rw[dA];omega)
 rw[qg hdiv]at ht1
 have ht2:=gk (dE (n+2+m+1) (a%b)) (by rw[dA];omega)
 rw[qg hmod]at ht2
 have hlV:=dA (n+2) (b*2^s)
 refine bG Tryz.func170 rfl (by kernel_rfl) ?_;rw[Tryz.ntmps170]
 (refine aL [] fun K hK=>?_;simp(disch:=omega) only[kc,aM,de,aa,aj,aN,ab];apply hK)
 refine aP (oD (S:=⟨[de (bT a),de (bT b),jk,jk,jk,jk,jk,jk,jk,jk,jk,jk,jk,jk,jk,jk,jk,jk,jk,jk,jk,jk,jk,jk,jk,jk,jk,jk,jk,jk,jk,jk,jk,jk,jk,jk,jk,jk,jk,jk,jk,jk,jk,jk,jk,jk,jk,jk,jk,jk,jk,jk,jk,jk,jk,jk,jk,jk,jk,jk,jk,jk,jk,jk,jk,jk,jk,jk,jk,jk,jk,jk,jk,jk,jk,jk,jk,jk,jk,jk,jk,jk,jk,jk,jk,jk,jk,jk,jk,jk,jk,jk,jk,jk,jk,jk,jk,jk,jk,jk,jk,jk,jk,jk],Hm []⟩) (bA ?_) ?_)
 ·(refine aL [⟨2,_,_,_,hc⟩] fun K hK=>?_;simp(disch:=omega) only[kc,de,bj.a,aM,aa,aY,bU,bI,ac,bO,cq,ae,bV,bW,bs,noRefTV,bf,bQ,bM,aU,aO,aR,aX,aN,ab,aS,cp];apply hK)
  refine bL rfl ?_
  (refine aL [] fun K hK=>?_;simp(disch:=omega) only[kc,aM,aa,be,aZ,aV,bE,aU,aO,aR,aX,aN,ab,aS,cp];apply hK)
  refine bL rfl ?_
  (refine aL [] fun K hK=>?_;simp(disch:=omega) only[kc,aM,aa,be,aZ,aV,bE,aU,aO,aR,aX,aN,ab,aS,cp];apply hK)
  refine iA rfl (fun h=>by simp at h<;>omega) (fun _=>bi (aT trivial ?_))
  simp[di,b9,b8]
 (refine aL [⟨6,_,_,_,hz⟩] fun K hK=>?_;simp(disch:=omega) only[kc,bj.a,aM,aa,de,Hm,be,aZ,aV,bE,hn,aU,aO,aR,aX,aN,ab,aS,e1,cd,aQ,aW,ch,hx,fU,cg,packT,cW,aY,bU,bI,ac,bO,cq,ae,bV,bW,bs,noRefTV,bf,bQ,bM];apply hK)
 (refine aL [⟨2,_,_,_,mp⟩] fun K hK=>?_;simp(disch:=omega) only[kc,de,bj.a,aM,aa,aY,bU,bI,ac,bO,cq,ae,List.isEmpty_cons,bV,bW,bs,Bool.not_false,noRefTV,bf,Bool.or_false,bQ,bM,renO,pR,be,aZ,aV,bE,hn,gR,eK,aW,bD,cg,Nat.reduceLeDiff,az,reduceCtorEq,false_and,and_false,cQ];apply hK)
 refine da.weak ((fp 61 (eE rfl)).trans (aT (tm:=[de (bT a),de (bT b),jk,jk,jk,jk,jk,jk,jk,.raw (.int .i64 (s:Int)),de (dE (n+2) (b*2^s)),jk,jk,jk,jk,jk,jk,jk,jk,jk,jk,jk,jk,jk,jk,jk,jk,jk,jk,jk,jk,jk,jk,jk,jk,jk,jk,jk,jk,jk,jk,jk,jk,jk,jk,jk,jk,jk,jk,jk,jk,jk,jk,jk,jk,jk,jk,jk,jk,jk,jk,jk,jk,jk,jk,jk,jk,jk,jk,jk,jk,jk,jk,jk,jk,jk,jk,jk,jk,jk,jk,jk,jk,jk,jk,jk,jk,jk,jk,jk,jk,jk,jk,jk,jk,jk,jk,jk,jk,jk,jk,jk,jk,jk]) (l:=[]) trivial (by simp[di,b9,b8,gT,gh,bD,Hm,eB,eZ,tk]))) ?_
 generalize hvv:dE (n+2) (b*2^s)=vv at*
 (refine aL [⟨2,_,_,_,sl2⟩] fun K hK=>?_;simp(disch:=omega) only[kc,de,bj.a,aM,aa,Hm,aY,bU,bI,ac,bO,cq,ae,List.isEmpty_cons,bV,bW,bs,Bool.not_false,noRefTV,bf,Bool.or_false,bQ,bM,renO,pR];apply hK)
 (refine aL [] fun K hK=>?_;simp(disch:=omega) only[kc,aM,aa,be,aZ,aV,bE,hm,hn,aU,aO,aR,aX,aS,e2,cd,aN,ab,e3,cY,bU,bI,ea,cg,gn,Int.natCast_nonneg,and_true,lY,cQ,bD,af];apply hK)
 (refine aP (aL [] fun K hK=>?_);simp(disch:=omega) only[kc,aM,aa,be,aZ,aV,bE,hm,hn,aU,aO,aR,aX,aS,e2,cd];apply hK)
 generalize hAe:a*2^s=A at*
 generalize hVe:b*2^s=V at*
 refine cC (G:=ov (m+1)) (fun g=>⟨[jk,de (bT b),jk,jk,.one (.sl 74 0 0 (m+1)),jk,jk,jk,jk,.raw (.int .i64 (s:Int)),de vv,.one (.sl 67 0 0 (n+2+m+1)),.raw (.int .i64 ((g.i:Int)-1)),jk,jk,jk,jk,jk,jk,jk,jk,jk,jk,jk,jk,jk,jk,jk,jk,jk,jk,jk,jk,jk,jk,jk,jk,jk,jk,jk,jk,jk,jk,jk,jk,jk,jk,jk,jk,jk,jk,jk,jk,jk,jk,jk,jk,jk,jk,jk,jk,jk,jk,jk,jk,jk,jk,jk,jk,jk,jk,jk,jk,jk,jk,jk,jk,jk,jk,jk,jk,jk,jk,jk,jk,jk,jk,jk,jk,jk,jk,jk,jk,jk,jk,jk,jk,jk,jk,jk,jk,jk,jk,jk],Hm [(67,[⟨79,1,lc fU (dE (n+2+m+1) (gF A V g.i))⟩]),(74,[⟨79,1,lc fU (dE (m+1) (lD A V g.i))⟩])]⟩) (fun g=>g.i) ⟨m+1,by omega⟩ ?_ ?_
 ·refine aT ⟨?_,?_,trivial⟩ ?_
  ·simp[st1,bD,Hm]
  ·simp[st2,bD,Hm,uE]
  simp[di,b9,b8]
 rintro⟨i,hi⟩
 simp only
 by_cases h0:0<i
 ·obtain⟨k,rfl⟩: ∃k,i=k+1:=⟨i-1,by omega⟩
  have hk:k<=m:=by omega
  have ek:((k+1:Nat):Int)-1=(k:Int):=by omega
  have ek2:(k:Int)+((n+2:Nat):Int)+1=((k+n+3:Nat):Int):=by omega
  have ek3:k+n+3-k=n+3:=by omega
  obtain⟨v1,v2,u2,u1,u0,K,nU,nV⟩:=kdh k
  have w1:=hrw k hk
  have w2:=hrr k hk
  rw[show n+2+1=n+3 from rfl]at w1 w2
  have w3:=hqs k hk
  have gq:=gY (x:=lD A V (k+1)) (show k<m+1 by omega)
  have hds:=tp (dE k (gF A V (k+1))) _ (dE (n+2+m-(k+(n+2))) (gF A V (k+1)/4294967296^(k+(n+2)+1))) _ k n v1 v2 u2 u1 u0 (dA _ _) K (by rw[<- w2,dA];omega)
  rw[nU,nV]at hds
  rw[w1,<- w2]at hds
  have qd:=pf (A:=A) (k:=k) hV
  have l1:=dA (m+1) (lD A V (k+1))
  have l2:=dA (n+2+m+1) (gF A V (k+1))
  obtain⟨R',hR'⟩: ∃R',R'=dE (n+2+m+1) (gF A V k):=⟨_,rfl⟩
  obtain⟨Q',hQ'⟩: ∃Q',Q'=dE (m+1) (lD A V k):=⟨_,rfl⟩
  rw[<- hR']at hds
  rw[<- hQ']at w3
  clear w1 w2 K nU nV
  generalize gF A V (k+1)/4294967296^k/V=d at*
  generalize lD A V (k+1)/4294967296^k%4294967296=od at*
  generalize dE (m+1) (lD A V (k+1))=Q0 at*
  generalize dE (n+2+m+1) (gF A V (k+1))=R0 at*
  (refine aP (aL [] fun K hK=>?_);simp(disch:=omega) only[kc,aM,de,ek,Hm,aU,aO,aR,aX,aN,ab,aS,Int.natCast_nonneg,cw];apply hK)
  refine bJ rfl (bi ?_)
  refine aP (bA ?_)
  ((refine rh 11 hds 67 0 [] [] (by simp) (by omega) (l8 rfl) (fc _ _) (by simp) (by decide) fun K hK=>?_);simp(disch:=omega) only[kc,aM,aa,be,aZ,aV,bE,hn,aU,aO,aR,aX,aS,cd,aN,ab,ek2,gR,eK,aW,af,cg,Nat.reduceLeDiff,ek3,cQ];apply hK;refine⟨⟨rfl,rfl⟩,by simp,?_⟩;intro K hK;simp(disch:=omega) only[kc,aa,aM,Hd,cwD,af,aQ,aZ,aW,aV,bD,d4,cg,cQ,bo,ew,cU,dp,fU,gq,cellsOf,ai,isPure,bu,ff,w3,bz,bx];apply hK)
  show da _ _ _ _
  ((refine bK [] [] (by simp) fun K hK=>?_);simp(disch:=omega) only[kc,aM,aa,aU,aO,aR,aX,aN,ab,aS,cd];apply hK)
  refine⟨⟨k,by omega⟩,by simp only;omega,aT ⟨?_,?_,trivial⟩ ?_⟩
  ·simp[bD,Hm,hR']
  ·simp[bD,Hm,hQ']
  simp[di,b9,b8]
 have hi0:i=0:=by omega
 subst hi0
 rw[en1,en2]
 generalize dE (n+2+m+1) (a%b*2^s)=R0 at*
 unfold xd
 have l1:=dA (m+1) (a/b)
 have l2:=dA (n+2+m+1) (a%b)
 generalize dE (n+2+m+1) (a%b)=R1 at*
 generalize dE (m+1) (a/b)=Q1 at*
 generalize a/b=q at*
 generalize a%b=r at*
 (refine aP (aL [] fun K hK=>?_);simp(disch:=omega) only[kc,aM,de,Hm,aU,aO,aR,aX,aN,ab,aS,cp];apply hK)
 refine bL rfl (ck ?_)
 show da _ _ _ _
 (refine ri 2 sr 67 0 [] [] (by simp) (by omega) (l8 rfl) (fc _ _) (by simp) (by decide) fun K hK=>?_;simp(disch:=omega) only[kc,aM];apply hK;refine⟨⟨rfl,rfl⟩,by simp,?_⟩;intro K hK;simp(disch:=omega) only[kc,aa,Hd,cwD,af];apply hK)
 refine da.weak ((fp 67 (eE rfl)).trans ((fp 74 (eE rfl)).trans (aT (tm:=[jk,jk,jk,jk,de Q1,jk,jk,jk,jk,jk,jk,de R1,jk,jk,jk,jk,jk,jk,jk,jk,jk,jk,jk,jk,jk,jk,jk,jk,jk,jk,jk,jk,jk,jk,jk,jk,jk,jk,jk,jk,jk,jk,jk,jk,jk,jk,jk,jk,jk,jk,jk,jk,jk,jk,jk,jk,jk,jk,jk,jk,jk,jk,jk,jk,jk,jk,jk,jk,jk,jk,jk,jk,jk,jk,jk,jk,jk,jk,jk,jk,jk,jk,jk,jk,jk,jk,jk,jk,jk,jk,jk,jk,jk,jk,jk,jk,jk,jk,jk,jk,jk,jk,jk,jk]) (l:=[]) trivial (by simp[di,b9,b8,gT,gh,bD,Hm,eB,eZ,List.take_of_length_le,l1,l2])))) ?_
 (refine aL [⟨1,_,_,_,ht1⟩,⟨3,_,_,_,ht2⟩] fun K hK=>?_;simp(disch:=omega) only[kc,de,bj.a,aM,aa,Hm,aY,bU,bI,ac,bO,cq,ae,bV,bW,bs,noRefTV,bf,bQ,bM,ak];apply hK)
 (refine bC ⟨.inr rfl,bF rfl ?_ rfl⟩;simp(disch:=omega) only[cH,Tryz.results170,eP,bH,List.getElem?_cons_succ,List.getElem?_cons_zero,Option.bind_some,dF,Option.map_some])
theorem JY {a b:Int} (hb:b≠0) (ha:0<=a):a/b=iw (decide (b<0)) (a.natAbs/b.natAbs)/\a%b=iw false (a.natAbs%b.natAbs):=by
 have e1:tr a b=iw false (a.natAbs%b.natAbs):=by unfold tr;rw[decide_eq_false (by omega)]
 have e2:tq a b=iw (decide (b<0)) (a.natAbs/b.natAbs):=by unfold tq;rw[decide_eq_false (show ¬a<0 by omega)];by_cases h:b<0<;>simp[h]
 rw[<- e1,<- e2]
 exact za hb (by rw[e1];unfold iw;simp;omega)
theorem Hj {a b:Int} (hb:b≠0) (ha:a<0) (h:a.natAbs%b.natAbs=0):a/b=iw (!decide (b<0)) (a.natAbs/b.natAbs)/\a%b=iw false (a.natAbs%b.natAbs):=by
 have e1:tr a b=iw false (a.natAbs%b.natAbs):=by unfold tr;rw[h];unfold iw;simp
 have e2:tq a b=iw (!decide (b<0)) (a.natAbs/b.natAbs):=by unfold tq;rw[decide_eq_true ha];by_cases h:b<0<;>simp[h]
 rw[<- e1,<- e2]
 exact za hb (by rw[e1,h];unfold iw;simp)
theorem JX {a b:Int} (hb:b≠0) (ha:a<0) (h:a.natAbs%b.natAbs≠0):a/b=iw (!decide (b<0)) (a.natAbs/b.natAbs+1)/\a%b=iw false (b.natAbs-a.natAbs%b.natAbs):=by
 have e1:tr a b= -((a.natAbs%b.natAbs:Nat):Int):=by unfold tr;rw[decide_eq_true ha];rfl
 have hlt:a.natAbs%b.natAbs<b.natAbs:=Nat.mod_lt _ (by omega)
 by_cases hbn:b<0
 ·obtain⟨p1,p2⟩:=AP (a:=a) hbn (by rw[e1];omega)
  have e2:tq a b=((a.natAbs/b.natAbs:Nat):Int):=by unfold tq;rw[decide_eq_true ha,decide_eq_true hbn];rfl
  rw[p1,p2,e1,e2,decide_eq_true hbn]
  generalize a.natAbs/b.natAbs=q at*
  generalize a.natAbs%b.natAbs=r at*
  unfold iw
  constructor<;>simp<;>omega
 obtain⟨p1,p2⟩:=AQ (a:=a) (show 0<b by omega) (by rw[e1];omega)
 have e2:tq a b= -((a.natAbs/b.natAbs:Nat):Int):=by unfold tq;rw[decide_eq_true ha,decide_eq_false hbn];rfl
 rw[p1,p2,e1,e2,decide_eq_false hbn]
 generalize a.natAbs/b.natAbs=q at*
 generalize a.natAbs%b.natAbs=r at*
 unfold iw
 constructor<;>simp<;>omega
def Bd (z:Int):Prop:=Sz z 268435456
theorem CB (a b:Int) (hb0:b≠0) (ha:Bd a) (hb:Bd b):CallC Tryz.prog 163 [tZ a,tZ b] ⟨[],.tup [(true,cZ (a/b)),(true,cZ (a%b)),(false,[.p (.raw (.bool true))])]⟩:=by
 have la:(bT a.natAbs).length<=268435456:=jI ha
 have lb:(bT b.natAbs).length<=268435456:=jI hb
 have t1:=gk (bT a.natAbs) (by omega)
 have t2:=gk (bT b.natAbs) (by omega)
 rw[jh]at t1 t2
 have hl0:(bT b.natAbs).length≠0:=fun h=>hb0 (by have:=gW.1 h;omega)
 have hd:=CC a.natAbs b.natAbs (by omega) la lb
 unfold xd at hd
 have hr0:=gW (n:=a.natAbs%b.natAbs)
 have hlt:a.natAbs%b.natAbs<b.natAbs:=Nat.mod_lt _ (by omega)
 have lq:=n7 (show a.natAbs/b.natAbs<=a.natAbs from Nat.div_le_self _ _)
 have lr:=n7 (Nat.le_of_lt hlt)
 by_cases han:a<0
 ·by_cases hr:a.natAbs%b.natAbs=0
  ·obtain⟨p1,p2⟩:=Hj hb0 han hr
   have h8:=gD (!decide (b<0)) (a.natAbs/b.natAbs)
   have h9:=gD false (a.natAbs%b.natAbs)
   rw[<- p1]at h8
   rw[<- p2]at h9
   have hl:(bT (a.natAbs%b.natAbs)).length=0:=hr0.2 hr
   clear p1 p2
   generalize a.natAbs/b.natAbs=q at*
   generalize a.natAbs%b.natAbs=r at*
   generalize a/b=Q at*
   generalize a%b=R at*
   refine bG Tryz.func163 rfl (by kernel_rfl) ?_;rw[Tryz.ntmps163]
   (refine aL [] fun K hK=>?_;simp(disch:=omega) only[kc,aM,aa,tZ,cw,aj,dP,bU,bI,cellsOf,isPure,cQ,bD,af,cy,cx,ab,d4,aN];apply hK)
   (refine aL [⟨2,_,_,_,t2⟩] fun K hK=>?_;simp(disch:=omega) only[kc,de,bj.a,aM,aa,bY,aZ,df,dU,bD,af,d4,packT,dG,aY,bU,bI,ac,bO,cq,ae,bV,bW,bs,noRefTV,bf,bQ,bM];apply hK)
   (refine aP (aL [] fun K hK=>?_);simp(disch:=omega) only[kc,aM,aa,be,aZ,aV,bE,aU,aO,aR,aX,aN,ab,aS,cp];apply hK)
   refine bL rfl (bi ?_)
   show da _ _ _ _
   (refine aL [⟨2,_,_,_,t1⟩,⟨4,_,_,_,hd⟩] fun K hK=>?_;simp(disch:=omega) only[kc,de,bj.a,aM,aa,bY,aZ,df,dU,bD,af,d4,packT,dG,aY,bU,bI,ac,bO,cq,ae,bV,bW,bs,noRefTV,bf,bQ,bM,ak,cK,aU];apply hK)
   (refine aL [] fun K hK=>?_;simp(disch:=omega) only[kc,aM,aa,bY,aZ,dv,eI,az,bD,af,d4,packT,d6];apply hK)
   refine aP (bA ?_)
   refine aP (bA ?_)
   refine aP (bA ?_)
   (refine aP (aP (aL [] fun K hK=>?_));simp(disch:=omega) only[kc,aM,aa,bY,aZ,dv,eI,az,bD,af,d4,packT,d6,bP,be,aV,bE,aU,aO,aR,aX,aN,ab,cQ,aS,cp,b7];apply hK)
   refine bL rfl (bi ?_)
   show da _ _ _ _
   (refine aL [] fun K hK=>?_;simp(disch:=omega) only[kc,aM,aa,bY,aZ,dv,eI,az,bD,af,d4,packT,d6];apply hK)
   refine bJ rfl (ck ?_)
   show da _ _ _ _
   (refine aL [] fun K hK=>?_;simp(disch:=omega) only[kc,aM,aa,dM,aU,fD];apply hK)
   refine ck ?_
   show da _ _ _ _
   (refine aL [⟨2,_,_,_,h8⟩,⟨4,_,_,_,h9⟩] fun K hK=>?_;simp(disch:=omega) only[kc,de,tZ,bj.a,aM,aa,aY,bU,bI,ac,bO,cq,ae,bV,bW,bs,noRefTV,bf,bQ,bM,ak,aN,ab,bo,ew,cU,bS,bD,af,d4,cellsOf,ai,isPure,cQ,bu,bz,bx];apply hK)
   (refine bC ⟨.inr rfl,bF rfl ?_ rfl⟩;simp(disch:=omega) only[kc,cH,Tryz.results163,eP,bH,bD,af,d4,packT,bS,cf,aa,ai,dF,cZ])
  obtain⟨p1,p2⟩:=JX hb0 han hr
  have h6:=ug (bT (a.natAbs/b.natAbs)) [1] (ce _) (by intro x hx;simp at hx;omega) (by omega) (by simp)
  rw[bN,show natV [1]=1 from rfl,show de [1]= .one (.p (.sl [[.raw (.int .u32 1)]]))from rfl]at h6
  have h7:=pO (bT b.natAbs) (bT (a.natAbs%b.natAbs)) (ce _) (ce _) lr (by rw[bN,bN];omega) (by omega)
  rw[bN,bN]at h7
  have h8:=gD (!decide (b<0)) (a.natAbs/b.natAbs+1)
  have h9:=gD false (b.natAbs-a.natAbs%b.natAbs)
  rw[<- p1]at h8
  rw[<- p2]at h9
  have hl:(bT (a.natAbs%b.natAbs)).length≠0:=fun h=>hr (hr0.1 h)
  clear p1 p2
  generalize b.natAbs-a.natAbs%b.natAbs=br at*
  generalize a.natAbs/b.natAbs=q at*
  generalize a.natAbs%b.natAbs=r at*
  generalize a/b=Q at*
  generalize a%b=R at*
  refine bG Tryz.func163 rfl (by kernel_rfl) ?_;rw[Tryz.ntmps163]
  (refine aL [] fun K hK=>?_;simp(disch:=omega) only[kc,aM,aa,tZ,cw,aj,dP,bU,bI,cellsOf,isPure,cQ,bD,af,cy,cx,ab,d4,aN];apply hK)
  (refine aL [⟨2,_,_,_,t2⟩] fun K hK=>?_;simp(disch:=omega) only[kc,de,bj.a,aM,aa,bY,aZ,df,dU,bD,af,d4,packT,dG,aY,bU,bI,ac,bO,cq,ae,bV,bW,bs,noRefTV,bf,bQ,bM];apply hK)
  (refine aP (aL [] fun K hK=>?_);simp(disch:=omega) only[kc,aM,aa,be,aZ,aV,bE,aU,aO,aR,aX,aN,ab,aS,cp];apply hK)
  refine bL rfl (bi ?_)
  show da _ _ _ _
  (refine aL [⟨2,_,_,_,t1⟩,⟨4,_,_,_,hd⟩] fun K hK=>?_;simp(disch:=omega) only[kc,de,bj.a,aM,aa,bY,aZ,df,dU,bD,af,d4,packT,dG,aY,bU,bI,ac,bO,cq,ae,bV,bW,bs,noRefTV,bf,bQ,bM,ak,cK,aU];apply hK)
  (refine aL [] fun K hK=>?_;simp(disch:=omega) only[kc,aM,aa,bY,aZ,dv,eI,az,bD,af,d4,packT,d6];apply hK)
  refine aP (bA ?_)
  refine aP (bA ?_)
  refine aP (bA ?_)
  (refine aP (aP (aL [] fun K hK=>?_));simp(disch:=omega) only[kc,aM,aa,bY,aZ,dv,eI,az,bD,af,d4,packT,d6,bP,be,aV,bE,aU,aO,aR,aX,aN,ab,cQ,aS,cw,b7];apply hK)
  refine bJ rfl (ck ?_)
  show da _ _ _ _
  (refine aL [⟨2,_,_,_,h6⟩] fun K hK=>?_;simp(disch:=omega) only[kc,de,bj.a,aM,aa,cX,bU,bI,aV,ea,cg,gU,aN,ab,cellsOf,isPure,Nat.reduceMul,Nat.reduceLeDiff,List.contains_nil,lI,cQ,aY,ac,bO,cq,ae,bV,bW,bs,noRefTV,bf,bQ,bM];apply hK)
  ((refine bK [⟨2,_,_,_,h7⟩] [] (by simp) fun K hK=>?_);simp(disch:=omega) only[kc,de,bj.a,aM,aa,aY,bU,bI,ac,bO,cq,ae,bV,bW,bs,noRefTV,bf,bQ,bM];apply hK)
  show da _ _ _ _
  (refine aL [] fun K hK=>?_;simp(disch:=omega) only[kc,aM,aa,dM,aU,fD];apply hK)
  refine ck ?_
  show da _ _ _ _
  (refine aL [⟨2,_,_,_,h8⟩,⟨4,_,_,_,h9⟩] fun K hK=>?_;simp(disch:=omega) only[kc,de,tZ,bj.a,aM,aa,aY,bU,bI,ac,bO,cq,ae,bV,bW,bs,noRefTV,bf,bQ,bM,ak,aN,ab,bo,ew,cU,bS,bD,af,d4,cellsOf,ai,isPure,cQ,bu,bz,bx];apply hK)
  (refine bC ⟨.inr rfl,bF rfl ?_ rfl⟩;simp(disch:=omega) only[kc,cH,Tryz.results163,eP,bH,bD,af,d4,packT,bS,cf,aa,ai,dF,cZ])
 obtain⟨p1,p2⟩:=JY hb0 (show 0<=a by omega)
 have h8:=gD (decide (b<0)) (a.natAbs/b.natAbs)
 have h9:=gD false (a.natAbs%b.natAbs)
 rw[<- p1]at h8
 rw[<- p2]at h9
 clear p1 p2
 generalize a.natAbs/b.natAbs=q at*
 generalize a.natAbs%b.natAbs=r at*
 generalize a/b=Q at*
 generalize a%b=R at*
 refine bG Tryz.func163 rfl (by kernel_rfl) ?_;rw[Tryz.ntmps163]
 (refine aL [] fun K hK=>?_;simp(disch:=omega) only[kc,aM,aa,tZ,cp,aj,dP,bU,bI,cellsOf,isPure,cQ,bD,af,cy,cx,ab,d4,aN];apply hK)
 (refine aL [⟨2,_,_,_,t2⟩] fun K hK=>?_;simp(disch:=omega) only[kc,de,bj.a,aM,aa,bY,aZ,df,dU,bD,af,d4,packT,dG,aY,bU,bI,ac,bO,cq,ae,bV,bW,bs,noRefTV,bf,bQ,bM];apply hK)
 (refine aP (aL [] fun K hK=>?_);simp(disch:=omega) only[kc,aM,aa,be,aZ,aV,bE,aU,aO,aR,aX,aN,ab,aS,cp];apply hK)
 refine bL rfl (bi ?_)
 show da _ _ _ _
 (refine aL [⟨2,_,_,_,t1⟩,⟨4,_,_,_,hd⟩] fun K hK=>?_;simp(disch:=omega) only[kc,de,bj.a,aM,aa,bY,aZ,df,dU,bD,af,d4,packT,dG,aY,bU,bI,ac,bO,cq,ae,bV,bW,bs,noRefTV,bf,bQ,bM,ak,cK,aU];apply hK)
 (refine aL [] fun K hK=>?_;simp(disch:=omega) only[kc,aM,aa,bY,aZ,dv,eI,az,bD,af,d4,packT,d6];apply hK)
 refine aP (bA ?_)
 refine aP (bA ?_)
 refine aP (bA ?_)
 (refine aP (aP (aL [] fun K hK=>?_));simp(disch:=omega) only[kc,aM,aa,bY,aZ,dv,eI,az,bD,af,d4,packT,d6,bP,be,aV,Option.map_none,aU,aO,aR,aX,aN,ab,cQ,b7];apply hK)
 refine bL rfl (bi ?_)
 show da _ _ _ _
 (refine aL [] fun K hK=>?_;simp(disch:=omega) only[kc,aM,aa,bY,aZ,dv,eI,az,bD,af,d4,packT,d6];apply hK)
 refine bL rfl (bi ?_)
 refine ck ?_
 show da _ _ _ _
 (refine aL [⟨2,_,_,_,h8⟩,⟨4,_,_,_,h9⟩] fun K hK=>?_;simp(disch:=omega) only[kc,de,tZ,bj.a,aM,aa,aY,bU,bI,ac,bO,cq,ae,bV,bW,bs,noRefTV,bf,bQ,bM,ak,aN,ab,bo,ew,cU,bS,bD,af,d4,cellsOf,ai,isPure,cQ,bu,bz,bx];apply hK)
 (refine bC ⟨.inr rfl,bF rfl ?_ rfl⟩;simp(disch:=omega) only[kc,cH,Tryz.results163,eP,bH,bD,af,d4,packT,bS,cf,aa,ai,dF,cZ])
end Go.Proofs.YtfgeomlagfomgaaGreatDoor
