/-
  Part 23 of a proof (walks and plain facts).
-/
import Derived.Test.YtiollbhgpiiodaaGreatDoorQ21
set_option linter.all false
set_option maxRecDepth 100000
set_option maxHeartbeats 64000000
open Nat renaming reduceAdd → aa
open Nat renaming reduceEqDiff → ab
open List renaming mem_map → ak
open List renaming mem_of_getElem? → aw
open List renaming getElem?_map → az
namespace Go.Proofs.YtiollbhgpiiodaaGreatDoor
open Go.RowKit
def Mc (f:FF) (k i j:Nat):Nat->Nat->Int:=fun a b=>f (if a<k then a else i) (if b<k then b else j)
theorem G7 {α:Type} (k i:Nat) (g:Nat->α):(List.range k++[i]).map g=(List.range (k+1)).map fun a=>g (if a<k then a else i):=by
 rw[List.range_succ,List.map_append,List.map_append]
 congr 1
 ·exact List.map_congr_left fun a ha=>by rw[if_pos (List.mem_range.1 ha)]
 simp
theorem TB (k i j:Nat) (f:FF):((List.range k++[i]).map fun r=>(List.range k++[j]).map (f r))=bi (k+1) (k+1) (Mc f k i j):=by
 rw[G7];exact List.map_congr_left fun a _=>G7 k j _
theorem UM {f:FF} {k i j t:Nat} (ht:t<=k):dk (Mc f k i j) t=dk f t:=iu fun a b ha hb=>by unfold Mc;rw[if_pos (by omega),if_pos (by omega)]
theorem UJ (f:FF) (k i j:Nat):dk (Mc f k i j) (k+1)=bk f k i j:=by
 have e1:om (Mc f k i j) k=om (fun a b=>f a (if b<k then b else j)) k:=v8 fun t ht=>by unfold Mc;rw[if_pos ht]
 have e2:om (fun a b=>f a (if b<k then b else j)) k=fun l=>om f k (l.map fun b=>if b<k then b else j):=funext fun l=>Ad (R:=f) (fun b=>if b<k then b else j) k l
 have e3:(jB k).map (fun b=>if b<k then b else j)=jB k:=by
  have:(jB k).map (fun b=>if b<k then b else j)=(jB k).map id:=List.map_congr_left fun a ha=>if_pos (jv ha)
  rw[this,List.map_id]
 rw[ca];unfold bk;rw[e1,e2];have:=uf (r:=f i) (fun b=>if b<k then b else j) (k::jB k) (om f k);rw[List.map_cons,e3,if_neg (by omega)]at this;rw[<- this]
 congr 1
 funext c;unfold Mc;rw[if_neg (by omega)]
theorem ST {f:FF} {k:Nat} (hd: ∀t,t<k->dk f (t+1)≠0) (i j:Nat):detF (k+1) (Mc f k i j)=bk f k i j:=by
 rw[mn fun t ht=>by rw[UM (by omega)];exact hd t (by omega),UJ]
theorem Tf {n k i j:Nat} {f:FF} (hk:k<n) (hi:i<n) (hj:j<n) (hf: ∀i j,i<n->j<n->Sz (f i j) 1024): ∀r c,r<k+1->c<k+1->Sz (Mc f k i j r c) 1024:=fun r c _ _=>by
 unfold Mc;exact hf _ _ (by split<;>omega) (by split<;>omega)
def yD (n:Nat) (f:FF) (m:Nat):List (List (List Int)):=(List.range m).map fun k=>bi (n-k) (n-k) (jN f k)
theorem No {n:Nat} {f:FF} (m:Nat):yD n f m++[bi (n-m) (n-m) (jN f m)]=yD n f (m+1):=by
 unfold yD;rw[List.range_succ,List.map_append];rfl
theorem Hb (n:Nat) (f:FF) (m:Nat):(yD n f m).length=m:=by simp[yD]
theorem Ha {n:Nat} (f:FF) {m k:Nat} (h:k<m):(yD n f m)[k]?=some (bi (n-k) (n-k) (jN f k)):=by
 unfold yD;rw[az,List.getElem?_range h];rfl
abbrev fB:List (List Int)->List PV:=fR (fR fZ)
theorem L1 (l:List (List (List Int))) (M:List (List Int)):lc fB l++[[.p (.sl (ls (fR fZ) M))]]=lc fB (l++[M]):=by simp[lc,fR]
theorem OL (n:Nat) (f:FF) (k:Nat) (hn:n<=8) (hk:k<n) (hd: ∀t,t<k->dk f (t+1)≠0) (hf: ∀i j,i<n->j<n->Sz (f i j) 1024):
  CallC Tryz.prog 134 [dV (bi n n f),.raw (.int .i64 (k:Int))] ⟨[],dV (bi (n-k) (n-k) (jN f k))⟩:=by
 have hml:=aW n n f;obtain⟨m,hm,hm1⟩: ∃m,n-k=m/\1<=m:=⟨n-k,rfl,by omega⟩;have e0:IntKind.i64.wrap ((n:Int)-(k:Int))=(m:Int):=by rw[bu (by omega) (by omega)];omega
 have hZ:=rT m m (by omega) (by omega);rw[oO,nM]at hZ;rw[hm];refine aS Tryz.func134 rfl Tryz.ntmps134 (aT (k:=il (aP hml e0) (k:=cb [⟨2,_,_,_,hZ⟩] (k:=aF (bC (k:=?_))))));refine aO (G:=iJ m) (fun g=>⟨(dV (bi n n f)::rN k::j4 (.one (.sl 15 0 0 m)::j4 (j4 (jk::jk::rN m::rN g.i::j16 (j16 ([])))))),Hm [(15,gp 15 m m (part (jN f k) g.i 0))]⟩) (fun g=>m-g.i) ⟨0,by omega⟩ ?_ ?_
 ·refine aE ⟨?_,trivial⟩ ?_
  ·rw[sI];exact fE 0 15 m m _
  simp[wk]
 rintro⟨i,hi⟩;simp only;by_cases hmi:i<m
 ·have g1:=bJ (n:=m) (i:=i) 15 m hmi;have g2:=dU m (part (jN f k) i 0) hmi;refine aK (k:=bv rfl (aF (aG (bC (k:=aX g1 (k:=?_))))));refine aO (G:=iJ m) (fun g=>⟨(dV (bi n n f)::rN k::j4 (.one (.sl 15 0 0 m)::rN i::j4 (j4 (jk::rN m::rN i::j4 (jk::jk::rN m::rN g.i::j16 (j4 (j4 ([])))))))),Hm [(15,gp 15 m m (part (jN f k) i g.i))]⟩) (fun g=>m-g.i) ⟨0,by omega⟩ ?_ ?_
  ·refine aE ⟨rfl,trivial⟩ ?_;simp[wk]
  rintro⟨j,hj⟩;simp only;by_cases hmj:j<m
  ·have g2:=dU m (part (jN f k) i j) hmi;have g3:=aQ (part (jN f k) i j i) hmj;have c1:=zB k (k+i) (by omega) (by omega);have c2:=zB k (k+j) (by omega) (by omega);have mem: ∀q,q<m-> ∀x∈List.range k++[k+q],x<n:=fun q hq x hx=>by
    rcases List.mem_append.1 hx with h|h
    ·have:=List.mem_range.1 h;omega
    rw[List.mem_singleton.1 h];omega
   have c3:=uL n n f (List.range k++[k+i]) (List.range k++[k+j]) (by omega) (by omega) (mem i hmi) (mem j hmj) (by simp;omega) (by simp;omega);rw[TB]at c3;have c4:=gM (k+1) (Mc f k (k+i) (k+j)) (by omega) (by omega) (Tf hk (by omega) (by omega) hf);rw[ST hd,show bk f k (k+i) (k+j)=jN f k i j from rfl]at c4;have e1:IntKind.i64.wrap ((k:Int)+(i:Int))=((k+i:Nat):Int):=by rw[bu (by omega) (by omega)];omega
   have e2:IntKind.i64.wrap ((k:Int)+(j:Int))=((k+j:Nat):Int):=by rw[bu (by omega) (by omega)];omega
   refine aK (k:=bv rfl (aF (aG (bC (k:=f5 [⟨10,_,_,_,c1⟩,⟨15,_,_,_,c2⟩,⟨16,_,_,_,c3⟩,⟨17,_,_,_,c4⟩] (aP g1 (aP e1 (aP e2 (aP g2 (aP g3 @iB))))) (k:=bW (k:=?_)))))));refine⟨⟨j+1,by omega⟩,by simp only;omega,aE ⟨?_,trivial⟩ ?_⟩
   ·show _::_=_::_;rw[b7 fun a b _ _=>iR (jN f k) i j a b]
   simp[wk]
  have hjm:j=m:=by omega
  subst hjm;refine aK (k:=bE rfl (bW (k:=?_)));refine⟨⟨i+1,by omega⟩,by simp only;omega,aE ⟨?_,trivial⟩ ?_⟩
  ·show _::_=_::_;rw[b7 fun a b _ hb=>ko (jN f k) i a b hb]
  simp[wk]
 have him:i=m:=by omega
 subst him;refine aK (k:=bE rfl ?_);show bL _ _ _ _;have e:gp 15 i i (part (jN f k) i 0)=gp 15 i i (jN f k):=by
  show _::_=_::_;rw[b7 fun a b ha _=>kn (jN f k) a b ha]
 rw[e];refine bL.weak ((bT 15 (iv rfl)).trans (aE (tm:=(j4 (jk::jk::dV (bi i i (jN f k))::j16 (j16 (j4 (j4 (j4 ([])))))))) (l:=[]) trivial (by simp[wk];exact(LA (H:=Hm [(15,gp 15 i i (jN f k))]) (d:=15) (n:=i) (c:=i) (f:=jN f k) rfl).symm))) ?_;refine bC (k:=aV @Tryz.results134)
theorem Jy (n:Nat) (f:FF) (hn1:1<=n) (hn:n<=8) (hd: ∀t,t<n->dk f (t+1)≠0) (hf: ∀i j,i<n->j<n->Sz (f i j) 1024):
  CallC Tryz.prog 102 [dV (bi n n f)] ⟨[],.tup [(false,[.p (.sl (ls fB (yD n f n)))]),(false,[.p (.raw (.bool true))])]⟩:=by
 have hml:=aW n n f;have cL:=lE n f hn1 (by omega) hf;have hll:(vS n f).length=n:=bf _ _;have e0:IntKind.i64.wrap ((n:Int)-1)=((n-1:Nat):Int):=by rw[bu (by omega) (by omega)];omega
 have htk:((vS n f).take (n-1)).length=n-1:=by rw[List.length_take,hll];omega
 refine aS Tryz.func102 rfl Tryz.ntmps102 (aT (k:=fw [⟨1,_,_,_,cL⟩] @Tb.eq_1 (k:=aF (bC (k:=aJ rfl (aH (aF (aX (aP hll (aP e0 (aP @Nat.zero_le (aP @Nat.sub_le (aP (jy zA) htk))))) (k:=?_)))))))));refine aO (G:=iJ (n-1)) (fun g=>⟨(dV (bi n n f)::j16 (j4 (xq ((vS n f).take (n-1))::.raw (.int .i64 ((n-1:Nat):Int))::rN g.i::j16 (j4 ([]))))),Hm []⟩) (fun g=>n-1-g.i) ⟨0,by omega⟩ ?_ ?_
 ·refine aE trivial ?_;simp[wk]
 rintro⟨i,hi⟩;simp only;by_cases hm:i<n-1
 ·have a1:((vS n f).take (n-1))[i]?=some (detF (i+1) f):=by rw[List.getElem?_take,if_pos hm,aQ _ (by omega)]
  have ed:detF (i+1) f=dk f (i+1):=mn fun t ht=>hd t (by omega)
  rw[ed]at a1;have c1:=kt (dk f (i+1)) (by rw[<- ed];exact(oG (by omega) fun a b ha hb=>hf a b (by omega) (by omega)).mono (by omega));have s0:=CY (hd i (by omega));generalize sg (dk f (i+1))=q at*
  generalize dk f (i+1)=D at*
  refine aK (k:=bv rfl (aF (aG (aX a1 (k:=dr [⟨1,_,_,_,c1⟩] s0 (k:=aJ rfl (aH (bW (k:=?_)))))))));refine⟨⟨i+1,by omega⟩,by simp only;omega,aE trivial ?_⟩;simp[wk]
 have hin:i=n-1:=by omega
 subst hin;refine aK (k:=bE rfl (bC (k:=aF (il hml (k:=?_)))));refine aO (G:=iJ n) (fun g=>⟨(dV (bi n n f)::j4 (jk::jk::jk::.one (.sl 41 0 0 g.i)::j16 (j4 (jk::jk::jk::rN n::rN g.i::j4 (j4 (jk::jk::[])))))),Hm [(41,[⟨37,1,lc fB (yD n f g.i)⟩])]⟩) (fun g=>n-g.i) ⟨0,by omega⟩ ?_ ?_
 ·refine(dx (k:=8) (d:=41) 37 1 (by omega) rfl rfl).trans (aE ⟨rfl,trivial⟩ ?_);simp[wk]
 rintro⟨k,hk⟩;simp only;by_cases hm2:k<n
 ·have c2:=OL n f k hn hm2 (fun t ht=>hd t (by omega)) hf;have hsl:=Hb n f k;refine aK (k:=bv rfl (aF (aG (bC (k:=yW [⟨3,_,_,_,c2⟩] (aP hsl (aP @L1 @No)) (k:=bW (k:=?_)))))));refine⟨⟨k+1,by omega⟩,by simp only;omega,aE ⟨rfl,trivial⟩ ?_⟩;simp[wk]
 have hkn:k=n:=by omega
 subst hkn;refine aK (k:=bE rfl (bC (k:=?_)));have eT:List.take k (yD k f k)=yD k f k:=List.take_of_length_le (by rw[Hb];omega);refine bA ⟨.inr rfl,fo 41 (bQ rfl) ?_ rfl⟩;simp(disch:=omega) only[kd,Tryz.results102,eT]
section
structure Uc (a len:Nat) where
 t:Nat
 O:List Nat
 ht:t<=32*len
 len:O.length=len
 lmb:Lmb O
 q:Nat
 val:natV O=q*2^t
 lo:natV O*natV O<=a
 hi:a<(natV O+2^t)*(natV O+2^t)
theorem FW {n k x q:Nat} {O:List Nat} (ht:k+1<=32*n) (len:O.length=n) (lmb:Lmb O) (val:natV O=q*2^(k+1)) (hx:O[k/32]?=some x):
  x|||2^(k%32)=x+2^(k%32)/\x+2^(k%32)<4294967296/\natV (O.set (k/32) (x+2^(k%32)))=natV O+2^k/\(x+2^(k%32))&&&(4294967295-2^(k%32))=x:=by
 have hx':=cq lmb hx;have hj:k%32<32:=Nat.mod_lt _ (by omega);have h1:=mz lmb hx;have ek:2^(k+1)=2^(32*(k/32))*2^(k%32+1):=by rw[<- Nat.pow_add];congr 1;omega
 rw[yv]at h1;have h3:x=q%2^(31-k%32)*2^(k%32+1):=by
  rw[<- h1,val,ek,Nat.mul_comm (2^(32*(k/32))),<- Nat.mul_assoc,Nat.mul_div_cancel _ (Nat.pow_pos (by omega))];rw[show(4294967296:Nat)=2^(31-k%32)*2^(k%32+1) by rw[<- Nat.pow_add,show 31-k%32+(k%32+1)=32 by omega],Nat.mul_mod_mul_right]
 have h4:x|||2^(k%32)=x+2^(k%32):=by
  have:=pY (q%2^(31-k%32)) (2^(k%32)) (k%32+1) (Nat.pow_lt_pow_right (by omega) (by omega));rw[<- h3]at this;exact this
 have hor:x|||2^(k%32)<4294967296:=Nat.or_lt_two_pow (n:=32) hx' (Nat.pow_lt_pow_right (by omega) hj);have h2:=nO O (k/32) (x+2^(k%32)) x hx;rw[yv]at h2;rw[Nat.add_mul,<- Nat.pow_add,show k%32+32*(k/32)=k by omega]at h2;refine⟨h4,by rw[<- h4];exact hor,by omega,?_⟩;rw[<- h4];apply Nat.eq_of_testBit_eq;intro i;have hb:(4294967295-2^(k%32))=2^32-(2^(k%32)+1):=by omega
 rw[Nat.testBit_and,Nat.testBit_or,hb,Nat.testBit_two_pow_sub_succ (Nat.pow_lt_pow_right (by omega) hj),Nat.testBit_two_pow];by_cases hi:i<32
 ·by_cases e:k%32=i
  ·have hxi:x.testBit i=false:=by
    rw[h3,<- e,Nat.testBit_mul_two_pow,decide_eq_false (by omega),Bool.false_and]
   rw[hxi];simp[e]
  simp[hi,e]
 have:x.testBit i=false:=Nat.testBit_lt_two_pow (Nat.lt_of_lt_of_le hx' (Nat.le_trans (by decide:4294967296<=2^32) (Nat.pow_le_pow_right (by omega) (show 32<=i by omega))));rw[this];simp[hi]
theorem KL {x p:Nat} (hx:x<4294967296) (hp:p<4294967296):IntKind.u32.wrap (((BitVec.ofInt IntKind.u32.bits (x:Int)&&& ~~~BitVec.ofInt IntKind.u32.bits (p:Int)).toNat:Nat):Int)=((x&&&(4294967295-p):Nat):Int):=by
 rw[tI];show(((BitVec.ofInt 32 (x:Int)&&& ~~~BitVec.ofInt 32 (p:Int)).toNat%4294967296:Nat):Int)=_;rw[BitVec.toNat_and,BitVec.toNat_not];have e: ∀y:Nat,y<4294967296->(BitVec.ofInt 32 (y:Int)).toNat=y:=fun y hy=>by rw[BitVec.toNat_ofInt];show((y:Int)%4294967296).toNat=y;omega
 rw[e x hx,e p hp,Nat.mod_eq_of_lt];exact Nat.lt_of_le_of_lt Nat.and_le_left hx
theorem U0 {a len k x:Nat} (g:Uc a len) (hk:g.t=k+1) (hx:g.O[k/32]?=some x) (h:(natV g.O+2^k)*(natV g.O+2^k)<=a): ∃g':Uc a len,g'.t=k/\g'.O=g.O.set (k/32) (x+2^(k%32)):=by
 obtain⟨t,O,ht,hl,lmb,q,val,lo,hi⟩:=g;simp only at hk hx h;subst hk;obtain⟨b1,b2,b3,_⟩:=FW ht hl lmb val hx;refine⟨⟨k,_,by omega,by simp[hl],qR lmb b2,2*q+1,?_,by rw[b3];exact h,?_⟩,rfl,rfl⟩
 ·rw[b3,val,Nat.pow_succ];grind
 rw[b3,Nat.add_assoc,<- Nat.two_mul,Nat.mul_comm 2,<- Nat.pow_succ];exact hi
theorem U1 {a len k:Nat} (g:Uc a len) (hk:g.t=k+1) (h:a<(natV g.O+2^k)*(natV g.O+2^k)): ∃g':Uc a len,g'.t=k/\g'.O=g.O:=by
 obtain⟨t,O,ht,hl,lmb,q,val,lo,hi⟩:=g;simp only at hk h;subst hk;exact⟨⟨k,_,by omega,hl,lmb,2*q,by rw[val,Nat.pow_succ];grind,lo,h⟩,rfl,rfl⟩
theorem TM {a len:Nat} (g:Uc a len) (h:g.t=0):(natV g.O:Int)=jI (a:Int):=by
 obtain⟨t,O,ht,hl,lmb,q,val,lo,hi⟩:=g;simp only at h;subst h;refine OD.uniq (a:=(a:Int)) ⟨by omega,by exact_mod_cast lo,?_⟩ (oI (by omega));have:=Int.ofNat_lt.2 hi;simpa using this
theorem NB {a len:Nat} (h:(aL a).length<=2*len):a<(0+2^(32*len))*(0+2^(32*len)):=by
 have h1:=fF (aU a);rw[aN,yv]at h1;rw[Nat.zero_add,<- Nat.pow_add];exact Nat.lt_of_lt_of_le h1 (Nat.pow_le_pow_right (by omega) (by omega))
/-! A call that reads an own row: the callee is right wherever the row's block holds these numbers. -/
def RK (L:List Nat):List PV:=L.map fun n:Nat=> .raw (.int .u32 (n:Int))
section
variable {P:Program} {b:Nat} {ty:TypeId}
theorem Ty {w:World} {L:List Nat} {i x:Nat} (h:uA b ty (RK L) w) (hx:L[i]?=some x):w.cell? ⟨b,i,none⟩=some (.int .u32 (x:Int)):=by
 obtain⟨v,h1,h2,_⟩:=h.2 i (.raw (.int .u32 (x:Int))) (by simp[RK,hx]);injection h1 with h1
 rw[h1];exact h2
theorem CallG.ofO {f:FuncId} {L:List Nat} {cap:Nat} {res:CallRes} (hcon:CallC P f [dw L] res) (hsafe:jK res) (hL:L.length<=cap) (hm:L.length<=9223372036854775807):CallG P b ty f [.raw (.slice (some ⟨b,0,none⟩) L.length cap)] (RK L) res:=by
 refine⟨hcon.1,fun w hw=>⟨hcon.1,fun X vs hX hvs ha=>?_⟩⟩;refine(hcon.2 (fun _=>False) w vs (fun _ h=>h.elim) hvs fun j t ht=>?_).mono ?_
 ·obtain⟨v,v1,v2⟩:=ha 0 _ rfl;cases j with
  |succ j=>simp at ht
  |zero=>
   simp at ht;subst ht;refine⟨v,v1,?_⟩;obtain rfl:=(bO (ρ:=fun _ _=>none) (H:=fun _=>[]) v2).1;have e:(ls fU L).length=L.length:=by simp[ls]
   have:=cu.sl (X:=fun _=>False) (w:=w) b 0 1 cap (ls fU L) (fun i _=> .int .u32 (L.getD i 0:Nat)) (fun h=>h) hw.lt (fun e he=>by
    obtain⟨z,_,rfl⟩:=List.mem_map.1 he;rfl) (by omega) (by omega) (fun i e j x he hx=>by
    simp only[ls,az]at he;obtain⟨z,hz,rfl⟩:=Option.map_eq_some_iff.1 he;cases j with
    |succ j=>simp[fU]at hx
    |zero=>simp only[Nat.zero_add,Nat.mul_one,Nat.add_zero,List.getD_eq_getElem?_getD,hz,Option.getD_some];exact Ty hw hz) (fun i e j x he hx=>by
    simp only[ls,az]at he;obtain⟨z,hz,rfl⟩:=Option.map_eq_some_iff.1 he;cases j with
    |succ j=>simp[fU]at hx
    |zero=>
     simp[fU]at hx;subst hx;simp only[List.getD_eq_getElem?_getD,hz,Option.getD_some];exact cu.raw _ rfl)
   rw[e]at this;exact this
 rintro e w1 ⟨v,rfl,ρc,hi,hr⟩;have hfam: ∀(x r:Nat) o,(famH 0 res.fam x)[r]?=some o->o∈res.fam:=fun x r o ho=>by
  unfold famH at ho;split at ho
  ·exact aw ho
  simp at ho
 refine⟨v,rfl,ρc,⟨hi.keep,fun x r o ho=>?_,hi.inj,fun x r o b' c ho hb=>?_,fun b' hb=>Nat.lt_of_lt_of_le (hX b' hb) hi.keep.size,hi.self⟩,wH hsafe.1 hr⟩
 ·obtain⟨z1,z2,z3⟩:=hi.objs x r o ho;refine⟨z1,z2,?_⟩;cases hr0:ρc x r with
  |none=>rw[hr0]at z3;exact z3
  |some bc=>
   obtain⟨b',n⟩:=bc;rw[hr0]at z3;obtain⟨cells,p1,p2,p3,p4,p5⟩:=z3;refine⟨cells,p1,p2,p3,p4,fun i e j z he hz=>?_⟩;obtain⟨u,u1,u2,u3⟩:=p5 i e j z he hz;exact⟨u,u1,u2,n9 (hsafe.2 o (hfam x r o ho) e (aw he) z (aw hz)) u3⟩
 have:=(hi.old x r o b' c ho hb).1;rcases this with h|h
 ·exact⟨.inl h,fun hx=>by have:=hX b' hx;omega⟩
 exact h.elim
variable {s:AS} {w0 w:World} {O X:Nat->Prop} {a:Act}
structure Vs (ops:Array Oper) (m:Nat) (f:FuncId) (x:Bool) (fa:Nat) (ty:TypeId) (L:List Nat) (s:AS):Prop where
 ts:cwTs ops m s=some (f,[.raw (.bool x),.one (.sl fa 0 0 L.length)])
 row:s.H fa=[⟨ty,1,lc fU L⟩]
theorem KN (hrel:fW w0 O X s a w) {o:Oper} {c:Call} {f:FuncId} (ho:o.op= .call c) (hcal:c.callee= .value (.func f)) {x:Bool} {L:List Nat} {fa:Nat} {r:TV} (hcon: ∀b cap,L.length<=cap->CallG P b ty f [.raw (.bool x),.raw (.slice (some ⟨b,0,none⟩) L.length cap)] (RK L) ⟨[],r⟩) (hpl:CallRes.plain ⟨[],r⟩=false)
  (hev:f6 s.ev c.args.toList=some [.raw (.bool x),.one (.sl fa 0 0 L.length)]) (hrow:s.H fa=[⟨ty,1,lc fU L⟩]) (hL:0<L.length) {d:Nat} (hdst:o.dst=some d) {K:Act->World->Prop} {Q:Exit->Act->World->Prop}
  (hK: ∀v w',fW w0 O X (AS.put s o.dst (renTV d r)) (a.put o.dst v) w'->K (a.put o.dst v) w'):o.wp P a w K Q:=by
 obtain⟨h1,hsz,ρ,hinv,htm⟩:=hrel;have htm:bY X ρ s a w:=htm;obtain⟨e1,e2⟩:=dm hev;obtain⟨y0,hy0,ht0⟩:=e2 0 _ rfl;obtain⟨y1,hy1,ht1⟩:=e2 1 _ rfl;have r0:=(bO (ρ:=ρ) (H:=s.H) (cz htm y0 _ ht0)).1;have hXlt: ∀j,Xo X ρ s.H j->j<w.heap.size:=fun b hb=>by
  rcases hb with hb|⟨x,y,o',n,g1,g2⟩
  ·exact hinv.bar b hb
  exact bP (hinv.objs x y o' g1) g2
 obtain⟨o',g1,g2,g3⟩:=cz htm y1 _ ht1;have hget:(s.H fa)[0]?=some ⟨ty,1,lc fU L⟩:=by rw[hrow];rfl
 rw[hget]at g1;injection g1 with g1
 subst g1;obtain⟨b,cc,cap,hρ,hv,hcap⟩: ∃b cc cap,ρ fa 0=some (b,cc)/\a.eval y1= .slice (some ⟨b,0,none⟩) L.length cap/\L.length<=cap:=by
  rcases g3 with⟨_,_,g4,_⟩|⟨b,cc,cap,g3,g5,g6,_⟩
  ·omega
  exact⟨b,cc,cap,g3,by rw[g5,Nat.zero_mul],g6⟩
 have hob:=hinv.objs fa 0 _ hget;have hbox:uA b ty (RK L) w:=by
  refine⟨bP hob hρ,fun j x hj=>?_⟩;obtain⟨_,_,q3⟩:=hob;rw[hρ]at q3;obtain⟨cells,p1,p2,p3,p4,p5⟩:=q3;simp only[RK,az]at hj;obtain⟨z,hz,rfl⟩:=Option.map_eq_some_iff.1 hj;obtain⟨v,v1,v2,v3⟩:=p5 j [.p (.raw (.int .u32 (z:Int)))] 0 _ (by simp[lc,fU,hz]) rfl;have:=(bO (ρ:=ρ) (H:=s.H) v3).1;subst this;refine⟨_,rfl,?_,v2⟩;simp only[Nat.mul_one,Nat.add_zero]at v1;simp[World.cell?,p1,v1]
 have hrun:=iD (w:=w) ho hcal (e:=a.eval) rfl (hcon b cap hcap).1;unfold Oper.wp;rw[hrun];simp only[Oper.upon];have hsize:c.args.size=2:=by simpa using e1.symm
 refine(((hcon b cap hcap).2 w hbox).2 (Xo X ρ s.H) (c.args.map a.eval) hXlt (by simp[hsize]) fun j u hu=>?_).mono ?_
 ·match j,hu with
  |0,hu=>
   simp at hu;subst hu;refine⟨a.eval y0,?_,by rw[r0];exact cu.raw _ rfl⟩;rw[Array.getElem?_map];have:c.args[0]?=some y0:=by simpa using hy0
   rw[this];rfl
  |1,hu=>
   simp at hu;subst hu;refine⟨a.eval y1,?_,by rw[hv];exact cu.raw _ rfl⟩;rw[Array.getElem?_map];have:c.args[1]?=some y1:=by simpa using hy1
   rw[this];rfl
  |j+2,hu=>simp at hu
 rintro e w1 ⟨v,rfl,ρc,hi,hr⟩;show K (a.put o.dst v) w1;have:=j9 (P:=P) (it:=(⟨0,f,[],⟨[],r⟩⟩:dD P)) (d:=d) (v:=v) (w1:=w1) (ρc:=ρc) h1 hsz hinv htm rfl rfl (fun h=>(h rfl).elim) (by rw[if_neg (by rw[hpl];decide)];exact hi) (by rw[if_neg (by rw[hpl];decide)];exact hr);rw[hdst]at hK⊢;exact hK v w1 this
theorem DH (m:Nat) {f:FuncId} {x:Bool} {L:List Nat} {r:TV} (hcon: ∀b cap,L.length<=cap->CallG P b ty f [.raw (.bool x),.raw (.slice (some ⟨b,0,none⟩) L.length cap)] (RK L) ⟨[],r⟩) (hpl:CallRes.plain ⟨[],r⟩=false) (fa:Nat) (hL:0<L.length) (items:List (aM P)) (ow:List Nat) {id:Nat} {ops:Array Oper} {y:Code} {Q:Exit->AS->Prop} {d:Nat} (hd:cwD ops m=some d) (hm:m<ops.toList.length)
  (h: ∀K:AS->Prop,(∀s1,(Vs ops m f x fa ty L s1/\ ∀K:AS->Prop,(∀s',bL P y Q s'->K s')->bD P (items.map aM.a) ow (aY ops (ops.toList.drop (m+1)) (m+1)) (some (s1.put (some d) (renTV d r))) K)->K s1)->bD P (items.map aM.a) ow (aY ops (ops.toList.take m) 0) (some s) K):bL P (.seq (.region id ops false) y) Q s:=aF fun w0 O X a w r0=>by
 obtain⟨s1,h1,⟨q1,q2⟩,h2⟩:=bK P (items.map aM.a) ow ops _ 0 s _ (h _ fun s1 h=>h);obtain⟨s',h3,h4⟩:=bK P (items.map aM.a) ow ops _ (m+1) _ _ (h2 (iF (bL P y Q) Q .normal) fun _ h=>h);obtain⟨o,ho⟩: ∃o,ops[m]?=some o:=⟨ops[m],by simp at hm;simp[hm]⟩;have hdst:o.dst=some d:=by
  unfold cwD at hd;rw[ho]at hd;exact hd
 unfold cwTs at q1;rw[ho]at q1;simp only at q1;split at q1
 ·rename_i c hg hop1;split at q1
  ·rename_i f' hcal;split at q1
   ·rename_i ts hts;injection q1 with q1
    injection q1 with q1 q3
    subst q1 q3;refine wp_region ?_;have hsz:ops.size=(ops.toList.take m).length+(1+(ops.toList.drop (m+1)).length):=by simp at hm⊢;omega
    rw[hsz,List.range_eq_range',<- List.range'_append_1,Nat.zero_add];have hml:(ops.toList.take m).length=m:=by rw[List.length_take];omega
    refine iC (aM.ok items) (ops.toList.take m) 0 s s1 a w (fun j o hj=>?_) h1 r0 fun a' w' r'=>?_
    ·rw[List.getElem?_take]at hj;split at hj
     ·simpa using hj
     cases hj
    rw[hml,Nat.add_comm 1,List.range'_succ];simp only[wpOps,ho];rw[if_pos (by simp[Region.wanted,hg])];refine .inl (KN r' hop1 hcal hcon hpl hts q2 hL hdst fun v w1 hr1=>?_);refine eZ (aM.ok items) (Q:=fun e a' w'=> ∃s',iF (bL P y Q) Q e s'/\fW w0 O X s' a' w') (ops.toList.drop (m+1)) (m+1) _ s' _ _ (fun j o hj=>?_) h3 ?_ (fun a' w' hr=>⟨s',h4,hr⟩)
    ·rw[List.getElem?_drop]at hj;simpa using hj
    rw[<- hdst];exact hr1
   cases q1
  cases q1
 cases q1
end
theorem TY (l:List Nat) (hb:l.length<=1073741824):CallC Tryz.prog 31 [dw l] ⟨[⟨56,1,lc fU (du l)⟩],.one (.sl 0 0 0 (du l).length)⟩:=by
 refine aS Tryz.func31 rfl Tryz.ntmps31 (aT (k:=bC (k:=?_)));refine FP (G:={n:Nat//n<=l.length/\du l=du (l.take n)}) (fun n=>⟨(dw l::jk::.raw (.slice none 0 0)::.raw (.int .i64 n.1)::j16 (jk::jk::[])),Hm []⟩) (fun n=>n.1) ⟨l.length,Nat.le_refl _,by simp⟩ ?_ ?_
 ·refine aE trivial ?_;simp[wk]
 rintro⟨n,hn,hT⟩;simp only;by_cases h0:0<n
 ·obtain⟨a,ha⟩:=getElem?_of_lt (l:=l) (k:=n-1) (by omega);have e1:((n:Int)-1).toNat=n-1:=by omega
  refine aF (aX (aP e1 ha) (k:=?_));have htk:l.take n=l.take (n-1)++[a]:=by
   have:=List.take_succ_eq_append_getElem (i:=n-1) (l:=l) (by omega);rw[show n-1+1=n by omega]at this;rw[this,(List.getElem?_eq_some_iff.1 ha).2]
  refine bV rfl (fun hz=>aH ?_) (fun hz=>bz ?_)
  ·have hz':a=0:=by simpa using hz
   refine aG (bW (k:=?_));refine⟨⟨n-1,by omega,?_⟩,by simp only;omega,aE trivial ?_⟩
   ·rw[hT,htk,hz',kB]
   have e:((n-1:Nat):Int)=(n:Int)-1:=by omega
   simp[wk,e]
  have hz':a≠0:=by intro e;simp[e]at hz
  have hfin:du l=l.take n:=by rw[hT,htk,s6 hz']
  show bL _ _ _ _;have hlen:(l.take n).length=n:=by simp;omega
  rw[hfin,hlen];refine aX (aP @Nat.zero_le (aP (jy pL) (aP hlen (nG pL)))) (k:=?_);refine bA ⟨.inr rfl,_,ci.refl _,?_⟩;refine⟨.one (.sl 21 0 0 n),21,?_,rfl,?_,rfl⟩
  ·simp(disch:=omega) only[kd,Tryz.results31]
  simp[Hm,be,renO,pQ]
 have hn0:n=0:=by omega
 subst hn0;have hfin:du l=[]:=by rw[hT];simp[du]
 rw[hfin];refine aF (aK (k:=bV rfl (fun hz=>by cases hz) (fun hz=>bz (aX (aP @Nat.zero_le (jy pL)) (k:=?_)))));refine bA ⟨.inr rfl,_,ci.refl _,?_⟩;refine⟨.one (.sl 21 0 0 0),21,?_,rfl,?_,rfl⟩
 ·simp(disch:=omega) only[kd,Tryz.results31]
 simp[Hm,be,renO,lc]
theorem Ep {H:OH} {d:Nat} {t:TypeId} {l:List Nat} (h:H d=[⟨t,1,lc fU l⟩]):gX H d (.one (.sl d 0 0 l.length))=dw l:=by
 simp only[gX,fX,if_true,h,List.getElem?_cons_zero,Nat.zero_add,List.drop_zero];rw[List.take_of_length_le (by simp[lc]),gN]
theorem Ng (l:List Nat):jK ⟨[⟨56,1,lc fU l⟩],.one (.sl 0 0 0 l.length)⟩:=by
 refine⟨rfl,fun o ho e he x hx=>?_⟩;simp at ho;subst ho;simp only[lc,fU,ak]at he;obtain⟨y,_,rfl⟩:=he;simp at hx;subst hx;rfl
theorem Te {b:Nat} (l:List Nat) (h:Lmb l) (hb:l.length<=1073741824) {cap:Nat} (hc:l.length<=cap):CallG Tryz.prog b 56 23 [.raw (.bool false),.raw (.slice (some ⟨b,0,none⟩) l.length cap)] (RK l) ⟨[],tZ (natV l:Int)⟩:=by
 have ht:=CallG.ofO (b:=b) (ty:=56) (TY l hb) (Ng _) hc (by omega);rw[dX h]at ht;refine gf Tryz.func23 rfl (by kernel_rfl) ?_;rw[Tryz.ntmps23];refine pj (k:=?_);refine dy [⟨1,_,_,_,ht,rfl⟩] [] [] fun _ K=>?_;simp(disch:=omega) only[kd,fv.a,aa,ab];apply K
 refine dS.weak ((aE (tm:=(.raw (.bool false)::jk::jk::jk::.one (.ptr 4 0 0 0)::.one (.sl 7 0 0 (aL (natV l)).length)::j4 (j4 (jk::jk::[])))) (l:=[(4,tn),(7,[⟨56,1,lc fU (aL (natV l))⟩])]) ⟨rfl,rfl,trivial⟩ (by simp[wk])).trans ((bT 7 (bQ rfl)).trans (aE (tm:=(.raw (.bool false)::jk::jk::jk::.one (.ptr 4 0 0 0)::dw (aL (natV l))::j4 (j4 (jk::jk::[])))) (l:=[(4,tn)]) ⟨rfl,trivial⟩ (by
  simp[wk]
  (repeat' apply And.intro)<;>first|rfl|exact(Ep (d:=7) (t:=56) (l:=aL (natV l)) rfl).symm)))) ?_
 refine dn (k:=?_)
 (refine fg ⟨.inr rfl,rfl,cd rfl ?_ rfl⟩;simp(disch:=omega) only[kd,Tryz.results23,aa,tZ])
 simp[tZ]
end
theorem L2 (c:Int) (y:List Int):[AV.p (.raw (.int .i64 c))]::lc fI y=lc fI (c::y):=rfl
theorem Cc (c:Int) (y:List Int) (hy:y.length<=16):CallC Tryz.prog 104 [.raw (.int .i64 c),jL y] ⟨[],jL (c::y)⟩:=by
 refine aS Tryz.func104 rfl Tryz.ntmps104 (aT (k:=?_));refine cB [] [6] fun _ K=>?_;simp(disch:=omega) only[kd,aa,Nat.reduceMul,Nat.reduceLeDiff,nG S0,L2];apply K
 refine bA ⟨.inr rfl,fo 6 (bQ rfl) ?_ rfl⟩;simp(disch:=omega) only[kd,Tryz.results104,jL];rw[List.take_of_length_le (by simp;omega)]
theorem Rf (n:Nat) (f:FF) (y:List Int) (hn1:1<=n) (hn:n<=8) (hy:y.length=n) (hf: ∀i j:Nat,Sz (f i j) 1024) (sy: ∀z∈y,Sz z 65536):
  CallC Tryz.prog 138 [dV (bi n n f),xq y] ⟨[],tZ (dE y (Dq n n f y) n)⟩:=by
 have c1:=Oz n n f y hn1 (by omega) hn1 (by omega) hy hf sy;have c2:=FH y (Dq n n f y) (by omega) (by rw[bf];omega) (fun z hz=>(sy z hz).mono (by omega)) (fun z hz=>by
  obtain⟨j,_,rfl⟩:=List.mem_map.1 hz;exact(mb (b:=1024) (c:=65536) (gu fun z hz=>by obtain⟨j,_,rfl⟩:=List.mem_map.1 hz;exact hf _ _) (gu sy) n).mono (by omega))
 rw[hy]at c2;generalize Dq n n f y=Y at*
 refine aS Tryz.func138 rfl Tryz.ntmps138 (aT (k:=cb [⟨2,_,_,_,c1⟩] (k:=bN [⟨2,_,_,_,c2⟩] (k:=aV @Tryz.results138))))
def dL (n:Nat) (f:FF):List Int:=bj (n+1) (dk f)
theorem Lc {n k:Nat} (f:FF) (h:k<=n):(dL n f)[k]?=some (dk f k):=aQ _ (by omega)
theorem Pe (n:Nat) (f:FF):(1:Int)::bj n (fun k=>dk f (k+1))=dL n f:=by
 unfold dL bj;rw[List.range_succ_eq_map,List.map_cons,List.map_map];rfl
def C8 (n:Nat) (f:FF):TV:= .agg [.p (.raw (.int .i64 (n:Int))),.p (.sl (ls fB (yD n f n))),.p (.sl (ls fZ (dL n f)))]
theorem PH (l:List Int):[AV.p (.raw (.bool false)),.p (.sl (ls fU (aL (Int.natAbs 1))))]::lc fZ l=lc fZ (1::l):=rfl
theorem Lz (n:Nat) (f:FF) (hn1:1<=n) (hn:n<=8) (hd: ∀t,t<n->dk f (t+1)≠0) (hf: ∀i j,i<n->j<n->rI (f i j)):
  CallC Tryz.prog 70 [dj (bi n n f)] ⟨[],C8 n f⟩:=by
 have hml:=aW n n f;have sf: ∀i j,i<n->j<n->Sz (f i j) 1024:=fun i j hi hj=>(hf i j hi hj).sz (by omega)
 have c1:=Se n n f hn1 (by omega) hn1 (by omega) hf;have c2:=Jy n f hn1 hn hd sf;have c3:=lE n f hn1 (by omega) sf;have e:vS n f=bj n fun k=>dk f (k+1):=List.map_congr_left fun k hk=>mn fun t ht=>hd t (by have:=List.mem_range.1 hk;omega)
 unfold Tb at c3;rw[e]at c3;have c4:=eA 1 (by omega) (by omega);have hl:(bj n fun k=>dk f (k+1)).length=n:=bf _ _;have hdL:(dL n f).length=n+1:=bf _ _;have hcons:=Pe n f;unfold C8;generalize bj n (fun k=>dk f (k+1))=L at*
 refine aS Tryz.func70 rfl Tryz.ntmps70 (aT (k:=cb [⟨1,_,_,_,c1⟩] (k:=cb [⟨1,_,_,_,c2⟩] (k:=cb [⟨1,_,_,_,c3⟩] (k:=?_)))));refine xz 7 [⟨3,_,_,_,c4⟩] [24] (by simp) (by decide) fun _ K=>?_;simp(disch:=omega) only[kd,tZ,aa,hml,Nat.reduceMul,Nat.reduceLeDiff,ab,hl,nG zA,PH,hcons,Nat.reduceBEq];apply K
 refine⟨_,bT 24 (bQ rfl),by simp[wk],?_⟩;simp only[List.map_cons,List.map_nil,gX,fX];intro _ K;simp(disch:=omega) only[kd,tZ,aa,ab,Nat.reduceLeDiff];apply K
 (refine bA ⟨.inr rfl,cd rfl ?_ rfl⟩;simp(disch:=omega) only[kd,Tryz.results70,ab,aa])
 rw[List.take_of_length_le (by omega)]
theorem PQ {l:List Nat} {K:Nat} (h:Lmb l) (hl:l.length<=K):Sz ((natV l:Nat):Int) K:=by
 show((natV l:Nat):Int).natAbs<_;rw[Int.natAbs_natCast];exact Nat.lt_of_lt_of_le (fF h) (Nat.pow_le_pow_right (by omega) hl)
theorem Qv {α:Type} {l:List α} {i:Nat} {x:α} (h:l[i]?=some x):l.set i x=l:=by
 apply List.ext_getElem?;intro j;by_cases e:i=j
 ·subst e;rw[List.getElem?_set_self (List.getElem?_eq_some_iff.1 h).1,h]
 rw[List.getElem?_set_ne e]
theorem Sh (a:Int) (h0:0<=a) (ha:Sz a 1000000):CallC Tryz.prog 136 [tZ a] ⟨[],.tup [(true,cZ (jI a)),(false,[.p (.raw (.bool true))])]⟩:=by
 have cs:=kt a (ha.mono (by omega));have hs:0<=sg a:=by unfold sg;split<;>(try split)<;>omega
 have hl:=ha.len;have ct:=iU (aL a.natAbs) (by omega);rw[dX (aU _),aN]at ct;obtain⟨N,hN⟩: ∃N,N=((aL a.natAbs).length+1)/2:=⟨_,rfl⟩;have hNb:N<=1000000:=by omega
 have st:=NB (a:=a.natAbs) (len:=N) (by omega);have e1:IntKind.i64.wrap (((aL a.natAbs).length:Int)+1)=(((aL a.natAbs).length+1:Nat):Int):=by rw[bu (by omega) (by omega)];omega
 have e2:IntKind.i64.wrap (Int.tdiv (((aL a.natAbs).length+1:Nat):Int) 2)=(N:Int):=by
  rw[Int.tdiv_eq_ediv_of_nonneg (by omega),bu (by omega) (by omega)];omega
 have e3:IntKind.i64.wrap (IntKind.i64.wrap (32*(N:Int))-1)=((32*N:Nat):Int)-1:=by
  rw[bu (n:=32*(N:Int)) (by omega) (by omega),bu (by omega) (by omega)];omega
 have ea:((a.natAbs:Nat):Int)=a:=by omega
 refine aS Tryz.func136 rfl Tryz.ntmps136 (aT (k:=aF (bN [⟨1,_,_,_,cs⟩] (k:=aJ rfl (aH (cb [⟨2,_,_,_,ct⟩] (k:=aX (aP e1 (aP e2 @kR)) (k:=aF (aK (k:=?_))))))))));refine aO (G:=Uc a.natAbs N) (fun g=>⟨(jk::.one (.ptr 1 0 0 0)::.one (.ptr 2 0 0 0)::jk::jk::.one (.sl 19 0 0 N)::.raw (.int .i64 ((g.t:Int)-1))::j16 (j16 (j16 (jk::jk::jk::[])))),Hm [(1,tU false (aL a.natAbs)),(2,tn),(19,[⟨56,1,lc fU g.O⟩])]⟩) (fun g=>g.t) ⟨32*N,List.replicate N 0,by omega,by simp,fun x hx=>by simp at hx;omega,0,by rw[lP,Nat.zero_mul],by rw[lP];omega,by rw[lP];exact st⟩ ?_ ?_
 ·refine aE ⟨rfl,rfl,rfl,trivial⟩ ?_;simp[wk]
 rintro g;obtain⟨t,ht⟩: ∃t,t=g.t:=⟨_,rfl⟩;have hlen:=g.len;have hlm:=g.lmb;have hgt:=g.ht;cases t with
 |zero=>
  have ef:=TM g ht.symm;rw[ea]at ef;have hg0:((g.t:Int)-1)= -1:=by omega
  rw[hg0];have hmk:=jz false g.O hlm (by omega);rw[show gD false (natV g.O)=(natV g.O:Int)from rfl,ef]at hmk;refine aF (bC (k:=aJ rfl (bz ?_)));show bL _ _ _ _;have hfz:=Ep (H:=Hm [(1,tU false (aL a.natAbs)),(2,tn),(19,[⟨56,1,lc fU g.O⟩])]) (d:=19) (t:=56) (l:=g.O) rfl;rw[hlen]at hfz;refine bL.weak ((aE (tm:=(jk::.one (.ptr 1 0 0 0)::.one (.ptr 2 0 0 0)::jk::jk::.one (.sl 19 0 0 N)::j16 (j16 (j16 (j4 ([])))))) (l:=[(1,tU false (aL a.natAbs)),(2,tn),(19,[⟨56,1,lc fU g.O⟩])]) ⟨rfl,rfl,rfl,trivial⟩ (by simp[wk])).trans ((bT 19 (bQ rfl)).trans (aE (tm:=(jk::.one (.ptr 1 0 0 0)::.one (.ptr 2 0 0 0)::jk::jk::dw g.O::j16 (j16 (j16 (j4 ([])))))) (l:=[(1,tU false (aL a.natAbs)),(2,tn)]) ⟨rfl,rfl,trivial⟩ (by
   simp[wk]
   (repeat' apply And.intro)<;>first|rfl|exact hfz.symm)))) ?_
  refine bN [⟨1,_,_,_,hmk⟩] (k:=aV @Tryz.results136)
 |succ k=>
  have hki:k/32<N:=by omega
  have ek:(g.t:Int)-1=(k:Int):=by omega
  rw[ek];obtain⟨x,hx⟩:=getElem?_of_lt (show k/32<g.O.length by omega);obtain⟨b1,b2,b3,b4⟩:=FW (show k+1<=32*N by omega) hlen hlm (by rw[ht];exact g.val) hx;have hx':=cq hlm hx;have hp2:2^(k%32)<4294967296:=Nat.pow_lt_pow_right (a:=2) (n:=32) (by omega) (Nat.mod_lt _ (by omega));have hq:IntKind.i64.wrap (Int.tdiv (k:Int) 32)=((k/32:Nat):Int):=by
   rw[Int.tdiv_eq_ediv_of_nonneg (by omega),IntKind.wrap_i64];omega
  have hr:Int.tmod (k:Int) 32=((k%32:Nat):Int):=by rw[Int.tmod_eq_emod_of_nonneg (by omega)];omega
  have e3:IntKind.u32.wrap (1*2^min (k%32) IntKind.u32.bits)=((2^(k%32):Nat):Int):=by
   rw[show min (k%32) IntKind.u32.bits=k%32 from by show min (k%32) 32=_;omega,Int.one_mul,show((2:Int)^(k%32))=((2^(k%32):Nat):Int) by rw[Int.natCast_pow];rfl,tI,Nat.mod_eq_of_lt hp2]
  have e4:=To x (2^(k%32)) hx' hp2;rw[b1]at e4;have e5:=KL b2 hp2;rw[b4]at e5;have hset:(g.O.set (k/32) (x+2^(k%32)))[k/32]?=some (x+2^(k%32)):=List.getElem?_set_self (by omega);have hback:(g.O.set (k/32) (x+2^(k%32))).set (k/32) x=g.O:=by
   rw[List.set_set];exact Qv hx
  have hl2:(g.O.set (k/32) (x+2^(k%32))).length=N:=by rw[List.length_set,hlen]
  have hlm2:Lmb (g.O.set (k/32) (x+2^(k%32))):=qR hlm b2;obtain⟨O',hO'⟩: ∃O',O'=g.O.set (k/32) (x+2^(k%32)):=⟨_,rfl⟩;rw[<- hO']at hset hback hl2 hlm2 b3;have hmk:=fun(b cap:Nat) (hc:O'.length<=cap)=>Te (b:=b) O' hlm2 (by omega) hc
  have hR:Sz ((natV O':Nat):Int) 1000000:=PQ hlm2 (by omega);have cm:=ib (natV O':Int) (natV O':Int) (hR.mono (by omega)) (hR.mono (by omega));have cc:=xu ((natV O':Int)*(natV O':Int)) a ((hR.mul hR).mono (by omega)) (ha.mono (by omega));have hfzO:=Ep (H:=Hm [(1,tU false (aL a.natAbs)),(2,tn),(19,[⟨56,1,lc fU O'⟩])]) (d:=19) (t:=56) (l:=O') rfl;rw[hl2]at hfzO;generalize he4:2^(k%32)=p2 at*
  generalize hy2:x+p2=y2 at*
  refine aF (aK (k:=aR rfl (aH (aF (aG (iN (aP hq (aP hx (aP hr (aP e3 (aP e4 @dA))))) (k:=?_)))))));rw[<- hO'];refine DH 1 hmk rfl 19 (by omega) [] [] rfl (by decide) fun K hK=>?_
  simp only[kd];apply hK;clear hK K;refine⟨⟨by rw[hl2];rfl,rfl⟩,?_⟩;intro K hK;simp(disch:=omega) only[kd,aa,ab];apply hK;clear hK K;by_cases hge:(natV O':Int)*(natV O':Int)<=a
  ·have hcz:mX ((natV O':Int)*(natV O':Int)) a<=0:=by unfold mX;split<;>(try split)<;>omega
   obtain⟨g',q1,q2⟩:=U0 g ht.symm hx (by
    have:((natV g.O+2^k:Nat):Int)*((natV g.O+2^k:Nat):Int)<=((a.natAbs:Nat):Int):=by rw[<- b3,ea];exact hge
    exact_mod_cast this)
   rw[he4,hy2,<- hO']at q2;refine df [⟨2,_,_,_,cm⟩,⟨4,_,_,_,cc⟩] (k:=aJ rfl (aH (bW (k:=?_))));refine⟨g',by omega,aE ⟨rfl,rfl,by rw[q2];rfl,trivial⟩ ?_⟩;simp[wk,q1]
  have hcz:0<mX ((natV O':Int)*(natV O':Int)) a:=by unfold mX;split<;>(try split)<;>omega
  obtain⟨g',q1,q2⟩:=U1 g ht.symm (by
   have:((a.natAbs:Nat):Int)<((natV g.O+2^k:Nat):Int)*((natV g.O+2^k:Nat):Int):=by rw[<- b3,ea];omega
   exact_mod_cast this)
  refine df [⟨2,_,_,_,cm⟩,⟨4,_,_,_,cc⟩] (k:=aR rfl (nk (aP hq (aP hset (aP hr (aP e3 (aP e5 (aP @dA hback)))))) (k:=bW (k:=?_))));refine⟨g',by omega,aE ⟨rfl,rfl,by rw[q2];rfl,trivial⟩ ?_⟩;simp[wk,q1]
theorem FR (x y:List Int): ∀l,dE x y l=smF (fun i=>x.getD i 0*y.getD i 0) l
 |0=>rfl
 |l+1=>by rw[smF,<- FR x y l];rfl
def RF (n:Nat) (f:FF) (y:List Int):Int:=BF n f (fun i=>y.getD i 0) fun i=>y.getD i 0
theorem Mn {n:Nat} (f:FF) {y:List Int} (hy:y.length=n):dE y (Dq n n f y) n=RF n f y:=by
 rw[FR];refine aI n fun i hi=>?_
 show _=y.getD i 0*smF (fun j=>f i j*y.getD j 0) n;rw[List.getD_eq_getElem?_getD (l:=Dq n n f y),aQ _ hi,Option.getD_some,oB _ _ _ (Nat.le_refl _)]
theorem Mg (v:Int):nN v 1=v/\nD v 1=1:=by
 unfold nN nD;rw[Int.gcd_one]
 simp
def SH (n:Nat) (f:FF):Nat->Nat->Int:=fun i j=>if i<n/\j<n then f i j else 0
theorem K1 {n:Nat} {f:FF} {i j:Nat} (hi:i<n) (hj:j<n):SH n f i j=f i j:=if_pos ⟨hi,hj⟩
theorem ND {n:Nat} (f:FF):bi n n (jN f 0)=bi n n (SH n f):=ig fun i j hi hj=>by
 rw[K1 hi hj];show bk f 0 (0+i) (0+j)=_;rw[dz,Nat.zero_add,Nat.zero_add]
theorem BL (n:Nat) (f:FF) (y:List Int) (hn1:1<=n) (hn:n<=8) (hy:y.length=n) (hf: ∀i j,i<n->j<n->rI (f i j)) (sy: ∀z∈y,rI z):
  CallC Tryz.prog 105 [C8 n f,jL y] ⟨[],tR (RF n f y) 1⟩:=by
 have c1:=AR y (by omega) sy;have szf: ∀i j:Nat,Sz (SH n f i j) 1024:=fun i j=>by
  unfold SH;split
  ·rename_i h;exact(hf i j h.1 h.2).sz (by omega)
  exact pf _
 have sy2: ∀z∈y,Sz z 65536:=fun z hz=>(sy z hz).sz (by omega)
 have c2:=Rf n (SH n f) y hn1 hn hy szf sy2;rw[Mn _ hy]at c2;have en:RF n (SH n f) y=RF n f y:=dY (fun i j hi hj=>K1 hi hj) (fun _ _=>rfl) (fun _ _=>rfl);have hv:Sz (RF n f y) 200000:=by
  rw[<- en,<- Mn _ hy];refine(mb (b:=65536) (c:=70000) (gu sy2) (gu fun z hz=>?_) n).mono (by omega);obtain⟨j,_,rfl⟩:=List.mem_map.1 hz;exact(mb (b:=1024) (c:=65536) (gu fun z hz=>by obtain⟨j,_,rfl⟩:=List.mem_map.1 hz;exact szf _ _) (gu sy2) n).mono (by omega)
 rw[en]at c2;have c3:=uJ (RF n f y) 1 (by omega) (hv.mono (by omega)) (mJ (by omega));rw[(Mg _).1,(Mg _).2]at c3;have g1:(yD n f n)[0]?=some (bi n n (SH n f)):=by rw[Ha f (by omega),Nat.sub_zero,ND]
 have g2:(dL n f)[0]?=some 1:=Lc f (by omega);have e0:IntKind.i64.wrap ((n:Int)-(n:Int))=0:=by rw[Int.sub_self];rfl
 generalize RF n f y=V at*
 unfold C8;generalize yD n f n=S at*
 generalize dL n f=D at*
 refine aS Tryz.func105 rfl Tryz.ntmps105 (pC @fB.eq_1 (k:=aF (aX hy (k:=aJ rfl (aH (il (aP hy e0) (k:=d6 [⟨6,_,_,_,c1⟩,⟨7,_,_,_,c2⟩,⟨13,_,_,_,c3⟩] (aP g1 g2) (k:=aV @Tryz.results105))))))))
theorem TO {n:Nat} {f:FF} (hr:RedR f n) (hn:n<=4) {k i j:Nat} (hk:k<n) (hi:i<n-k) (hj:j<n-k):Sz (jN f k i j) 2:=by
 have hp:=hr.pd;have hne: ∀t,t<n->dk f (t+1)≠0:=fun t ht=>by have:=hp.2 t ht;omega
 have hsm:=kh (by omega) (by omega) hr;have hc:0<dk f k/\dk f k<65536:=by
  cases k with
  |zero=>rw[da];omega
  |succ k=>exact⟨hp.2 k (by omega),hsm k (by omega)⟩
 have key: ∀a b,a<n-k->b<=a->Sz (bk f k (k+a) (k+b)) 2:=fun a b ha hb=>by
  have h1:=uZ hp.1 hp.2 hsm (fun t ht=>(hr.2.2.2 t ht).1) (i:=k+a) (by omega) b (k+b) k rfl (by omega);have h2:(65535+(b:Int)*16384)*dk f k<=(65535+4*16384)*65536:=Int.mul_le_mul (by omega) (by omega) (by omega) (by omega);show(bk f k (k+a) (k+b)).natAbs<_;omega
 rcases Nat.le_total j i with h|h
 ·exact key i j hi h
 show Sz (bk f k (k+i) (k+j)) 2;rw[ju hp.1 k (by omega) (fun t ht=>hne t (by omega)) _ _ (by omega) (by omega)];exact key j i hj h
noncomputable def Vk (n:Nat) (f:FF) (B:Int) (k:Nat) (y:List Int):TV:= .tup [(false,[.p (.raw (.int .i64 (kE f n B k (cw n y))))]),(false,[.p (.raw (.int .i64 (kP f n B k (cw n y))))])]
theorem M5 (m:Nat) (g:Nat->Int):(bj (m+1) g).drop 1=bj m fun j=>g (j+1):=by
 unfold bj;rw[List.range_succ_eq_map,List.map_cons,List.drop_succ_cons,List.drop_zero,List.map_map];rfl
theorem zE {z:Int} (h:rI z):se z= .tup [(false,[.p (.raw (.int .i64 z))]),(false,[.p (.raw (.bool true))])]:=if_pos h
theorem qL (n:Nat) (f:FF) (B:Int) (k:Nat) (y:List Int) (hn:n<=4) (hr:RedR f n) (hf: ∀i j,i<n->j<n->rI (f i j)) (h0:0<=B) (hB:B<=262144) (hk:y.length+(k+1)=n) (hy:yR y) (hP:lh f n B (k+1) (cw n y)):
  CallC Tryz.prog 103 [C8 n f,.raw (.int .i64 B),jL y] ⟨[],Vk n f B k y⟩:=by
 have hp:=hr.pd;have hkn:k<n:=by omega
 obtain⟨m,hm⟩: ∃m,m=y.length:=⟨_,rfl⟩;have iy: ∀z∈y,rI z:=fun z hz=>by
  have h1:=hy.bd z hz;have h2:=lX y.length (by omega);constructor<;>omega
 have sy: ∀z∈y,Sz z 2:=fun z hz=>(iy z hz).sz (by omega)
 have sg: ∀i j,i<n-k->j<n-k->Sz (jN f k i j) 2:=fun i j hi hj=>TO hr hn hkn hi hj
 have hd:=hr.2.1 k hkn;have sD:Sz (dk f (k+1)) 1:=k9 (by have:=kh (by omega) (by omega) hr k hkn;omega) (by omega);have hc:0<dk f k/\dk f k<65536:=by
  cases k with
  |zero=>rw[da];omega
  |succ k=>exact⟨hr.2.1 k (by omega),kh (by omega) (by omega) hr k (by omega)⟩
 have sd:Sz (dk f k) 1:=k9 (by omega) (by omega);have sB:Sz B 1:=k9 (by omega) (by omega);obtain⟨b1,b2⟩:=oN hr hn h0 hB hk hy hP;have tb:=lX (y.length+1) (by omega);have el:=TH f hk;have ed:=Ph hp hk B;have hq0:=sX hp hkn hP;have g1:(yD n f n)[k]?=some (bi (m+1) (m+1) (jN f k)):=by rw[Ha f (by omega),show n-k=m+1 by omega]
 have g2:(dL n f)[k]?=some (dk f k):=Lc f (by omega);have e0:IntKind.i64.wrap ((n:Int)-(m:Int))=((k+1:Nat):Int):=by rw[bu (by omega) (by omega)];omega
 have e1:IntKind.i64.wrap (((k+1:Nat):Int)-1)=(k:Int):=by rw[bu (by omega) (by omega)];omega
 have hw:dk f (k+1)=jN f k 0 0:=rfl;have c1:=AR y (by omega) iy;have rs: ∀i,i<=m-> ∀z∈bj m (fun j=>jN f k i (j+1)),Sz z 2:=fun i hi z hz=>by
  obtain⟨j,hj,rfl⟩:=List.mem_map.1 hz;have:=List.mem_range.1 hj;exact sg i (j+1) (by omega) (by omega)
 have c2: ∀i,i<=m->CallC Tryz.prog 117 [xq (bj m fun j=>jN f k i (j+1)),xq y] ⟨[],tZ (dE (bj m fun j=>jN f k i (j+1)) y m)⟩:=fun i hi=>by
  have:=FH (bj m fun j=>jN f k i (j+1)) y (by rw[bf];omega) (by rw[bf];omega) (fun z hz=>(rs i hi z hz).mono (by omega)) (fun z hz=>(sy z hz).mono (by omega));rw[bf]at this;exact this
 have sa: ∀i,i<=m->Sz (dE (bj m fun j=>jN f k i (j+1)) y m) 8:=fun i hi=>(mb (gu (rs i hi)) (gu sy) m).mono (by omega)
 have sq: ∀i,i<=m->Sz (G4 (jN f k) y i) (16+i):=fun i=>by
  induction i with
  |zero=>exact fun _=>pf _
  |succ i ih=>
   intro hi;have:=sa (i+1) (by omega);rw[hm]at this;exact((ih (by omega)).add (((gu sy i).mul this).mono (by omega))).mono (by omega)
 have sl:Sz (dE (bj m fun j=>jN f k 0 (j+1)) y m) 8:=sa 0 (by omega);rw[hm,el]at sl;have sQ:=sq m (Nat.le_refl _);rw[hm]at sQ;have sC:Sz (G4 (jN f k) y y.length-B*dk f k) 24:=(Sz.sub (k:=20) (sQ.mono (by omega)) ((sB.mul sd).mono (by omega))).mono (by omega);have sqd:Sz (pb f n B k (cw n y)) 40:=by
  rw[<- ed];exact(Sz.sub (k:=30) ((sl.mul sl).mono (by omega)) ((sD.mul sC).mono (by omega))).mono (by omega)
 have hrt:=oI hq0;have srt:Sz (jI (pb f n B k (cw n y))) 40:=sqd.le (by
  have h1:=hrt.1;have h2:=hrt.2.1;generalize jI (pb f n B k (cw n y))=r at*
  generalize pb f n B k (cw n y)=q at*
  by_cases e:r=0
  ·rw[e];simp
  have:=Int.mul_le_mul_of_nonneg_left (show 1<=r by omega) h1;omega)
 have k1:=eA B (by omega) (by omega);have m1:=ib B (dk f k) (sB.mono (by omega)) (sd.mono (by omega));have m2:=xv (G4 (jN f k) y y.length) (B*dk f k) (sQ.mono (by omega)) ((sB.mul sd).mono (by omega));have m3:=ib (pp f n k (cw n y)) (pp f n k (cw n y)) (sl.mono (by omega)) (sl.mono (by omega));have m4:=ib (dk f (k+1)) (G4 (jN f k) y y.length-B*dk f k) (sD.mono (by omega)) (sC.mono (by omega));have m5:=xv (pp f n k (cw n y)*pp f n k (cw n y)) (dk f (k+1)*(G4 (jN f k) y y.length-B*dk f k)) ((sl.mul sl).mono (by omega)) ((sD.mul sC).mono (by omega));rw[ed]at m5;have m6:=Sh (pb f n B k (cw n y)) hq0 (sqd.mono (by omega));have m7:=xv (jI (pb f n B k (cw n y))) (pp f n k (cw n y)) (srt.mono (by omega)) (sl.mono (by omega));have m8:=uI (jI (pb f n B k (cw n y))-pp f n k (cw n y)) (dk f (k+1)) (by omega) ((Sz.sub srt (sl.mono (by omega))).mono (by omega)) (sD.mono (by omega));have hlI:rI (kE f n B k (cw n y)):=by constructor<;>omega
 have hhI:rI (kP f n B k (cw n y)):=by constructor<;>omega
 have m9:=tP (kP f n B k (cw n y)) (hhI.sz (by omega));rw[zE hhI]at m9;have m10:=qj (jI (pb f n B k (cw n y))) (pp f n k (cw n y)) (srt.mono (by omega)) (sl.mono (by omega));have m11:=uI (jI (pb f n B k (cw n y))+pp f n k (cw n y)) (dk f (k+1)) (by omega) ((Sz.add srt (sl.mono (by omega))).mono (by omega)) (sD.mono (by omega));have m12:=GQ ((jI (pb f n B k (cw n y))+pp f n k (cw n y))/dk f (k+1)) (by
  have:=(hlI.sz (k:=2) (by omega)).neg;rw[show kE f n B k (cw n y)= -((jI (pb f n B k (cw n y))+pp f n k (cw n y))/dk f (k+1))from rfl,Int.neg_neg]at this;exact this.mono (by omega))
 have m13:=tP (kE f n B k (cw n y)) (hlI.sz (by omega));rw[zE hlI]at m13;rw[show kE f n B k (cw n y)= -((jI (pb f n B k (cw n y))+pp f n k (cw n y))/dk f (k+1))from rfl]at m13;rw[show kP f n B k (cw n y)=(jI (pb f n B k (cw n y))-pp f n k (cw n y))/dk f (k+1)from rfl]at m9;unfold Vk;rw[show kE f n B k (cw n y)= -((jI (pb f n B k (cw n y))+pp f n k (cw n y))/dk f (k+1))from rfl];rw[show kP f n B k (cw n y)=(jI (pb f n B k (cw n y))-pp f n k (cw n y))/dk f (k+1)from rfl];have f0:(bi (m+1) (m+1) (jN f k))[0]?=some (bj (m+1) (jN f k 0)):=bx _ _ (by omega);have f1:(bj (m+1) (jN f k 0))[0]?=some (dk f (k+1)):=aQ _ (by omega);have fl: ∀i,(bj (m+1) (jN f k i)).length=m+1:=fun i=>bf _ _
 have ft: ∀i,((bj (m+1) (jN f k i)).take (m+1)).drop 1=bj m fun j=>jN f k i (j+1):=fun i=>by rw[List.take_of_length_le (by rw[bf];omega),M5]
 have fi: ∀i,i<m->(bi (m+1) (m+1) (jN f k))[i+1]?=some (bj (m+1) (jN f k (i+1))):=fun i hi=>bx _ _ (by omega)
 have qs: ∀i,G4 (jN f k) y (i+1)=G4 (jN f k) y i+y.getD i 0*dE (bj y.length fun j=>jN f k (i+1) (j+1)) y y.length:=fun i=>rfl
 have c20:=c2 0 (by omega);rw[<- hm]at el;rw[el]at c20;subst hm;generalize jI (pb f n B k (cw n y))=r at*
 generalize pb f n B k (cw n y)=q at*
 generalize pp f n k (cw n y)=l at*
 generalize hg:jN f k=g at*
 generalize dk f (k+1)=D at*
 generalize dk f k=d at*
 have hml:(bi (y.length+1) (y.length+1) g).length=y.length+1:=aW _ _ _;generalize hM:bi (y.length+1) (y.length+1) g=M at*
 unfold C8;generalize yD n f n=S at*
 generalize dL n f=dl at*
 clear b1 b2 tb el hP hlI hhI hrt ed hq0 hp hr hf hg hM;refine aS Tryz.func103 rfl Tryz.ntmps103 (pC @fB.eq_1 (k:=il (aP e0 e1) (k:=aX g1 (k:=cb [⟨1,_,_,_,c1⟩] (k:=dr [⟨5,_,_,_,c20⟩] (aP f0 (aP fl (aP @Nat.le_add_left (aP (jy zA) ft)))) (k:=aK (k:=aF (bC (k:=?_)))))))));refine aO (G:=iJ y.length) (fun g'=>⟨(jk::.raw (.int .i64 B)::jk::.one (.ptr 3 0 0 0)::j4 (.raw (.int .i64 (k:Int))::dV M::xq y::.one (.ptr 11 0 0 0)::.one (.ptr 12 0 0 0)::j16 (j4 (j4 (j4 (.raw (.int .i64 (y.length:Int))::rN g'.i::j16 (j16 (j16 (j16 (j4 (j4 ([])))))))))))),Hm [(3,[⟨109,3,[[.p (.raw (.int .i64 (n:Int))),.p (.sl (ls fB S)),.p (.sl (ls fZ dl))]]⟩]),(11,qx l),(12,qx (G4 g y g'.i))]⟩) (fun g'=>y.length-g'.i) ⟨0,by omega⟩ ?_ ?_
 ·refine(gR 12).trans (aE ⟨rfl,rfl,?_,trivial⟩ ?_)
  ·show _=qx 0;simp[zH,be,zO,Dm,Dv,qx,tU,cx,ls]
  simp[wk]
 rintro⟨i,hi⟩;simp only;by_cases hmi:i<y.length
 ·obtain⟨c,hc⟩:=getElem?_of_lt hmi;have hcd:y.getD i 0=c:=by rw[List.getD_eq_getElem?_getD,hc];rfl
  have sc:=sy c (aw hc);have d1:=c2 (i+1) (by omega);have d2:=ib c (dE (bj y.length fun j=>g (i+1) (j+1)) y y.length) (sc.mono (by omega)) ((sa (i+1) (by omega)).mono (by omega));have d3:=qj (G4 g y i) (c*dE (bj y.length fun j=>g (i+1) (j+1)) y y.length) ((sq i (by omega)).mono (by omega)) ((sc.mul (sa (i+1) (by omega))).mono (by omega));have q1:=qs i;rw[hcd]at q1;rw[<- q1]at d3;have fi1:=fi i hmi;have fl1:=fl (i+1);have ft1:=ft (i+1);have ei:IntKind.i64.wrap ((i:Int)+1)=((i+1:Nat):Int):=by rw[bu (by omega) (by omega)];omega
  generalize dE (bj y.length fun j=>g (i+1) (j+1)) y y.length=A at*
  refine aX @fB.eq_1 (k:=bv rfl (aF (aG (bC (k:=f5 [⟨12,_,_,_,d1⟩,⟨13,_,_,_,d2⟩,⟨14,_,_,_,d3⟩] (aP hc (aP ei (aP fi1 (aP fl1 (aP @Nat.le_add_left (aP (jy zA) ft1)))))) (k:=bW (k:=?_)))))));refine⟨⟨i+1,by omega⟩,by simp only;omega,aE ⟨rfl,rfl,rfl,trivial⟩ ?_⟩;simp[wk]
 have him:i=y.length:=by omega
 subst him;refine aX @fB.eq_1 (k:=bE rfl (d6 [⟨2,_,_,_,k1⟩,⟨8,_,_,_,m1⟩,⟨9,_,_,_,m2⟩] g2 (k:=d6 [⟨2,_,_,_,m3⟩,⟨9,_,_,_,m4⟩,⟨10,_,_,_,m5⟩,⟨11,_,_,_,m6⟩] (aP f0 f1) (k:=d6 [⟨2,_,_,_,m7⟩,⟨8,_,_,_,m8⟩,⟨9,_,_,_,m9⟩] (aP f0 f1) (k:=d6 [⟨2,_,_,_,m10⟩,⟨8,_,_,_,m11⟩,⟨9,_,_,_,m12⟩,⟨10,_,_,_,m13⟩] (aP f0 f1) (k:=bC (k:=aV @Tryz.results103)))))))
section
theorem CM {a b:Int} (h:a<=b):rng a b=a::rng (a+1) b:=by
 unfold rng;rw[show(b-a+1).toNat=(b-(a+1)+1).toNat+1 by omega,List.range_succ_eq_map,List.map_cons,List.map_map];rw[show a+((0:Nat):Int)=a by omega];refine congrArg (List.cons a) (List.map_congr_left fun i _=>?_);simp only[Function.comp];omega
theorem Ap {a b:Int} (h:b<a):rng a b=[]:=by
 unfold rng;rw[show(b-a+1).toNat=0 by omega];rfl
theorem Qm (a b:Int):(rng a b).length=(b-a+1).toNat:=by
 unfold rng;rw[List.length_map,List.length_range]
def sL (n:Nat) (c:List Int):Int:=smF (fun i=>c.getD i 0) n
def ctL (g:Int->List Int->Bool×List Int):List Int->List Int->Bool×List Int
 |[],c=>(true,c)
 |x::l,c=>if(g x c).1=true then ctL g l (g x c).2 else(false,(g x c).2)
def Gd (m:Nat) (d:Int) (c:List Int):List Int:=c.set m (c.getD m 0+(d+1))
section
variable (n:Nat) (f:FF) (B bud:Int)
noncomputable def Ge (k:Nat) (y c:List Int) (K:List Int->Bool×List Int):Bool×List Int:=
 if kP f n B k (cw n y)<kE f n B k (cw n y)then(true,c)else if bud<=kP f n B k (cw n y)-kE f n B k (cw n y)then(false,c)else
 if bud<sL n (Gd y.length (kP f n B k (cw n y)-kE f n B k (cw n y)) c)then(false,Gd y.length (kP f n B k (cw n y)-kE f n B k (cw n y)) c)else K (Gd y.length (kP f n B k (cw n y)-kE f n B k (cw n y)) c)
noncomputable def Iz:Nat->List Int->List Int->Bool×List Int
 |0,y,c=>Ge n f B bud 0 y c fun c1=>(true,c1)
 |k+1,y,c=>Ge n f B bud (k+1) y c fun c1=>ctL (fun x=>Iz k (x::y)) (rng (kE f n B (k+1) (cw n y)) (kP f n B (k+1) (cw n y))) c1
end
section
variable {n:Nat} {f:FF} {B bud:Int}
def CtP (n:Nat) (bud:Int) (c:List Int):Prop:=c.length=n/\(∀i,i<n->0<=c.getD i 0)/\sL n c<=bud
theorem LD {c:List Int} {m i:Nat} {v:Int} (hm:m<c.length):(c.set m v).getD i 0=if i=m then v else c.getD i 0:=by
 rw[List.getD_eq_getElem?_getD,List.getD_eq_getElem?_getD,List.getElem?_set];by_cases h:i=m
 ·subst h;simp[hm]
 rw[if_neg (Ne.symm h),if_neg h]
theorem zq {m:Nat} {d:Int} {c:List Int}:(Gd m d c).length=c.length:=by simp[Gd]
theorem vk {m i:Nat} {d:Int} {c:List Int} (hm:m<c.length):(Gd m d c).getD i 0=if i=m then c.getD m 0+(d+1)else c.getD i 0:=LD hm
theorem Pd {m:Nat} {d:Int} {c:List Int} (hc:c.length=n) (hm:m<n):sL n (Gd m d c)=sL n c+(d+1):=by
 unfold sL;rw[mI (F:=fun i=>c.getD i 0) (i:=m) hm fun a ha hne=>by rw[vk (by omega),if_neg hne]];rw[vk (by omega),if_pos rfl];omega
theorem K9 {m:Nat} {d:Int} {c:List Int} (hc:c.length=n) (hm:m<n) (hd:0<=d) (h: ∀i,i<n->0<=c.getD i 0): ∀i,i<n->0<=(Gd m d c).getD i 0:=fun i hi=>by
 rw[vk (by omega)];split
 ·have:=h m hm;omega
 exact h i hi
theorem Nb {c:List Int} (h: ∀i,i<n->0<=c.getD i 0) {i:Nat} (hi:i<n):c.getD i 0<=sL n c:=by
 have h1:=mI (F:=fun j=>c.getD j 0) (G:=fun j=>if j=i then 0 else c.getD j 0) (i:=i) (m:=n) hi fun a _ hne=>by rw[if_neg hne]
 have h2:=kv (F:=fun j=>if j=i then 0 else c.getD j 0) n fun a ha=>by
  split
  ·omega
  exact h a ha
 simp only[if_true]at h1;show _<=smF (fun i=>c.getD i 0) n;omega
theorem Lb {g:Int->List Int->Bool×List Int} {m:Int->Nat}: ∀(l:List Int) (c:List Int),(∀x∈l,∀c,CtP n bud c->(g x c).2.length=n/\((g x c).1=true->CtP n bud (g x c).2/\(g x c).2.getD (n-1) 0=c.getD (n-1) 0+(m x:Int)))->CtP n bud c->
  (ctL g l c).2.length=n/\((ctL g l c).1=true->CtP n bud (ctL g l c).2/\(ctL g l c).2.getD (n-1) 0=c.getD (n-1) 0+((l.map m).sum:Nat))
 |[],c,_,hc=>⟨hc.1,fun _=>⟨hc,by simp[ctL]⟩⟩
 |x::l,c,hg,hc=>by
  obtain⟨h1,h2⟩:=hg x (by simp) c hc;rw[ctL];by_cases hx:(g x c).1=true
  ·rw[if_pos hx];obtain⟨h3,h4⟩:=h2 hx;obtain⟨h5,h6⟩:=Lb l (g x c).2 (fun z hz=>hg z (by simp[hz])) h3;refine⟨h5,fun ht=>?_⟩;obtain⟨h7,h8⟩:=h6 ht;refine⟨h7,?_⟩;rw[h8,h4,List.map_cons,List.sum_cons];omega
  rw[if_neg hx];exact⟨h1,fun h=>by cases h⟩
theorem zy (k:Nat) (y:List Int):(qH f n B (k+1) y).length=((rng (kE f n B k (cw n y)) (kP f n B k (cw n y))).map fun x=>(qH f n B k (x::y)).length).sum:=by
 rw[qH,List.length_flatMap]
theorem La {k:Nat} {y c:List Int} {K:List Int->Bool×List Int} (hk:y.length+(k+1)=n) (hc:CtP n bud c) {M:Nat} (hM:kP f n B k (cw n y)<kE f n B k (cw n y)->M=0)
  (hK:kE f n B k (cw n y)<=kP f n B k (cw n y)-> ∀c1,CtP n bud c1->c1=Gd y.length (kP f n B k (cw n y)-kE f n B k (cw n y)) c->(K c1).2.length=n/\((K c1).1=true->CtP n bud (K c1).2/\(K c1).2.getD (n-1) 0=c.getD (n-1) 0+(M:Int))):
  (Ge n f B bud k y c K).2.length=n/\((Ge n f B bud k y c K).1=true->CtP n bud (Ge n f B bud k y c K).2/\(Ge n f B bud k y c K).2.getD (n-1) 0=c.getD (n-1) 0+(M:Int)):=by
 unfold Ge;by_cases h1:kP f n B k (cw n y)<kE f n B k (cw n y)
 ·rw[if_pos h1];exact⟨hc.1,fun _=>⟨hc,by rw[hM h1];simp⟩⟩
 rw[if_neg h1];by_cases h2:bud<=kP f n B k (cw n y)-kE f n B k (cw n y)
 ·rw[if_pos h2];exact⟨hc.1,fun h=>by cases h⟩
 rw[if_neg h2];by_cases h3:bud<sL n (Gd y.length (kP f n B k (cw n y)-kE f n B k (cw n y)) c)
 ·rw[if_pos h3];exact⟨by rw[zq];exact hc.1,fun h=>by cases h⟩
 rw[if_neg h3];exact hK (by omega) _ ⟨by rw[zq];exact hc.1,K9 hc.1 (by omega) (by omega) hc.2.1,by omega⟩ rfl
theorem QK {α:Type} (l:List α):(l.map fun _=>1).sum=l.length:=by
 induction l with
 |nil=>rfl
 |cons x l ih=>rw[List.map_cons,List.sum_cons,ih,List.length_cons];omega
theorem vm: ∀(k:Nat) (y c:List Int),y.length+(k+1)=n->CtP n bud c->
  (Iz n f B bud k y c).2.length=n/\((Iz n f B bud k y c).1=true->CtP n bud (Iz n f B bud k y c).2/\(Iz n f B bud k y c).2.getD (n-1) 0=c.getD (n-1) 0+((qH f n B (k+1) y).length:Int))
 |0,y,c,hk,hc=>by
  have e:(qH f n B 1 y).length=(kP f n B 0 (cw n y)-kE f n B 0 (cw n y)+1).toNat:=by
   rw[zy];simp only[qH,List.length_singleton];rw[QK,Qm]
  rw[show Iz n f B bud 0 y c=Ge n f B bud 0 y c fun c1=>(true,c1)from rfl];refine La hk hc (fun h=>by rw[e];omega) fun hlh c1 h1 h2=>⟨h1.1,fun _=>⟨h1,?_⟩⟩
  show c1.getD (n-1) 0=_;rw[h2,vk (by rw[hc.1];omega),if_pos (by omega),e,show y.length=n-1 by omega];omega
 |k+1,y,c,hk,hc=>by
  rw[show Iz n f B bud (k+1) y c=Ge n f B bud (k+1) y c fun c1=>ctL (fun x=>Iz n f B bud k (x::y)) (rng (kE f n B (k+1) (cw n y)) (kP f n B (k+1) (cw n y))) c1 from rfl];refine La hk hc (fun h=>by rw[zy,Ap h];rfl) fun hlh c1 h1 h2=>?_
  have h3:=Lb (n:=n) (bud:=bud) (g:=fun x=>Iz n f B bud k (x::y)) (m:=fun x=>(qH f n B (k+1) (x::y)).length) (rng (kE f n B (k+1) (cw n y)) (kP f n B (k+1) (cw n y))) c1
   (fun x _ c hc=>vm k (x::y) c (by rw[List.length_cons];omega) hc) h1
  refine⟨h3.1,fun ht=>⟨(h3.2 ht).1,?_⟩⟩;rw[(h3.2 ht).2,h2,vk (by rw[hc.1];omega),if_neg (by omega),zy]
end
end
theorem mC (x y:List Int):CallC Tryz.prog 15 [jL x,jL y] ⟨[],.raw (.int .i64 (fq x y))⟩:=by
 refine ic (by kernel_rfl) fun X w vs hX hvs ha=>?_
 obtain⟨v0,e0,r0⟩:=md ha (j:=0) rfl;obtain⟨v1,e1,r1⟩:=md ha (j:=1) rfl;obtain⟨A,c,rfl,hc,hl,hA⟩:=i4 r0;obtain⟨B,d,rfl,hd,hlb,hB⟩:=i4 r1;obtain rfl:vs= #[.slice A x.length c,.slice B y.length d]:=by
  apply Array.ext_getElem?;intro j
  match j with
  |0=>exact e0
  |1=>exact e1
  |j+2=>rw[Array.getElem?_eq_none (by simp at hvs;omega)];rfl
 refine(nY A B c d x y w hA hB hl hlb).mono fun e w' ⟨h1,h2⟩=>?_
 obtain⟨n,rfl⟩:=h2;exact⟨_,h1,fun _ _ _=>cu.raw _ rfl,(Ext.refl _).drewN n⟩
theorem kO (a:Int×List Int):(Rz a).length=2:=rfl
theorem vR (l:List (Int×List Int)) (k:Int) (x:List Int):lc Rz l++[[AV.p (.raw (.int .i64 k)),.p (.sl (ls fI x))]]=lc Rz (l++[(k,x)]):=by simp[lc,Rz]
theorem DB (k:Int) (x:List Int) (k':Int) (y:List Int):CallC Tryz.prog 107 [Vn k x,Vn k' y] ⟨[],.raw (.bool (decide (w7 (k,x) (k',y))))⟩:=by
 have cC:=mC x y;by_cases h1:k<k'
 ·rw[decide_eq_true (show w7 (k,x) (k',y)from .inl h1)];refine aS Tryz.func107 rfl Tryz.ntmps107 (aT (k:=aK (k:=aV @Tryz.results107)))
 by_cases h2:k=k'
 ·rw[show decide (w7 (k,x) (k',y))=decide (fq x y<0) by
   unfold w7;simp[h2]]
  generalize fq x y=c at*
  refine aS Tryz.func107 rfl Tryz.ntmps107 (aT (k:=bN [⟨16,_,_,_,cC⟩] (k:=aV @Tryz.results107)))
 rw[decide_eq_false (show ¬w7 (k,x) (k',y) by unfold w7;simp[h1,h2])];refine aS Tryz.func107 rfl Tryz.ntmps107 (aT (k:=aK (k:=aV @Tryz.results107)))
theorem Uv (l:List (Int×List Int)) (k:Int) (x:List Int) (hl:l.length<=1000000):CallC Tryz.prog 73 [Nz l,Vn k x] ⟨[],Nz (nW (k,x) l)⟩:=by
 have hle:=EQ (k,x) l;have hlt:=MD (k,x) l;have hat:=MC (k,x) l;have hput:=wt (k,x) l;obtain⟨p,hp⟩: ∃p,p=Cu (k,x) l:=⟨_,rfl⟩;rw[<- hp]at hle hlt hat hput;clear hp;refine aS Tryz.func73 rfl Tryz.ntmps73 (aT (k:=bC (k:=?_)));refine aF (aO (G:=iJ p) (fun g=>⟨(Nz l::jk::jk::.one (.ptr 3 0 0 0)::jk::rN g.i::j16 (j16 (j4 (j4 (jk::jk::[]))))),Hm [(3,[⟨74,2,[[.p (.raw (.int .i64 k)),.p (.sl (ls fI x))]]⟩])]⟩) (fun g=>p-g.i) ⟨0,by omega⟩ ?_ ?_)
 ·refine aE ⟨rfl,trivial⟩ ?_;simp[wk]
 rintro⟨i,hi⟩;simp only;by_cases hm:i<p
 ·obtain⟨a,ha⟩:=getElem?_of_lt (show i<l.length by omega);have hltp:=hlt i a ha hm;obtain⟨ka,xa⟩:=a;have cL:=DB ka xa k x;rw[decide_eq_true hltp]at cL;refine aF (d6 [⟨10,_,_,_,cL⟩] ha (k:=aR rfl (aH (aG (bW (k:=?_))))));refine⟨⟨i+1,by omega⟩,by simp only;omega,aE ⟨rfl,trivial⟩ ?_⟩;simp[wk]
 have hip:i=p:=by omega
 subst hip;by_cases hpl:i<l.length
 ·obtain⟨a,ha⟩:=getElem?_of_lt hpl;have hnl:=hat a ha;obtain⟨ka,xa⟩:=a;have cL:=DB ka xa k x;rw[decide_eq_false hnl]at cL;have cM:=DB k x ka xa;rw[ha]at hput;simp only at hput;refine aF (d6 [⟨10,_,_,_,cL⟩] ha (k:=aJ rfl (bz ?_)));show bL _ _ _ _;by_cases hxl:w7 (k,x) (ka,xa)
  ·rw[decide_eq_true hxl]at cM;rw[if_pos hxl]at hput;rw[hput];refine aF (d6 [⟨10,_,_,_,cM⟩] ha (k:=aJ rfl (aH ?_)));have e1:(l.take i).length=i:=by rw[List.length_take];omega
   have e2:(l.take i++[(k,x)]).length=i+1:=by rw[List.length_append,e1];rfl
   have e3:(l.drop i).length=l.length-i:=List.length_drop;refine aX (aP @Nat.zero_le (aP (jy kO) (aP e1 (nG kO)))) (k:=aX (aP e1 @vR) (k:=aX (aP (jy kO) (aP @List.take_length.{0} (aP e2 (aP e3 (nG kO))))) (k:=?_)));refine bA ⟨.inr rfl,fo 38 (bQ rfl) ?_ rfl⟩;simp(disch:=omega) only[kd,Tryz.results73,List.append_assoc,ab,Nz];rw[List.take_of_length_le (by rw[List.length_append,List.length_cons];omega)]
  rw[decide_eq_false hxl]at cM;rw[if_neg hxl]at hput;rw[hput];refine aF (d6 [⟨10,_,_,_,cM⟩] ha (k:=aR rfl (bC (k:=aV @Tryz.results73))))
 have hpe:l.length=i:=by omega
 rw[List.getElem?_eq_none (by omega)]at hput;simp only at hput;rw[hput];refine aF (Rt (k:=aJ rfl (bz (aF (Rt (k:=aJ rfl (aH ?_)))))));have e1:(l.take i).length=i:=by rw[List.length_take];omega
 have e2:(l.take i++[(k,x)]).length=i+1:=by rw[List.length_append,e1];rfl
 have e3:(l.drop i).length=0:=by rw[List.length_drop];omega
 refine aX (aP @Nat.zero_le (aP (jy kO) (aP e1 (nG kO)))) (k:=aX (aP e1 @vR) (k:=aX (aP (jy kO) (aP @List.take_length.{0} (aP e2 (aP e3 (nG kO))))) (k:=?_)));refine bA ⟨.inr rfl,fo 38 (bQ rfl) ?_ rfl⟩;simp(disch:=omega) only[kd,Tryz.results73,List.append_assoc,ab,Nz];rw[List.take_of_length_le (by rw[List.length_append,List.length_cons];omega)]
theorem H7 (l:List (Int×List Int)) (hl:l.length<=1000000):CallC Tryz.prog 68 [Nz l] ⟨[],dj (l.map Prod.snd)⟩:=by
 have hml:(l.map Prod.snd).length=l.length:=List.length_map _;refine aS Tryz.func68 rfl Tryz.ntmps68 (aT (k:=bC (k:=aF (bC (k:=?_)))));refine aO (G:=iJ l.length) (fun g=>⟨(jk::jk::jk::.one (.sl 16 0 0 g.i)::jk::jk::Nz l::rN l.length::rN g.i::j4 (j4 (jk::jk::[]))),Hm [(16,[⟨34,1,lc (fR fI) ((l.map Prod.snd).take g.i)⟩])]⟩) (fun g=>l.length-g.i) ⟨0,by omega⟩ ?_ ?_
 ·refine(dx (k:=3) (d:=16) 34 1 (by omega) rfl rfl).trans (aE ⟨rfl,trivial⟩ ?_);simp[wk]
 rintro⟨i,hi⟩;simp only;by_cases hm:i<l.length
 ·obtain⟨a,ha⟩:=getElem?_of_lt hm;obtain⟨ka,xa⟩:=a;have eL:((l.map Prod.snd).take i).length=i:=by rw[List.length_take,hml];omega
  have eS:(l.map Prod.snd).take i++[xa]=(l.map Prod.snd).take (i+1):=by
   rw[List.take_add_one,az,ha];rfl
  generalize l.map Prod.snd=V at*
  refine aK (k:=bv rfl (aF (aG (aX ha (k:=fc (aP eL (aP @sE eS)) (k:=bW (k:=?_)))))));refine⟨⟨i+1,by omega⟩,by simp only;omega,aE ⟨rfl,trivial⟩ ?_⟩;simp[wk]
 have hin:i=l.length:=by omega
 subst hin;refine aK (k:=bE rfl (bC (k:=?_)));refine bA ⟨.inr rfl,fo 16 (bQ rfl) ?_ rfl⟩;simp(disch:=omega) only[kd,Tryz.results68,List.take_of_length_le,dj]
def SK (x:List Int):TV:=match zi x with|none=>Pc [] false|some y=>Pc y true
theorem D0 {x:List Int} (h:uE x=true) (hs:gO x≠0):SK x=Pc (x.map fun a=>gO x*a) true:=by
 unfold SK;rw[ve h,if_neg hs]
theorem Bz {x:List Int} (h:uE x=true) (hs:gO x=0):SK x=Pc [] false:=by
 unfold SK;rw[ve h,if_pos hs]
theorem F7 {x:List Int} (h:uE x=false):SK x=Pc [] false:=by
 unfold SK zi;rw[h];rfl
theorem MR (x:List Int) (hl:x.length<=17592186043904):CallC Tryz.prog 72 [jL x] ⟨[],SK x⟩:=by
 have cI:=LM x;cases hI:uE x with
 |false=>
  rw[hI]at cI;rw[F7 hI];refine aS Tryz.func72 rfl Tryz.ntmps72 (aT (k:=aF (cb [⟨1,_,_,_,cI⟩] (k:=aR rfl (bC (k:=?_))))));refine bA ⟨.inr rfl,sP 2 rfl rfl ?_ rfl⟩;simp(disch:=omega) only[kd,Tryz.results72,Pc]
 |true=>
  rw[hI]at cI;have hB: ∀i c,x[i]?=some c-> -1099511627776<=c/\c<=1099511627776:=fun i c hc=>jZ hI hc
  refine aS Tryz.func72 rfl Tryz.ntmps72 (aT (k:=aF (cb [⟨1,_,_,_,cI⟩] (k:=aJ rfl (aH (bC (k:=aF (bC (k:=?_)))))))));refine aO (G:=iJ x.length) (fun g=>⟨(jL x::jk::jk::jk::.raw (.int .i64 (gO (x.take g.i)))::j4 (j4 (jL x::rN x.length::rN g.i::j16 (j4 (j4 (j4 ([]))))))),Hm []⟩) (fun g=>x.length-g.i) ⟨0,by omega⟩ ?_ ?_
  ·refine aE trivial ?_;simp[wk,gO]
  rintro⟨i,hi⟩;simp only;by_cases hm:i<x.length
  ·obtain⟨c,hc⟩:=getElem?_of_lt hm;have hsn:=JM (x.take i) c;rw[<- Fj hc]at hsn;generalize gO (x.take i)=s at*
   refine aK (k:=bv rfl (aF (aG (aX hc (k:=?_)))));by_cases h1:s=0
   ·by_cases h2:c=0
    ·rw[if_neg (by omega)]at hsn;refine aK (k:=aJ rfl (aH (bW (k:=?_))));refine⟨⟨i+1,by omega⟩,by simp only;omega,aE trivial ?_⟩;simp[wk,hsn]
    rw[if_pos ⟨h1,h2⟩]at hsn;by_cases h3:c<0
    ·rw[if_pos h3]at hsn;refine aK (k:=aR rfl (bC (k:=aK (k:=aR rfl (VH (k:=bW (k:=?_)))))));refine⟨⟨i+1,by omega⟩,by simp only;omega,aE trivial ?_⟩;simp[wk,hsn]
    rw[if_neg h3]at hsn;refine aK (k:=aR rfl (bC (k:=aK (k:=aJ rfl (aH (bW (k:=?_)))))));refine⟨⟨i+1,by omega⟩,by simp only;omega,aE trivial ?_⟩;simp[wk,hsn]
   rw[if_neg (by omega)]at hsn;refine aK (k:=aJ rfl (aH (bW (k:=?_))));refine⟨⟨i+1,by omega⟩,by simp only;omega,aE trivial ?_⟩;simp[wk,hsn]
  have hin:i=x.length:=by omega
  subst hin;rw[List.take_length];have hcs:=qc x;refine aK (k:=bE rfl ?_);show bL _ _ _ _;by_cases hs:gO x=0
  ·rw[Bz hI hs,hs];refine aF (aK (k:=aR rfl (bC (k:=?_))));refine bA ⟨.inr rfl,sP 2 rfl rfl ?_ rfl⟩;simp(disch:=omega) only[kd,Tryz.results72,Pc]
  rw[D0 hI hs];have hml:(x.map fun a=>gO x*a).length=x.length:=List.length_map _;generalize gO x=s at*
  refine aF (aK (k:=aJ rfl (aH (bC (k:=aF (bC (k:=?_)))))));refine aO (G:=iJ x.length) (fun g=>⟨(j4 (.raw (.int .i64 s)::jk::jk::.one (.sl 41 0 0 g.i)::j16 (j4 (jk::jk::jL x::rN x.length::rN g.i::j4 (j4 (jk::jk::jk::[])))))),Hm [(41,[⟨2,1,lc fI ((x.map fun a=>s*a).take g.i)⟩])]⟩) (fun g=>x.length-g.i) ⟨0,by omega⟩ ?_ ?_
  ·refine(dx (k:=7) (d:=41) 2 1 (by omega) rfl rfl).trans (aE ⟨rfl,trivial⟩ ?_);simp[wk]
  rintro⟨i,hi⟩;simp only;by_cases hm:i<x.length
  ·obtain⟨c,hc⟩:=getElem?_of_lt hm;have hcb:=hB i c hc;have eL:((x.map fun a=>s*a).take i).length=i:=by rw[List.length_take,hml];omega
   have eS:(x.map fun a=>s*a).take i++[s*c]=(x.map fun a=>s*a).take (i+1):=by
    rw[List.take_add_one,az,hc];rfl
   have hb: -9223372036854775808<=s*c/\s*c<=9223372036854775807:=by
    rcases hcs with h|h|h<;>rw[h]<;>omega
   have hw:IntKind.i64.wrap (s*c)=s*c:=bu hb.1 hb.2;generalize(x.map fun a=>s*a)=V at*
   refine aK (k:=bv rfl (aF (aG (aX hc (k:=fc (aP hw (aP eL (aP @vQ eS))) (k:=bW (k:=?_)))))));refine⟨⟨i+1,by omega⟩,by simp only;omega,aE ⟨rfl,trivial⟩ ?_⟩;simp[wk]
  have hin:i=x.length:=by omega
  subst hin;refine aK (k:=bE rfl (bC (k:=?_)));refine bA ⟨.inr rfl,fo 41 (bQ rfl) ?_ rfl⟩;simp(disch:=omega) only[kd,Tryz.results72,List.take_of_length_le,Pc]
end Go.Proofs.YtiollbhgpiiodaaGreatDoor
