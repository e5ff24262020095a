/-
  Part 17 of a proof (walks and plain facts).
-/
import Derived.Test.YtiollbhgpiiodaaGreatDoorP15
set_option linter.all false
set_option maxRecDepth 100000
set_option maxHeartbeats 64000000
open Nat renaming reduceAdd → aa
open Nat renaming reduceEqDiff → ae
open Nat renaming le_refl → af
open List renaming replicate → ag
open Nat renaming reduceBEq → ah
open Nat renaming reduceLeDiff → aj
open Int renaming reduceToNat → ao
open List renaming getElem?_map → aA
namespace Go.Proofs.YtiollbhgpiiodaaGreatDoor
open Go.RowKit
theorem L5 (fu:FuncId) (cs1:List PV) (n c:Nat) (g:FF) (hn1:1<=n) (hn:n<=16) (hc1:1<=c) (hc:c<=16)
  (hf: ∀i j,i<n->j<c->CallC Tryz.prog fu [.raw (.int .i64 (i:Int)),.raw (.int .i64 (j:Int)),.one (.p (.ptr cs1))] ⟨[],tZ (g i j)⟩):
  CallC Tryz.prog 146 [.raw (.int .i64 (n:Int)),.raw (.int .i64 (c:Int)),.fn fu [.p (.ptr cs1)]] ⟨[],bJ (bx n c g)⟩:=by
 have hN:n*c<=256:=Nat.le_trans (Nat.mul_le_mul hn hc) (by omega);have e0:IntKind.i64.wrap ((n:Int)*(c:Int))=((n*c:Nat):Int):=by rw[<- Int.natCast_mul];exact aT (by omega) (by omega)
 refine aJ Tryz.func146 rfl (by kernel_rfl) ?_;rw[Tryz.ntmps146];refine aF fun _ K=>?_;simp only[kd,aa,ag];apply K
 refine aF fun _ K=>?_;simp(disch:=omega) only[kd,aa,e0];apply K
 refine aF fun _ K=>?_;simp(disch:=omega) only[kd,aa,ae];apply K
 refine bu.weak ((gy 14).trans ((gy 16).trans ((vh 16 14 5016 (oa:=⟨61,1,Co 5016 n c 0⟩) (oe:=⟨32,2,lc fZ (bT (n*c) (fl c (part g 0 0)))⟩) ?_ ?_ rfl (Aj _ _ _ _) (d6 _ _ _) (by omega) (by omega) (by omega)).trans (aG (tm:=(jk::rN c::.fn fu [.p (.ptr cs1)]::j4 (.one (.sl 5016 1 0 (n*c))::.one (.sl 5016 0 0 n)::j16 (j16 (j16 (jk::jk::[])))))) (l:=[(5016,x9 5016 n c 0 (part g 0 0))]) ⟨rfl,trivial⟩ ?_)))) ?_
 ·exact Ak 5016 n c
 ·exact DX n c g
 ·simp[wk,KW,qo]
 simp only[x9];refine aH (aF fun _ K=>?_);simp only[kd,aa];apply K;refine aZ (G:=kK n) (fun q=>⟨(jk::rN c::.fn fu [.p (.ptr cs1)]::j4 (.one (.sl 5016 1 0 (n*c))::.one (.sl 5016 0 0 n)::j4 (j4 (.one (.sl 5016 0 0 n)::rN n::rN q.i::j16 (j16 (j4 (jk::jk::jk::[]))))))),Hm [(5016,x9 5016 n c q.i (part g q.i 0))]⟩) (fun q=>n-q.i) ⟨0,by omega⟩ ?_ ?_
 ·refine aG ⟨rfl,trivial⟩ ?_;simp[wk]
 rintro⟨i,hi⟩;simp only;by_cases hm:i<n
 ·have k1:i*c<(i+1)*c:=by rw[Nat.add_mul];omega
  have k2:(i+1)*c<=n*c:=Nat.mul_le_mul_right _ hm;have k3:(i+1)*c-i*c=c:=by rw[Nat.add_mul];omega
  have e1:IntKind.i64.wrap ((i:Int)*(c:Int))=((i*c:Nat):Int):=by rw[<- Int.natCast_mul];exact aT (by omega) (by omega)
  have e2:IntKind.i64.wrap (((i:Int)+1)*(c:Int))=(((i+1)*c:Nat):Int):=by
   have:((i:Int)+1)*(c:Int)=(((i+1)*c:Nat):Int):=by rw[Int.natCast_mul];rfl
   rw[this];exact aT (by omega) (by omega)
  have t1:=jP (d:=5016) (n:=n) (c:=c) (i:=i) hm;rw[if_neg (Nat.lt_irrefl i)]at t1;have t2:=DV (d:=5016) (n:=n) (c:=c) (i:=i);have t3:=jP (d:=5016) (n:=n) (c:=c) (i:=i+1) (k:=i) hm;rw[if_pos (Nat.lt_succ_self i)]at t3;refine aF fun _ K=>?_;simp(disch:=omega) only[kd];apply K
  refine bM rfl ?_;refine aH (aM ?_);refine aF fun _ K=>?_;simp only[kd];apply K
  simp only[x9];refine aF fun _ K=>?_;simp(disch:=omega) only[kd,aa,e1,aT,e2,k1,k2,aj,k3,t1,t2];apply K
  refine aF fun _ K=>?_;simp(disch:=omega) only[kd,aa,t3];apply K
  refine aZ (G:=kK c) (fun q=>⟨(jk::rN c::.fn fu [.p (.ptr cs1)]::j4 (.one (.sl 5016 1 0 (n*c))::.one (.sl 5016 0 0 n)::rN i::j4 (jk::jk::jk::.one (.sl 5016 0 0 n)::rN n::rN i::j16 (j4 (jk::jk::rN c::rN q.i::j4 (j4 (j4 (jk::jk::jk::[])))))))),Hm [(5016,x9 5016 n c (i+1) (part g i q.i))]⟩) (fun q=>c-q.i) ⟨0,by omega⟩ ?_ ?_
  ·refine aG ⟨rfl,trivial⟩ ?_;simp[wk]
  rintro⟨j,hj⟩;simp only;by_cases hm2:j<c
  ·have hS:=hf i j hm hm2;have hk:i*c+j<n*c:=by omega
   have g1:=aY (fl c (part g i j)) hk;have g2:=Hd (n:=n) (c:=c) (part g i j) (v:=g i j) hm hm2;refine aF fun _ K=>?_;simp(disch:=omega) only[kd];apply K
   refine bM rfl ?_;refine aH (aM ?_);refine aF fun _ K=>?_;simp only[kd];apply K
   simp only[x9];refine dT bj [⟨8,_,_,_,hS⟩] [] (by kernel_rfl) fun _ K=>?_;simp(disch:=omega) only[kd,tZ,aa,t3,fZ,g1,Dq,g2];apply K
   show bu _ _ _ _;refine aN fun _ K=>?_;simp(disch:=omega) only[kd,aT];apply K
   refine⟨⟨j+1,by omega⟩,by simp only;omega,aG ⟨?_,trivial⟩ ?_⟩
   ·show[_,_]=[_,_];rw[pb fun a b _ _=>i5 g i j a b]
   simp[wk]
  have hjc:j=c:=by omega
  subst hjc;refine aF fun _ K=>?_;simp(disch:=omega) only[kd];apply K
  refine bV rfl ?_;show bu _ _ _ _;refine aN fun _ K=>?_;simp(disch:=omega) only[kd,aT];apply K
  refine⟨⟨i+1,by omega⟩,by simp only;omega,aG ⟨?_,trivial⟩ ?_⟩
  ·show[_,_]=[_,_];rw[pb fun a b _ hb=>kA g i a b hb]
  simp[wk]
 have hin:i=n:=by omega
 subst hin;refine aF fun _ K=>?_;simp(disch:=omega) only[kd];apply K
 refine bV rfl ?_;show bu _ _ _ _;refine aF fun _ K=>?_;simp only[kd];apply K
 refine bu.weak ((bX 5016 (DW rfl)).trans (aG (tm:=(j4 (jk::jk::bJ (bx i c g)::j16 (j16 (j16 (j4 ([]))))))) (l:=[]) trivial ?_)) ?_
 ·have e:=Jm (c:=c) (H:=Hm [(5016,x9 5016 i c i (part g i 0))]) hc1 rfl;rw[gX fun a b ha _=>kx g a b ha]at e;simp[wk];exact e.symm
 (refine aK ⟨.inr rfl,aL rfl ?_ rfl⟩;simp(disch:=omega) only[kd,Tryz.results146,bJ])
theorem L6 (fu:FuncId) (cs1:List PV) (b:Nat) (ty:TypeId) (cs:List PV) (n c:Nat) (g:FF) (hn1:1<=n) (hn:n<=16) (hc1:1<=c) (hc:c<=16)
  (hf: ∀i j,i<n->j<c->CallT Tryz.prog b ty fu [.raw (.int .i64 (i:Int)),.raw (.int .i64 (j:Int)),.one (.p (.ptr cs1)),.raw (.pointer (some ⟨b,0,none⟩))] cs ⟨[],tZ (g i j)⟩ cs):
  CallT Tryz.prog b ty 146 [.raw (.int .i64 (n:Int)),.raw (.int .i64 (c:Int)),.fn fu [.p (.ptr cs1),.p (.raw (.pointer (some ⟨b,0,none⟩)))]] cs ⟨[],bJ (bx n c g)⟩ cs:=by
 have hN:n*c<=256:=Nat.le_trans (Nat.mul_le_mul hn hc) (by omega);have e0:IntKind.i64.wrap ((n:Int)*(c:Int))=((n*c:Nat):Int):=by rw[<- Int.natCast_mul];exact aT (by omega) (by omega)
 refine mj Tryz.func146 rfl (by kernel_rfl) ?_;rw[Tryz.ntmps146];refine aX fun _ K=>?_;simp only[kd,aa,ag];apply K
 refine aX fun _ K=>?_;simp(disch:=omega) only[kd,aa,e0];apply K
 refine aX fun _ K=>?_;simp(disch:=omega) only[kd,aa,ae];apply K
 refine eA.weak ((gy 14).trans ((gy 16).trans ((vh 16 14 5016 (oa:=⟨61,1,Co 5016 n c 0⟩) (oe:=⟨32,2,lc fZ (bT (n*c) (fl c (part g 0 0)))⟩) ?_ ?_ rfl (Aj _ _ _ _) (d6 _ _ _) (by omega) (by omega) (by omega)).trans (aG (tm:=(jk::rN c::.fn fu [.p (.ptr cs1),.p (.raw (.pointer (some ⟨b,0,none⟩)))]::j4 (.one (.sl 5016 1 0 (n*c))::.one (.sl 5016 0 0 n)::j16 (j16 (j16 (jk::jk::[])))))) (l:=[(5016,x9 5016 n c 0 (part g 0 0))]) ⟨rfl,trivial⟩ ?_)))) ?_
 ·exact Ak 5016 n c
 ·exact DX n c g
 ·simp[wk,KW,qo]
 simp only[x9];refine cL (aX fun _ K=>?_);simp only[kd,aa];apply K;refine mb (G:=kK n) (fun q=>⟨(jk::rN c::.fn fu [.p (.ptr cs1),.p (.raw (.pointer (some ⟨b,0,none⟩)))]::j4 (.one (.sl 5016 1 0 (n*c))::.one (.sl 5016 0 0 n)::j4 (j4 (.one (.sl 5016 0 0 n)::rN n::rN q.i::j16 (j16 (j4 (jk::jk::jk::[]))))))),Hm [(5016,x9 5016 n c q.i (part g q.i 0))]⟩) (fun _=>cs) (fun q=>n-q.i) ⟨0,by omega⟩ ?_ rfl ?_
 ·refine aG ⟨rfl,trivial⟩ ?_;simp[wk]
 rintro⟨i,hi⟩;simp only;by_cases hm:i<n
 ·have k1:i*c<(i+1)*c:=by rw[Nat.add_mul];omega
  have k2:(i+1)*c<=n*c:=Nat.mul_le_mul_right _ hm;have k3:(i+1)*c-i*c=c:=by rw[Nat.add_mul];omega
  have e1:IntKind.i64.wrap ((i:Int)*(c:Int))=((i*c:Nat):Int):=by rw[<- Int.natCast_mul];exact aT (by omega) (by omega)
  have e2:IntKind.i64.wrap (((i:Int)+1)*(c:Int))=(((i+1)*c:Nat):Int):=by
   have:((i:Int)+1)*(c:Int)=(((i+1)*c:Nat):Int):=by rw[Int.natCast_mul];rfl
   rw[this];exact aT (by omega) (by omega)
  have t1:=jP (d:=5016) (n:=n) (c:=c) (i:=i) hm;rw[if_neg (Nat.lt_irrefl i)]at t1;have t2:=DV (d:=5016) (n:=n) (c:=c) (i:=i);have t3:=jP (d:=5016) (n:=n) (c:=c) (i:=i+1) (k:=i) hm;rw[if_pos (Nat.lt_succ_self i)]at t3;refine aX fun _ K=>?_;simp(disch:=omega) only[kd];apply K
  refine wO rfl ?_;refine cL (dE ?_);refine aX fun _ K=>?_;simp only[kd];apply K
  simp only[x9];refine aX fun _ K=>?_;simp(disch:=omega) only[kd,aa,e1,aT,e2,k1,k2,aj,k3,t1,t2];apply K
  refine aX fun _ K=>?_;simp(disch:=omega) only[kd,aa,t3];apply K
  refine mb (G:=kK c) (fun q=>⟨(jk::rN c::.fn fu [.p (.ptr cs1),.p (.raw (.pointer (some ⟨b,0,none⟩)))]::j4 (.one (.sl 5016 1 0 (n*c))::.one (.sl 5016 0 0 n)::rN i::j4 (jk::jk::jk::.one (.sl 5016 0 0 n)::rN n::rN i::j16 (j4 (jk::jk::rN c::rN q.i::j4 (j4 (j4 (jk::jk::jk::[])))))))),Hm [(5016,x9 5016 n c (i+1) (part g i q.i))]⟩) (fun _=>cs) (fun q=>c-q.i) ⟨0,by omega⟩ ?_ rfl ?_
  ·refine aG ⟨rfl,trivial⟩ ?_;simp[wk]
  rintro⟨j,hj⟩;simp only;by_cases hm2:j<c
  ·have hS:=hf i j hm hm2;have hk:i*c+j<n*c:=by omega
   have g1:=aY (fl c (part g i j)) hk;have g2:=Hd (n:=n) (c:=c) (part g i j) (v:=g i j) hm hm2;refine aX fun _ K=>?_;simp(disch:=omega) only[kd];apply K
   refine wO rfl ?_;refine cL (dE ?_);refine aX fun _ K=>?_;simp only[kd];apply K
   simp only[x9];refine kV bj 8 hS [] [] (by kernel_rfl) (by kernel_rfl) (by rfl) (by rfl) fun _ K=>?_;simp(disch:=omega) only[kd,tZ,aa,t3,fZ,g1,Dq,g2];apply K
   show eA _ _ _ _ _ _ _;refine eZ fun _ K=>?_;simp(disch:=omega) only[kd,aT];apply K
   refine⟨⟨j+1,by omega⟩,by simp only;omega,aG ⟨?_,trivial⟩ ?_,rfl⟩
   ·show[_,_]=[_,_];rw[pb fun a b _ _=>i5 g i j a b]
   simp[wk]
  have hjc:j=c:=by omega
  subst hjc;refine aX fun _ K=>?_;simp(disch:=omega) only[kd];apply K
  refine wN rfl ?_;show eA _ _ _ _ _ _ _;refine eZ fun _ K=>?_;simp(disch:=omega) only[kd,aT];apply K
  refine⟨⟨i+1,by omega⟩,by simp only;omega,aG ⟨?_,trivial⟩ ?_,rfl⟩
  ·show[_,_]=[_,_];rw[pb fun a b _ hb=>kA g i a b hb]
  simp[wk]
 have hin:i=n:=by omega
 subst hin;refine aX fun _ K=>?_;simp(disch:=omega) only[kd];apply K
 refine wN rfl ?_;show eA _ _ _ _ _ _ _;refine aX fun _ K=>?_;simp only[kd];apply K
 refine eA.weak ((bX 5016 (DW rfl)).trans (aG (tm:=(j4 (jk::jk::bJ (bx i c g)::j16 (j16 (j16 (j4 ([]))))))) (l:=[]) trivial ?_)) ?_
 ·have e:=Jm (c:=c) (H:=Hm [(5016,x9 5016 i c i (part g i 0))]) hc1 rfl;rw[gX fun a b ha _=>kx g a b ha]at e;simp[wk];exact e.symm
 (refine m9 ⟨.inr rfl,rfl,aL rfl ?_ rfl⟩;simp(disch:=omega) only[kd,Tryz.results146,bJ])
theorem dX (l:List Nat) (hb:l.length<=1073741824):CallC Tryz.prog 145 [bC l] ⟨[],bC (dI l)⟩:=by
 refine aJ Tryz.func145 rfl (by kernel_rfl) ?_;rw[Tryz.ntmps145];refine aF fun _ K=>?_;simp only[kd,bC,ag];apply K
 refine aH (aZ (G:={n:Nat//n<=l.length/\dI l=dI (l.take n)}) (fun n=>⟨(bC (l.take n.1)::j16 (j4 ([]))),Hm []⟩) (fun n=>n.1) ⟨l.length,af _,by simp⟩ ?_ ?_)
 ·refine aG trivial ?_;simp[wk]
 rintro⟨n,hn,hT⟩;simp only;have hlen:(l.take n).length=n:=by simp;omega
 by_cases h0:0<n
 ·obtain⟨a,ha⟩:=getElem?_of_lt (l:=l) (k:=n-1) (by omega);have e1:((n:Int)-1).toNat=n-1:=by omega
  have ha2:(l.take n)[n-1]?=some a:=by rw[List.getElem?_take,if_pos (by omega),ha]
  have htk:l.take n=l.take (n-1)++[a]:=by
   have:=List.take_succ_eq_append_getElem (i:=n-1) (l:=l) (by omega);rw[show n-1+1=n by omega]at this;rw[this,(List.getElem?_eq_some_iff.1 ha).2]
  refine aH (aF fun _ K=>?_);simp(disch:=omega) only[kd,aa,bC,hlen,aT,e1,ha2];apply K;refine bU rfl (fun hz=>aO ?_) (fun hz=>bK ?_)
  ·have hz':a=0:=by simpa using hz
   refine aM ?_;refine aN fun _ K=>?_;simp(disch:=omega) only[kd,aa,hlen,aT,e1,BE xj];apply K
   refine⟨⟨n-1,by omega,?_⟩,by simp only;omega,aG trivial ?_⟩
   ·rw[hT,htk,hz',mW]
   simp[wk,List.take_take,Nat.min_eq_left (show n-1<=n by omega)]
  have hz':a≠0:=by intro e;simp[e]at hz
  have hfin:dI l=l.take n:=by rw[hT,htk,wE hz']
  show bu _ _ _ _;refine aF fun _ K=>?_;simp(disch:=omega) only[kd];apply K
  (refine aK ⟨.inr rfl,aL rfl ?_ rfl⟩;simp(disch:=omega) only[kd,Tryz.results145,bC,hfin])
 have hn0:n=0:=by omega
 subst hn0;have hfin:dI l=l.take 0:=by rw[hT];simp[dI]
 refine aH (aF fun _ K=>?_);simp(disch:=omega) only[kd,aa,bC];apply K;refine bU rfl (fun hz=>by cases hz) (fun hz=>bK ?_);show bu _ _ _ _;refine aF fun _ K=>?_;simp only[kd];apply K
 (refine aK ⟨.inr rfl,aL rfl ?_ rfl⟩;simp(disch:=omega) only[kd,Tryz.results145,bC,hfin])
theorem eh (neg:Bool) (n:Nat):CallC Tryz.prog 141 [.raw (.bool neg),bC (aR n)] ⟨[],tZ (fD neg n)⟩:=by
 by_cases h0:n=0
 ·subst h0;rw[cw,show tZ (fD neg 0)= .agg [.p (.raw (.bool false)),.p (.sl (ls fU []))] by
   have:fD neg 0=0:=by cases neg<;>rfl
   simp[this,tZ,cw]]
  refine aJ Tryz.func141 rfl (by kernel_rfl) ?_;rw[Tryz.ntmps141];refine aF fun _ K=>?_;simp(disch:=omega) only[kd,bC,aa,ag];apply K
  refine aH (aF fun _ K=>?_);simp(disch:=omega) only[kd,aa];apply K;refine bf rfl ?_;refine aF fun _ K=>?_;simp(disch:=omega) only[kd,aa];apply K
  refine aK ⟨.inr rfl,?_⟩;refine⟨_,gy 4,pI (d:=1000) rfl ?_ rfl⟩;simp(disch:=omega) only[kd,Tryz.results141,zH,zO,Ax,CC,aa]
 have hl:=fk (n:=n);have hl':(aR n).length≠0:=by omega
 rw[show tZ (fD neg n)= .agg [.p (.raw (.bool neg)),.p (.sl (ls fU (aR n)))] by
  have:decide (0<n)=true:=by simp;omega
  simp[tZ,mP,xY,this]]
 refine aJ Tryz.func141 rfl (by kernel_rfl) ?_;rw[Tryz.ntmps141];refine aF fun _ K=>?_;simp(disch:=omega) only[kd,bC,aa,ag];apply K
 refine aH (aF fun _ K=>?_);simp(disch:=omega) only[kd,aa];apply K;refine aU rfl (aO ?_);show bu _ _ _ _;refine aF fun _ K=>?_;simp(disch:=omega) only[kd,aa,aj];apply K
 (refine aK ⟨.inr rfl,aL rfl ?_ rfl⟩;simp(disch:=omega) only[kd,Tryz.results141,aa])
theorem sM {P:Program} {f:FuncId} {args:List TV} {r:TV} (hc:callable P f=true) (h: ∀(X:Nat->Prop) (w:World) (vs:Array Value),(∀b,X b->b<w.heap.size)->vs.size=args.length->
  (∀(j:Nat) t,args[j]?=some t-> ∃v:Value,vs[j]?=some v/\t.rel (fun _ _=>none) (fun _=>[]) X w v)->Calls P f vs w fun e w'=> ∃v,e= .returned v/\(∀ρ H Y,(∀b,Y b->b<w.heap.size)->r.rel ρ H Y w' v)/\Ext w w'):CallC P f args ⟨[],r⟩:=
 ⟨hc,fun X w vs hX hvs ha=>(h X w vs hX hvs ha).mono fun e w' ⟨v,h1,h2,h3⟩=>⟨v,h1,fun _ _=>none,Di h3 hX,h2 _ _ _ (fun b hb=>by
  rcases hb with hb|⟨a,r,o,c,ho,hr⟩
  ·exact hX b hb
  cases hr)⟩⟩
theorem iq (u:Nat) (hu:u<18446744073709551616):CallC Tryz.prog 142 [.raw (.int .u64 u)] ⟨[],bC (aR u)⟩:=by
 have hlm:Lmb [u%4294967296,u/4294967296]:=by intro a ha;simp at ha;omega
 have ht:=dX [u%4294967296,u/4294967296] (by simp);rw[d7 hlm,wF]at ht;have e1:IntKind.u32.wrap (u:Int)=((u%4294967296:Nat):Int):=by rw[IntKind.wrap_u32];omega
 have e2:IntKind.u32.wrap ((u:Int).fdiv (2^(min (32:Int).toNat IntKind.u64.bits)))=((u/4294967296:Nat):Int):=by
  rw[IntKind.wrap_u32];show(Int.fdiv (u:Int) 4294967296)%4294967296=_;rw[Int.fdiv_eq_ediv_of_nonneg _ (by omega)];omega
 simp only[ao]at e2;refine aJ Tryz.func142 rfl (by kernel_rfl) ?_;rw[Tryz.ntmps142];refine aF fun _ K=>?_;simp only[kd,ag];apply K
 refine aI [⟨6,_,_,_,ht⟩] [] fun _ K=>?_;simp(disch:=omega) only[kd,bC,Dr,aa,e1,Int.reduceLE,ao,e2,Nat.reduceMul,aj];apply K
 (refine aK ⟨.inr rfl,aL rfl ?_ rfl⟩;simp(disch:=omega) only[kd,Tryz.results142,bC])
theorem rJ (l:List Nat) (lm:Lmb l) (bl:l.length<=2):CallC Tryz.prog 166 [bC l] ⟨[],.raw (.int .u64 (natV l:Nat))⟩:=by
 refine aJ Tryz.func166 rfl (by kernel_rfl) ?_;rw[Tryz.ntmps166];refine aF fun _ K=>?_;simp only[kd,bC,ag];apply K
 refine aF fun _ K=>?_;simp only[kd];apply K
 refine aH (aF fun _ K=>?_);simp only[kd,aa];apply K;refine aZ (G:=O3 l) (fun g=>⟨(jk::jk::jk::.raw (.int .u64 (g.u:Int))::jk::jk::bC l::rN l.length::rN g.i::j4 (j4 (j4 (jk::[])))),Hm []⟩) (fun g=>l.length-g.i) ⟨0,0,⟨by omega,by omega⟩,rfl⟩ ?_ ?_
 ·refine aG trivial ?_;simp[wk]
 rintro⟨i,u,hi,hu⟩;simp only;have hlt:=eI lm i;rw[<- hu]at hlt;by_cases hm:i<l.length
 ·obtain⟨a,ha⟩:=getElem?_of_lt hm;have ha':=ck lm ha;have hu2:=bG ha;rw[<- hu]at hu2;refine aF fun _ K=>?_;simp(disch:=omega) only[kd,bC];apply K
  refine bM rfl ?_;refine aH (aM ?_);refine aF fun _ K=>?_;simp(disch:=omega) only[kd,aa,ha];apply K
  have hi2:i=0\/i=1:=by omega
  rcases hi2 with rfl|rfl
  ·have e1:IntKind.u64.wrap ((a:Int)*2^min (32*((0:Nat):Int)).toNat IntKind.u64.bits)=(a:Int):=by
    rw[IntKind.wrap_u64];show((a:Int)*1)%_=_;omega
   have hu0:u=0:=by simpa[natV] using hu
   have e2:=xG u a (by omega) (by omega);rw[hu0,Nat.zero_or,<- hu0]at e2;refine aN fun _ K=>?_;simp(disch:=omega) only[kd,aa,cX,aT,e1,e2];apply K
   show bu _ _ _ _;refine aN fun _ K=>?_;simp(disch:=omega) only[kd,aT];apply K
   refine⟨⟨1,a,⟨by omega,by omega⟩,by rw[hu2,hu0];simp⟩,by simp only;omega,aG trivial ?_⟩;simp[wk]
  have e1:IntKind.u64.wrap ((a:Int)*2^min (32*((1:Nat):Int)).toNat IntKind.u64.bits)=((a*4294967296:Nat):Int):=by
   rw[IntKind.wrap_u64];show((a:Int)*4294967296)%_=_;omega
  simp only[Nat.pow_one]at hlt;have e2:=xG u (a*4294967296) (by omega) (by omega);rw[show a*4294967296=a*2^32 from rfl,rO _ _ _ hlt,show a*2^32=a*4294967296 from rfl]at e2;refine aN fun _ K=>?_;simp(disch:=omega) only[kd,aa,cX,aT,e1,e2];apply K
  show bu _ _ _ _;refine aN fun _ K=>?_;simp(disch:=omega) only[kd,aT];apply K
  refine⟨⟨2,a*4294967296+u,⟨by omega,by omega⟩,by rw[hu2];omega⟩,by simp only;omega,aG trivial ?_⟩;simp[wk]
 have hfin:u=natV l:=by rw[hu,List.take_of_length_le (by omega)]
 rw[<- hfin];refine aF fun _ K=>?_;simp(disch:=omega) only[kd,bC];apply K
 refine bV rfl ?_;show bu _ _ _ _;refine aF fun _ K=>?_;simp only[kd];apply K
 (refine aK ⟨.inr rfl,aL rfl ?_ rfl⟩;simp(disch:=omega) only[kd,Tryz.results166])
theorem y6 (n:Int) (h1: -9223372036854775808<=n) (h2:n<=9223372036854775807):CallC Tryz.prog 129 [.raw (.int .i64 n)] ⟨[],tZ n⟩:=by
 have hf:=iq n.natAbs (by omega);by_cases hn:n<0
 ·have ht:=eh true n.natAbs;have e1:IntKind.u64.wrap (0-IntKind.u64.wrap n)=((n.natAbs:Nat):Int):=by rw[IntKind.wrap_u64,IntKind.wrap_u64];omega
  rw[show fD true n.natAbs=n by unfold fD;simp;omega]at ht;refine aJ Tryz.func129 rfl (by kernel_rfl) ?_;rw[Tryz.ntmps129];refine aF fun _ K=>?_;simp(disch:=omega) only[kd,ag,aa];apply K
  refine aH (aF fun _ K=>?_);simp(disch:=omega) only[kd];apply K;refine bf rfl ?_;refine aI [⟨3,_,_,_,hf⟩,⟨4,_,_,_,ht⟩] [] fun _ K=>?_;simp(disch:=omega) only[kd,bC,tZ,aa,e1,ah];apply K
  (refine aK ⟨.inr rfl,aL rfl ?_ rfl⟩;simp(disch:=omega) only[kd,Tryz.results129,aa,tZ])
 have ht:=eh false n.natAbs;have e1:IntKind.u64.wrap n=((n.natAbs:Nat):Int):=by rw[IntKind.wrap_u64];omega
 rw[show fD false n.natAbs=n by unfold fD;simp;omega]at ht;refine aJ Tryz.func129 rfl (by kernel_rfl) ?_;rw[Tryz.ntmps129];refine aF fun _ K=>?_;simp(disch:=omega) only[kd,ag,aa];apply K
 refine aH (aF fun _ K=>?_);simp(disch:=omega) only[kd];apply K;refine aU rfl (aO ?_);show bu _ _ _ _;refine aI [⟨2,_,_,_,hf⟩,⟨3,_,_,_,ht⟩] [] fun _ K=>?_;simp(disch:=omega) only[kd,bC,tZ,aa,e1,ah];apply K
 (refine aK ⟨.inr rfl,aL rfl ?_ rfl⟩;simp(disch:=omega) only[kd,Tryz.results129,aa,tZ])
theorem rI (z:Int) (h:Bg z):CallC Tryz.prog 133 [tZ z] ⟨[],.raw (.int .i64 (sg z))⟩:=by
 have ht:=dX (aR z.natAbs) h.len;rw[gJ]at ht;have hl:=fk (n:=z.natAbs);rcases Int.lt_trichotomy z 0 with hz|hz|hz
 ·have e:sg z= -1:=by simp[sg,hz]
  have hl':(aR z.natAbs).length≠0:=by omega
  rw[e];refine aJ Tryz.func133 rfl (by kernel_rfl) ?_;rw[Tryz.ntmps133];refine aF fun _ K=>?_;simp(disch:=omega) only[kd,tZ,ag,aa];apply K
  refine aH (aM ?_);refine aI [⟨2,_,_,_,ht⟩] [] fun _ K=>?_;simp(disch:=omega) only[kd,bC,aa];apply K
  refine aU rfl ?_;refine aF fun _ K=>?_;simp only[kd,aa];apply K
  refine bf rfl ?_;refine aF fun _ K=>?_;simp only[kd];apply K
  (refine aK ⟨.inr rfl,aL rfl ?_ rfl⟩;simp(disch:=omega) only[kd,Tryz.results133])
 ·subst hz;rw[show sg 0=0 from rfl];rw[Int.natAbs_zero,cw]at ht;rw[show tZ 0= .agg [.p (.raw (.bool false)),.p (.sl (ls fU []))]from by simp[tZ,cw]];refine aJ Tryz.func133 rfl (by kernel_rfl) ?_;rw[Tryz.ntmps133];refine aF fun _ K=>?_;simp(disch:=omega) only[kd,ag,aa];apply K
  refine aH (aM ?_);refine aI [⟨2,_,_,_,ht⟩] [] fun _ K=>?_;simp(disch:=omega) only[kd,bC,aa];apply K
  refine bf rfl ?_;refine aF fun _ K=>?_;simp only[kd];apply K
  (refine aK ⟨.inr rfl,aL rfl ?_ rfl⟩;simp(disch:=omega) only[kd,Tryz.results133])
 have e:sg z=1:=by unfold sg;rw[if_neg (by omega),if_neg (by omega)]
 have hl':(aR z.natAbs).length≠0:=by omega
 rw[e];refine aJ Tryz.func133 rfl (by kernel_rfl) ?_;rw[Tryz.ntmps133];refine aF fun _ K=>?_;simp(disch:=omega) only[kd,tZ,ag,aa];apply K
 refine aH (aM ?_);refine aI [⟨2,_,_,_,ht⟩] [] fun _ K=>?_;simp(disch:=omega) only[kd,bC,aa];apply K
 refine aU rfl ?_;refine aF fun _ K=>?_;simp only[kd,aa];apply K
 refine aU rfl (aO ?_);show bu _ _ _ _;refine aF fun _ K=>?_;simp only[kd];apply K
 (refine aK ⟨.inr rfl,aL rfl ?_ rfl⟩;simp(disch:=omega) only[kd,Tryz.results133])
/-! Clone: a walk of the older kind, for it holds the slice against nil. -/
theorem sX (A:Option Addr) (c:Nat) (x:List Int) (w:World) (hx:RdI .u32 w A x) (hl:x.length*4<=140737488355328):
  Calls Tryz.prog 156 #[.slice A x.length c] w fun e w'=> ∃v,e= .returned v/\w'.ownsRow w.heap.size 56 1 v x.length (x.map (Value.int .u32))/\Ext w w':=by
 have hnil:=fun(w:World) (n c:Nat)=>Lib.run_eql_slice_nil (P:=Tryz.prog) w 30 56 A n c 0 0 Tryz.underlying30
 cases A with
 |none=>
  have hx0:x=[]:=by
   cases x with
   |nil=>rfl
   |cons a l=>obtain⟨_,_,h,_⟩:=hx (by simp);cases h
  subst hx0
  go_enter Tryz.func156,Tryz.ntmps156
  go_wp2_with fail
  go_ret
  exact⟨_,rfl,World.ownsRow_nil _ _ _ _,Ext.refl _⟩
 |some a=>
  go_enter Tryz.func156,Tryz.ntmps156
  go_wp2_with (at_builtin;refine qQ _ rfl (.tmp 5) (.tmp 6) _ rfl w.heap.size 56 (.int .u32 0) 1 4 Tryz.underlying30 Tryz.inU32 rfl (by omega) _ 0 [] rfl (World.ownsRow_made w #[] 0 (af _) (Nat.zero_le _) rfl) (some a) x.length c _ rfl (Rd.ext hx ((Ext.refl _).alloc _)) (by simp) xE (by simp only[maxLen];omega) (by omega) (by simp) ?_;intro v1 w1 hown1 hg1 _)
  go_ret
  exact⟨_,rfl,by simpa using hown1,EL hg1 (World.ownsRow_made w #[] 0 (af _) (Nat.zero_le _) rfl:World.ownsRow _ w.heap.size 56 1 _ 0 []) ((Ext.refl w).alloc _) (af _)⟩
theorem DJ {X:Nat->Prop} {w:World} {l:List Nat} {v:Value} (h:cu X w (.sl (ls fU l)) v): ∃A c,v= .slice A l.length c/\l.length<=c/\RdI .u32 w A (l.map fun n:Nat=>(n:Int)):=by
 generalize hx:PV.sl (ls fU l)=x at h;cases h with
 |raw v h=>cases hx
 |ptr b off cs f hX hb hc hr=>cases hx
 |nil a c=>
  injection hx with hx
  have hl:l=[]:=by simpa[ls] using hx
  subst hl;exact⟨a,c,rfl,Nat.zero_le _,RdI.nil _ _ _⟩
 |sl b off es cap xs f hX hb hes hcap hm hc hr=>
  injection hx with hx
  subst hx;rw[ff]at hcap hm;refine⟨some ⟨b,off,none⟩,cap,by rw[ff],hcap,fun hne=>⟨b,off,rfl,fun i x hx=>?_⟩⟩;rw[aA,aA]at hx;obtain⟨z',hz',rfl⟩:=Option.map_eq_some_iff.1 hx;obtain⟨z,hz,rfl⟩:=Option.map_eq_some_iff.1 hz';have h1:(ls fU l)[i]?=some (fU z):=by rw[gH,hz];rfl
  have he:es=1:=by rw[<- hes _ (List.mem_of_getElem? h1)];rfl
  subst he;have h2:=hc i _ 0 _ h1 rfl;have h3:=lG (hr i _ 0 _ h1 rfl);rw[h3,Nat.mul_one,Nat.add_zero]at h2;exact h2
theorem Im {w':World} {k:Nat} {v:Value} {l:List Nat} {Y:Nat->Prop} (hY: ∀b,Y b->b<k) (hm:l.length<=9223372036854775807) (h:w'.ownsRow k 56 1 v l.length ((l.map fun n:Nat=>(n:Int)).map (Value.int .u32))):cu Y w' (.sl (ls fU l)) v:=by
 obtain⟨hl,h2⟩:=h;rcases h2 with⟨hv,hn⟩|⟨g,cap,cur,hv,hg,hh,hnc,hm2,hs,ht⟩
 ·have:l=[]:=List.eq_nil_of_length_eq_zero (by omega);subst this;rw[hv];exact cu.nil _ _
 rw[hv];have hcell: ∀(i:Nat) z,l[i]?=some z->cur[i]?=some (.int .u32 (z:Int)):=fun i z hz=>by
  have h3:((l.map fun n:Nat=>(n:Int)).map (Value.int .u32))[i]?=some (.int .u32 (z:Int)):=by rw[aA,aA,hz];rfl
  rw[<- ht,List.getElem?_take]at h3;split at h3
  ·simpa using h3
  cases h3
 have:=cu.sl (X:=Y) (w:=w') g 0 1 cap (ls fU l) (fun i _=>(cur[i]?).getD undef) (fun h=>absurd (hY _ h) (by omega)) (Array.getElem?_eq_some_iff.1 hh).1 (fun e he=>by
  obtain⟨z,_,rfl⟩:=List.mem_map.1 he;rfl) (by rw[ff];exact hnc) (by rw[ff];exact hm) (fun i e j x he hx=>by
  rw[gH]at he;obtain⟨z,hz,rfl⟩:=Option.map_eq_some_iff.1 he;cases j with
  |succ j=>simp[fU]at hx
  |zero=>
   rw[cell_of_row _ g _ cur _ _ hh,Nat.zero_add,Nat.mul_one,Nat.add_zero,hcell i z hz];rfl) (fun i e j x he hx=>by
  rw[gH]at he;obtain⟨z,hz,rfl⟩:=Option.map_eq_some_iff.1 he;cases j with
  |succ j=>simp[fU]at hx
  |zero=>
   simp[fU]at hx;subst hx;simp only[hcell i z hz,Option.getD_some];exact cu.raw _ rfl)
 rw[ff]at this;exact this
theorem y5 (l:List Nat) (hl:l.length<=1073741824):CallC Tryz.prog 156 [bC l] ⟨[],bC l⟩:=by
 refine sM (by kernel_rfl) fun X w vs hX hvs ha=>?_
 obtain⟨v0,e0,r0⟩:=mf ha (j:=0) rfl;obtain⟨A,c,rfl,hc,hR⟩:=DJ r0;obtain rfl:vs= #[.slice A l.length c]:=by
  apply Array.ext_getElem?;intro j
  match j with
  |0=>exact e0
  |j+1=>rw[Array.getElem?_eq_none (by simp at hvs;omega)];rfl
 have hlen:(l.map fun n:Nat=>(n:Int)).length=l.length:=List.length_map _;have:=sX A c (l.map fun n:Nat=>(n:Int)) w hR (by rw[hlen];omega);rw[hlen]at this;refine this.mono fun e w' ⟨v,h1,h2,h3⟩=>⟨v,h1,fun ρ H Y hY=>Im hY (by omega) h2,h3⟩
theorem xn (z:Int) (h:Bg z):CallC Tryz.prog 148 [tZ z] ⟨[],tZ z⟩:=by
 have ht:=dX (aR z.natAbs) h.len;rw[gJ]at ht;have hc:=y5 (aR z.natAbs) h.len;have hb:=eh (decide (z<0)) z.natAbs;rw[xB]at hb;refine aJ Tryz.func148 rfl (by kernel_rfl) ?_;rw[Tryz.ntmps148];refine aF fun _ K=>?_;simp(disch:=omega) only[kd,tZ,ag,aa,ae];apply K
 refine bz bj [⟨4,_,_,_,ht⟩,⟨5,_,_,_,hc⟩,⟨6,_,_,_,hb⟩] [] (by kernel_rfl) fun _ K=>?_;simp(disch:=omega) only[kd,bC,tZ,aa,ae,ah];apply K
 (refine aK ⟨.inr rfl,aL rfl ?_ rfl⟩;simp(disch:=omega) only[kd,Tryz.results148,ae,aa,tZ])
theorem oK (o:List Nat) (k v:Nat):(o++ag (k+1) 0).set o.length v=(o++[v])++ag k 0:=by
 rw[List.set_append_right _ _ (af _),Nat.sub_self,List.replicate_succ,List.set_cons_zero,List.append_assoc];rfl
theorem qG (o:List Nat) (k:Nat):(o++ag (k+1) 0)[o.length]?=some 0:=by
 rw[List.getElem?_append_right (af _),Nat.sub_self,List.replicate_succ];rfl
theorem oq (l m:List Nat) (ll:Lmb l) (lm:Lmb m) (cl:nX l) (cm:nX m) (bl:l.length<=1073741824) (bm:m.length<=1073741824):
  CallC Tryz.prog 144 [bC l,bC m] ⟨[],.raw (.int .i64 (fB (natV l) (natV m)))⟩:=by
 rcases Nat.lt_trichotomy l.length m.length with hlt|heq|hgt
 ·rw[ng (iz ll cm hlt)];refine aJ Tryz.func144 rfl (by kernel_rfl) ?_;rw[Tryz.ntmps144];refine aF fun _ K=>?_;simp only[kd,bC,aa,ag];apply K
  refine aH (aM ?_);refine aF fun _ K=>?_;simp(disch:=omega) only[kd,aa];apply K
  refine bf rfl ?_;refine aF fun _ K=>?_;simp only[kd];apply K
  (refine aK ⟨.inr rfl,aL rfl ?_ rfl⟩;simp(disch:=omega) only[kd,Tryz.results144])
 ·refine aJ Tryz.func144 rfl (by kernel_rfl) ?_;rw[Tryz.ntmps144];refine aF fun _ K=>?_;simp only[kd,bC,aa,ag];apply K
  refine aH (aM ?_);refine aF fun _ K=>?_;simp(disch:=omega) only[kd,aa];apply K
  refine aU rfl ?_;refine aF fun _ K=>?_;simp(disch:=omega) only[kd,aa];apply K
  refine aU rfl (aO ?_);show bu _ _ _ _;refine aH (aF fun _ K=>?_);simp(disch:=omega) only[kd,aa,aT];apply K;refine aZ (G:={k:Nat//k<=l.length/\l.drop k=m.drop k}) (fun k=>⟨(bC l::bC m::jk::jk::jk::.raw (.int .i64 ((k.1:Int)-1))::j16 (j16 (j4 (jk::jk::jk::[])))),Hm []⟩) (fun k=>k.1) ⟨l.length,af _,by rw[List.drop_length,heq,List.drop_length]⟩ ?_ ?_
  ·refine aG trivial ?_;simp[wk]
  rintro⟨k,hk,hd⟩;simp only;by_cases h0:0<k
  ·obtain⟨a,ha⟩:=getElem?_of_lt (l:=l) (k:=k-1) (by omega);obtain⟨b,hb⟩:=getElem?_of_lt (l:=m) (k:=k-1) (by omega);have e1:((k:Int)-1).toNat=k-1:=by omega
   have hd':l.drop (k-1+1)=m.drop (k-1+1):=by rw[show k-1+1=k by omega];exact hd
   refine aH (aF fun _ K=>?_);simp(disch:=omega) only[kd,bC];apply K;refine bf rfl (aO ?_);refine aH (aM ?_);refine aM ?_;rcases Nat.lt_trichotomy a b with hab|hab|hab
   ·rw[ng (lF ll ha hb hd' hab)];refine dF bj (by kernel_rfl) fun _ K=>?_;simp(disch:=omega) only[kd,aa,e1,ha,hb];apply K
    refine bf rfl ?_;refine aF fun _ K=>?_;simp only[kd];apply K
    (refine aK ⟨.inr rfl,aL rfl ?_ rfl⟩;simp(disch:=omega) only[kd,Tryz.results144])
   ·subst hab;refine dF bj (by kernel_rfl) fun _ K=>?_;simp(disch:=omega) only[kd,aa,e1,ha,hb];apply K
    refine aU rfl ?_;refine dF bj (by kernel_rfl) fun _ K=>?_;simp(disch:=omega) only[kd,aa,e1,ha,hb];apply K
    refine aU rfl (aO ?_);show bu _ _ _ _;refine aN fun _ K=>?_;simp(disch:=omega) only[kd,aa,aT];apply K
    refine⟨⟨k-1,by omega,vF ha hb hd'⟩,by simp only;omega,aG trivial ?_⟩;have e2:((k-1:Nat):Int)=(k:Int)-1:=by omega
    simp[wk,e2]
   rw[rF (lF lm hb ha hd'.symm hab)];refine dF bj (by kernel_rfl) fun _ K=>?_;simp(disch:=omega) only[kd,aa,e1,ha,hb];apply K
   refine aU rfl ?_;refine dF bj (by kernel_rfl) fun _ K=>?_;simp(disch:=omega) only[kd,aa,e1,ha,hb];apply K
   refine bf rfl ?_;refine aF fun _ K=>?_;simp only[kd];apply K
   (refine aK ⟨.inr rfl,aL rfl ?_ rfl⟩;simp(disch:=omega) only[kd,Tryz.results144])
  have hk0:k=0:=by omega
  subst hk0;have hlm:l=m:=by simpa using hd
  rw[show fB (natV l) (natV m)=0 by rw[hlm];simp[fB]];refine aH (aF fun _ K=>?_);simp(disch:=omega) only[kd,bC];apply K;refine aU rfl (bK ?_);show bu _ _ _ _;refine aF fun _ K=>?_;simp only[kd];apply K
  (refine aK ⟨.inr rfl,aL rfl ?_ rfl⟩;simp(disch:=omega) only[kd,Tryz.results144])
 rw[rF (iz lm cl hgt)];refine aJ Tryz.func144 rfl (by kernel_rfl) ?_;rw[Tryz.ntmps144];refine aF fun _ K=>?_;simp only[kd,bC,aa,ag];apply K
 refine aH (aM ?_);refine aF fun _ K=>?_;simp(disch:=omega) only[kd,aa];apply K
 refine aU rfl ?_;refine aF fun _ K=>?_;simp(disch:=omega) only[kd,aa];apply K
 refine bf rfl ?_;refine aF fun _ K=>?_;simp only[kd];apply K
 (refine aK ⟨.inr rfl,aL rfl ?_ rfl⟩;simp(disch:=omega) only[kd,Tryz.results144])
structure PU (m n:List Nat) (e:Nat) where
 i:Nat
 o:List Nat
 c:Nat
 hi:i<=e
 hc:c<=1
 ho:o.length=i
 h:o++sumL (m.drop i) (n.drop i) c=sumL m n 0
structure PW (m n:List Nat) where
 j:Nat
 o:List Nat
 c:Nat
 hj:n.length+j<=m.length
 hc:c<=1
 ho:o.length=n.length+j
 h:o++sumL (m.drop (n.length+j)) [] c=sumL m n 0
theorem vL (m n:List Nat) (lm:Lmb m) (ln:Lmb n) (bm:m.length<=536870912) (bn:n.length<=536870912):
  CallC Tryz.prog 162 [bC m,bC n] ⟨[],bC (aR (natV m+natV n))⟩:=by
 refine aJ Tryz.func162 rfl (by kernel_rfl) ?_;rw[Tryz.ntmps162];refine aF fun _ K=>?_;simp only[kd,bC,aa,ag];apply K
 obtain⟨p,q,hpq,hle⟩: ∃p q:List Nat,((p=m/\q=n/\ ¬m.length<n.length)\/(p=n/\q=m/\m.length<n.length))/\q.length<=p.length:=by
  by_cases h:m.length<n.length
  ·exact⟨n,m,.inr ⟨rfl,rfl,h⟩,by omega⟩
  exact⟨m,n,.inl ⟨rfl,rfl,h⟩,by omega⟩
 refine aH (mY (S:=⟨(bC p::bC q::j16 (j16 (j16 (j16 (j16 (jk::[])))))),Hm []⟩) ?_ ?_)
 ·rcases hpq with⟨rfl,rfl,h⟩|⟨rfl,rfl,h⟩
  ·refine aF fun _ K=>?_;simp(disch:=omega) only[kd,aa];apply K
   refine bU rfl (fun h=>by simp at h<;>omega) (fun _=>aO (aG trivial ?_));simp[wk]
  refine aF fun _ K=>?_;simp(disch:=omega) only[kd,aa];apply K
  refine bf rfl ?_;refine aN fun _ K=>?_;simp only[kd,aa];apply K
  refine aG trivial ?_;simp[wk]
 have hsum:natV m+natV n=natV p+natV q:=by rcases hpq with⟨rfl,rfl,_⟩|⟨rfl,rfl,_⟩<;>omega
 have lp:Lmb p:=by rcases hpq with⟨rfl,rfl,_⟩|⟨rfl,rfl,_⟩<;>assumption
 have lq:Lmb q:=by rcases hpq with⟨rfl,rfl,_⟩|⟨rfl,rfl,_⟩<;>assumption
 have bp:p.length<=536870912:=by rcases hpq with⟨rfl,rfl,_⟩|⟨rfl,rfl,_⟩<;>assumption
 rw[hsum];clear hsum hpq lm ln bm bn;have ep:(p.length:Int)+1=((p.length+1:Nat):Int):=by omega
 refine aF fun _ K=>?_;simp(disch:=omega) only[kd,aa,bC,ep,aT,lA];apply K
 refine aF fun _ K=>?_;simp only[kd];apply K
 refine aH (aF fun _ K=>?_);simp only[kd,aa];apply K;refine aZ (G:=PU p q q.length) (fun g=>⟨(bC p::bC q::jk::jk::jk::.one (.sl 19 0 0 (p.length+1))::.raw (.int .u64 (g.c:Int))::j4 (j4 (j4 (jk::jk::rN q.length::rN g.i::j16 (j16 (j16 (j4 (j4 (j4 ([])))))))))),Hm [(19,[⟨56,1,lc fU (g.o++ag (p.length+1-g.i) 0)⟩])]⟩) (fun g=>q.length-g.i) ⟨0,[],0,by omega,by omega,rfl,rfl⟩ ?_ ?_
 ·refine aG ⟨?_,trivial⟩ ?_
  ·simp[bs,Hm]
  simp[wk]
 rintro⟨i,o,c,hi,hc,ho,h⟩;simp only;by_cases hm:i<q.length
 ·obtain⟨a,ha⟩:=getElem?_of_lt (show i<p.length by omega);obtain⟨b,hb⟩:=getElem?_of_lt hm;have ha':=ck lp ha;have hb':=ck lq hb;have e1:IntKind.u32.wrap ((c:Int)+((a:Int)+(b:Int)))=(((c+a+b)%4294967296:Nat):Int):=by rw[<- r8];congr 1<;>omega
  have e2:Int.fdiv ((c:Int)+((a:Int)+(b:Int))) (2^(min 32 IntKind.u64.bits))=(((c+a+b)/4294967296:Nat):Int):=by rw[<- F1];congr 1<;>omega
  have hz:p.length+1-i=(p.length-i)+1:=by omega
  have hg:=qG o (p.length-i);have hs:=oK o (p.length-i) ((c+a+b)%4294967296);rw[ho]at hg hs;rw[hz];refine aF fun _ K=>?_;simp(disch:=omega) only[kd,bC];apply K
  refine bM rfl ?_;refine aH (aM ?_);refine aF fun _ K=>?_;simp only[kd];apply K
  refine dF bj (by kernel_rfl) fun _ K=>?_;simp(disch:=omega) only[kd,aa,ha,cX,hb];apply K
  refine aF fun _ K=>?_;simp(disch:=omega) only[kd,aa,e1,hg,dv,hs];apply K
  refine aN fun _ K=>?_;simp only[kd,aa,Int.reduceLE,ao,e2];apply K
  show bu _ _ _ _;refine aN fun _ K=>?_;simp(disch:=omega) only[kd,aT];apply K
  refine⟨⟨i+1,o++[(c+a+b)%4294967296],(c+a+b)/4294967296,by omega,by omega,by simp[ho],?_⟩,by simp only;omega,aG ⟨?_,trivial⟩ ?_⟩
  ·rw[<- h,dQ ha,dQ hb,sumL,List.append_assoc];rfl
  ·show _=[(⟨_,_,lc fU ((o++[(c+a+b)%4294967296])++ag (p.length+1-(i+1)) 0)⟩:OObj)];rw[show p.length+1-(i+1)=p.length-i by omega];rfl
  simp[wk]
 have hin:i=q.length:=by omega
 subst hin;rw[dz (af _)]at h;refine aF fun _ K=>?_;simp(disch:=omega) only[kd,bC];apply K
 refine bV rfl ?_;show bu _ _ _ _;have es:(p.length:Int)-(q.length:Int)=((p.length-q.length:Nat):Int):=by omega
 refine aH (aF fun _ K=>?_);simp(disch:=omega) only[kd,aa,es,aT];apply K;refine aZ (G:=PW p q) (fun g=>⟨(bC p::bC q::jk::jk::jk::.one (.sl 19 0 0 (p.length+1))::.raw (.int .u64 (g.c:Int))::j16 (j16 (j4 (j4 (jk::jk::jk::.raw (.int .i64 ((p.length-q.length:Nat):Int))::rN g.j::j16 (j4 (j4 (j4 (jk::jk::jk::[]))))))))),Hm [(19,[⟨56,1,lc fU (g.o++ag (p.length+1-(q.length+g.j)) 0)⟩])]⟩) (fun g=>p.length-q.length-g.j) ⟨0,o,c,by omega,hc,ho,h⟩ ?_ ?_
 ·refine aG ⟨rfl,trivial⟩ ?_;simp[wk]
 clear h ho hc c o;rintro⟨j,o,c,hj,hc,ho,h⟩;simp only;have eNj:(q.length:Int)+(j:Int)=((q.length+j:Nat):Int):=by omega
 by_cases hm2:j<p.length-q.length
 ·obtain⟨a,ha⟩:=getElem?_of_lt (show q.length+j<p.length by omega);have ha':=ck lp ha;have e1:IntKind.u32.wrap ((c:Int)+(a:Int))=(((c+a)%4294967296:Nat):Int):=by rw[<- r8];congr 1<;>omega
  have e2:Int.fdiv ((c:Int)+(a:Int)) (2^(min 32 IntKind.u64.bits))=(((c+a)/4294967296:Nat):Int):=by rw[<- F1];congr 1<;>omega
  have hz:p.length+1-(q.length+j)=(p.length-(q.length+j))+1:=by omega
  have hg:=qG o (p.length-(q.length+j));have hs:=oK o (p.length-(q.length+j)) ((c+a)%4294967296);rw[ho]at hg hs;rw[hz];refine aF fun _ K=>?_;simp(disch:=omega) only[kd,bC];apply K
  refine bM rfl ?_;refine aH (aM ?_);refine aF fun _ K=>?_;simp only[kd];apply K
  refine aF fun _ K=>?_;simp(disch:=omega) only[kd,aa,eNj,aT,ha,cX];apply K
  refine aF fun _ K=>?_;simp(disch:=omega) only[kd,aa,eNj,aT,e1,hg,dv,hs];apply K
  refine aN fun _ K=>?_;simp only[kd,aa,Int.reduceLE,ao,e2];apply K
  show bu _ _ _ _;refine aN fun _ K=>?_;simp(disch:=omega) only[kd,aT];apply K
  refine⟨⟨j+1,o++[(c+a)%4294967296],(c+a)/4294967296,by omega,by omega,by simp[ho];omega,?_⟩,by simp only;omega,aG ⟨?_,trivial⟩ ?_⟩
  ·rw[<- h,dQ ha,sumL,List.append_assoc];rfl
  ·show _=[(⟨_,_,lc fU ((o++[(c+a)%4294967296])++ag (p.length+1-(q.length+(j+1))) 0)⟩:OObj)];rw[show p.length+1-(q.length+(j+1))=p.length-(q.length+j) by omega];rfl
  simp[wk]
 have hje:q.length+j=p.length:=by omega
 rw[hje]at h ho;rw[dz (af _),sumL]at h;have e1:IntKind.u32.wrap (c:Int)=(c:Int):=by rw[r8];omega
 have hz:p.length+1-(q.length+j)=0+1:=by omega
 have hg:=qG o 0;have hs:=oK o 0 c;rw[ho]at hg hs;rw[List.replicate_zero,List.append_nil,h]at hs;have hsl:(sumL p q 0).length=p.length+1:=by rw[mT];omega
 have hlm:=mw p q 0 lp lq (by omega);have ht:=dX (sumL p q 0) (by omega);rw[d7 hlm,kv,Nat.add_zero]at ht;rw[hz];generalize sumL p q 0=S at*
 refine aF fun _ K=>?_;simp(disch:=omega) only[kd,bC];apply K
 refine bV rfl ?_;show bu _ _ _ _;refine aF fun _ K=>?_;simp(disch:=omega) only[kd,aa,e1,hg,dv,hs];apply K
 refine bu.weak ((bX 19 (cJ rfl)).trans (aG (tm:=(j4 (jk::bC S::j16 (j16 (j16 (j16 (j4 (j4 (j4 (jk::[])))))))))) (l:=[]) trivial (by simp[wk,gO,fj,bs,Hm,fP,gG,List.take_of_length_le,hsl]))) ?_;refine aI [⟨1,_,_,_,ht⟩] [] fun _ K=>?_;simp only[kd,bC,aa];apply K
 (refine aK ⟨.inr rfl,aL rfl ?_ rfl⟩;simp(disch:=omega) only[kd,Tryz.results162,bC])
theorem qn (m n:List Nat) (lm:Lmb m) (ln:Lmb n) (hl:n.length<=m.length) (hle:natV n<=natV m) (bm:m.length<=536870912):
  CallC Tryz.prog 163 [bC m,bC n] ⟨[],bC (aR (natV m-natV n))⟩:=by
 refine aJ Tryz.func163 rfl (by kernel_rfl) ?_;rw[Tryz.ntmps163];refine aF fun _ K=>?_;simp only[kd,bC,aa,ag];apply K
 refine aF fun _ K=>?_;simp(disch:=omega) only[kd,aa,lA];apply K
 refine aF fun _ K=>?_;simp only[kd];apply K
 refine aH (aF fun _ K=>?_);simp only[kd,aa];apply K;refine aZ (G:=OZ m n) (fun g=>⟨(bC m::bC n::jk::jk::jk::.one (.sl 11 0 0 m.length)::.raw (.int .u64 (g.c:Int))::j4 (jk::jk::rN m.length::rN g.i::j16 (j4 (j4 (j4 (jk::jk::[])))))),Hm [(11,[⟨56,1,lc fU (g.o++ag (m.length-g.i) 0)⟩])]⟩) (fun g=>m.length-g.i) ⟨0,[],0,by omega,by omega,rfl,rfl⟩ ?_ ?_
 ·refine aG ⟨?_,trivial⟩ ?_
  ·simp[bs,Hm]
  simp[wk]
 rintro⟨i,o,c,hi,hc,ho,h⟩;simp only;by_cases hm:i<m.length
 ·obtain⟨a,ha⟩:=getElem?_of_lt hm;have ha':=ck lm ha;have hz:m.length-i=(m.length-i-1)+1:=by omega
  have hg:=qG o (m.length-i-1);rw[ho]at hg;rw[hz];refine aF fun _ K=>?_;simp(disch:=omega) only[kd,bC];apply K
  refine bM rfl ?_;refine aH (aM ?_);refine aF fun _ K=>?_;simp only[kd];apply K
  refine aF fun _ K=>?_;simp(disch:=omega) only[kd,aa,ha,cX];apply K
  by_cases hn:i<n.length
  ·obtain⟨b,hb⟩:=getElem?_of_lt hn;have hb':=ck ln hb;have e1:IntKind.u32.wrap (IntKind.u64.wrap (IntKind.u64.wrap ((a:Int)-(c:Int))-(b:Int)))=(((a+8589934592-(c+b))%4294967296:Nat):Int):=by rw[IntKind.wrap_u32,IntKind.wrap_u64,IntKind.wrap_u64];omega
   have e2:Int.fdiv (IntKind.u64.wrap (IntKind.u64.wrap ((a:Int)-(c:Int))-(b:Int))) (2^(min 63 IntKind.u64.bits))=(((if a<c+b then 1 else 0):Nat):Int):=by
    rw[IntKind.wrap_u64,IntKind.wrap_u64];show Int.fdiv _ 9223372036854775808=_;rw[Int.fdiv_eq_ediv_of_nonneg _ (by omega)];split<;>omega
   have hs:=oK o (m.length-i-1) ((a+8589934592-(c+b))%4294967296);rw[ho]at hs;refine aH (aF fun _ K=>?_);simp(disch:=omega) only[kd,aa];apply K;refine bf rfl ?_;refine aN fun _ K=>?_;simp(disch:=omega) only[kd,aa,hb,cX];apply K
   show bu _ _ _ _;refine aF fun _ K=>?_;simp(disch:=omega) only[kd,aa,e1,hg,dv,hs];apply K
   refine aN fun _ K=>?_;simp only[kd,aa,Int.reduceLE,ao,e2];apply K
   show bu _ _ _ _;refine aN fun _ K=>?_;simp(disch:=omega) only[kd,aT];apply K
   refine⟨⟨i+1,o++[(a+8589934592-(c+b))%4294967296],if a<c+b then 1 else 0,by omega,by split<;>omega,by simp[ho],?_⟩,by simp only;omega,aG ⟨?_,trivial⟩ ?_⟩
   ·rw[<- h,dQ ha,dQ hb,diffL,List.append_assoc];rfl
   ·show _=[(⟨_,_,lc fU ((o++[(a+8589934592-(c+b))%4294967296])++ag (m.length-(i+1)) 0)⟩:OObj)];rw[show m.length-(i+1)=m.length-i-1 by omega];rfl
   simp[wk]
  have e1:IntKind.u32.wrap (IntKind.u64.wrap ((a:Int)-(c:Int)))=(((a+8589934592-c)%4294967296:Nat):Int):=by rw[IntKind.wrap_u32,IntKind.wrap_u64];omega
  have e2:Int.fdiv (IntKind.u64.wrap ((a:Int)-(c:Int))) (2^(min 63 IntKind.u64.bits))=(((if a<c then 1 else 0):Nat):Int):=by
   rw[IntKind.wrap_u64];show Int.fdiv _ 9223372036854775808=_;rw[Int.fdiv_eq_ediv_of_nonneg _ (by omega)];split<;>omega
  have hs:=oK o (m.length-i-1) ((a+8589934592-c)%4294967296);rw[ho]at hs;refine aH (aF fun _ K=>?_);simp(disch:=omega) only[kd,aa];apply K;refine aU rfl (aO ?_);show bu _ _ _ _;refine aF fun _ K=>?_;simp(disch:=omega) only[kd,aa,e1,hg,dv,hs];apply K
  refine aN fun _ K=>?_;simp only[kd,aa,Int.reduceLE,ao,e2];apply K
  show bu _ _ _ _;refine aN fun _ K=>?_;simp(disch:=omega) only[kd,aT];apply K
  refine⟨⟨i+1,o++[(a+8589934592-c)%4294967296],if a<c then 1 else 0,by omega,by split<;>omega,by simp[ho],?_⟩,by simp only;omega,aG ⟨?_,trivial⟩ ?_⟩
  ·rw[<- h,dQ ha,dz (by omega:n.length<=i),dz (by omega:n.length<=i+1),diffL,List.append_assoc];rfl
  ·show _=[(⟨_,_,lc fU ((o++[(a+8589934592-c)%4294967296])++ag (m.length-(i+1)) 0)⟩:OObj)];rw[show m.length-(i+1)=m.length-i-1 by omega];rfl
  simp[wk]
 have hie:i=m.length:=by omega
 subst hie;rw[dz (af _),diffL,List.append_nil]at h;rw[Nat.sub_self,List.replicate_zero,List.append_nil,h];have hsl:(diffL m n 0).length=m.length:=iW m n 0;have hlm:=iY m n 0;have hv:=gY m n 0 lm ln (by omega) hl (by omega);have ht:=dX (diffL m n 0) (by omega);rw[d7 hlm,show natV (diffL m n 0)=natV m-natV n by omega]at ht;generalize diffL m n 0=S at*
 refine aF fun _ K=>?_;simp(disch:=omega) only[kd,bC];apply K
 refine bV rfl ?_;show bu _ _ _ _;refine bu.weak ((bX 11 (cJ rfl)).trans (aG (tm:=(j4 (jk::bC S::j16 (j16 (j4 (jk::jk::jk::[])))))) (l:=[]) trivial (by simp[wk,gO,fj,bs,Hm,fP,gG,List.take_of_length_le,hsl]))) ?_;refine aI [⟨1,_,_,_,ht⟩] [] fun _ K=>?_;simp only[kd,bC,aa];apply K
 (refine aK ⟨.inr rfl,aL rfl ?_ rfl⟩;simp(disch:=omega) only[kd,Tryz.results163,bC])
theorem E4 {A B:List Nat} (g:D7 A B) (h:A[g.i]?=some 0): ∃g':D7 A B,g'.i=g.i+1/\g'.O=g.O:=by
 refine⟨⟨g.i+1,g.O,(List.getElem?_eq_some_iff.1 h).1,g.len,g.lmb,?_,fun k h1 h2=>g.zero k (by omega) h2⟩,rfl,rfl⟩;rw[bG h,g.val];simp
theorem EP (A B:List Nat) (hlA:Lmb A) (hlB:Lmb B) (la:A.length<=536870912) (lb:B.length<=536870912):CallC Tryz.prog 165 [bC A,bC B] ⟨[],bC (aR (natV A*natV B))⟩:=by
 by_cases hsm:A.length<=1/\B.length<=1
 ·have hsm1:=hsm.1;have hsm2:=hsm.2;have w1:=rJ A hlA (by omega);have w2:=rJ B hlB (by omega);have b1:natV A<4294967296:=by
   have:=fq hlA;exact Nat.lt_of_lt_of_le this (by have:=Nat.pow_le_pow_right (n:=4294967296) (by omega) hsm1;simpa using this)
  have b2:natV B<4294967296:=by
   have:=fq hlB;exact Nat.lt_of_lt_of_le this (by have:=Nat.pow_le_pow_right (n:=4294967296) (by omega) hsm2;simpa using this)
  have hb:=nA b1 b2;have w3:=iq (natV A*natV B) (by omega);have e2:(natV A:Int)*(natV B:Int)=((natV A*natV B:Nat):Int):=by simp
  generalize natV A*natV B=p at*
  refine aJ Tryz.func165 rfl (by kernel_rfl) ?_;rw[Tryz.ntmps165];refine aF fun _ K=>?_;simp only[kd,bC,aa,ag];apply K
  refine aH (aF fun _ K=>?_);simp(disch:=omega) only[kd,aa];apply K;refine bf rfl ?_;refine aI [⟨1,_,_,_,w1⟩,⟨3,_,_,_,w2⟩,⟨5,_,_,_,w3⟩] [] fun _ K=>?_;simp(disch:=omega) only[kd,bC,aa,ah,e2,cX];apply K
  (refine aK ⟨.inr rfl,aL rfl ?_ rfl⟩;simp(disch:=omega) only[kd,Tryz.results165,bC])
 have e0:((A.length:Int)+(B.length:Int)).toNat=A.length+B.length:=by omega
 refine aJ Tryz.func165 rfl (by kernel_rfl) ?_;rw[Tryz.ntmps165];refine aF fun _ K=>?_;simp only[kd,bC,aa,ag];apply K
 refine aH (mY (S:=⟨(bC A::bC B::j16 (j16 (j16 (j16 (j16 (j4 ([]))))))),Hm []⟩) ?_ ?_)
 ·by_cases h1:A.length<=1
  ·refine aF fun _ K=>?_;simp(disch:=omega) only[kd,aa];apply K
   refine bU rfl (fun h=>by simp at h<;>omega) (fun _=>aO (aG trivial ?_));simp[wk]
  refine aF fun _ K=>?_;simp(disch:=omega) only[kd,aa];apply K
  refine bU rfl (fun h=>by simp at h<;>omega) (fun _=>aO (aG trivial ?_));simp[wk]
 refine aF fun _ K=>?_;simp(disch:=omega) only[kd,aa,bC,aT,e0,lA];apply K
 refine aH (aF fun _ K=>?_);simp only[kd,aa];apply K;refine aZ (G:=D7 A B) (fun g=>⟨(bC A::bC B::jk::jk::jk::.one (.sl 31 0 0 (A.length+B.length))::j16 (j4 (j4 (jk::jk::bC A::rN A.length::rN g.i::j16 (j16 (j16 (jk::jk::jk::[]))))))),Hm [(31,[⟨56,1,lc fU g.O⟩])]⟩) (fun g=>A.length-g.i) ⟨0,ag (A.length+B.length) 0,by omega,by simp,fun x hx=>by simp at hx;omega,by simp[tG,natV],fun k h1 h2=>by rw[List.getElem?_replicate,if_pos h2]⟩ ?_ ?_
 ·refine aG ⟨rfl,trivial⟩ ?_;simp[wk]
 rintro⟨i,O,hi,len,lmb,val,zero⟩;simp only;by_cases hm:i<A.length
 ·obtain⟨x,hx⟩:=getElem?_of_lt hm;have hx':=ck hlA hx;refine aF fun _ K=>?_;simp(disch:=omega) only[kd,bC];apply K
  refine bM rfl ?_;refine aH (aM ?_);refine aF fun _ K=>?_;simp(disch:=omega) only[kd,aa,hx];apply K
  by_cases hx0:x=0
  ·subst hx0;obtain⟨g',q1,q2⟩:=E4 (⟨i,O,hi,len,lmb,val,zero⟩:D7 A B) hx;simp only at q1 q2;refine aH (aF fun _ K=>?_);simp(disch:=omega) only[kd];apply K;refine bf rfl (bK ?_);show bu _ _ _ _;refine aN fun _ K=>?_;simp(disch:=omega) only[kd,aT];apply K
   refine⟨g',by omega,aG ⟨by rw[q2];rfl,trivial⟩ ?_⟩;simp[wk,q1]
  have es:(i:Int)+(B.length:Int)+1=((i+B.length+1:Nat):Int):=by omega
  have el:i+B.length+1-i=B.length+1:=by omega
  refine aH (aF fun _ K=>?_);simp(disch:=omega) only[kd];apply K;refine aU rfl (aO ?_);show bu _ _ _ _;refine aF fun _ K=>?_;simp(disch:=omega) only[kd,aa,aT,es,el];apply K
  refine aF fun _ K=>?_;simp only[kd];apply K
  refine aH (aF fun _ K=>?_);simp only[kd,aa];apply K;refine aZ (G:=Gd A B i x) (fun g=>⟨(bC A::bC B::jk::jk::jk::.one (.sl 31 0 0 (A.length+B.length))::jk::.raw (.int .u32 (x:Int))::.one (.sl 31 0 i (B.length+1))::.raw (.int .u64 (g.c:Int))::j16 (j4 (jk::jk::bC A::rN A.length::rN i::j4 (j4 (j4 (jk::jk::bC B::rN B.length::rN g.j::j16 (j16 (jk::jk::[])))))))),Hm [(31,[⟨56,1,lc fU g.O⟩])]⟩) (fun g=>B.length-g.j) ⟨0,O,0,by omega,len,lmb,by omega,by simpa[natV] using val,zero⟩ ?_ ?_
  ·refine aG ⟨rfl,trivial⟩ ?_;simp[wk]
  intro g;by_cases hn:g.j<B.length
  ·obtain⟨y,hy⟩:=getElem?_of_lt hn;have hy':=ck hlB hy;have hlen:=g.len;obtain⟨o,ho⟩:=getElem?_of_lt (show i+g.j<g.O.length by omega);have ho':=ck g.lmb ho;have hb:=nA hx' hy';have hgc:=g.hc;obtain⟨g',q1,q2,q3⟩:=vV g hy ho hm hx' hy';have e2:(x:Int)*(y:Int)=((x*y:Nat):Int):=by simp
   generalize hp:x*y=p at*
   have e3:IntKind.u32.wrap ((g.c:Int)+((p:Int)+(o:Int)))=(((g.c+(p+o))%4294967296:Nat):Int):=by rw[<- r8];congr 1<;>omega
   have e4:Int.fdiv ((g.c:Int)+((p:Int)+(o:Int))) (2^(min 32 IntKind.u64.bits))=(((g.c+(p+o))/4294967296:Nat):Int):=by rw[<- F1];congr 1<;>omega
   refine aF fun _ K=>?_;simp(disch:=omega) only[kd,bC];apply K
   refine bM rfl ?_;refine aH (aM ?_);refine aF fun _ K=>?_;simp(disch:=omega) only[kd,aa,hy];apply K
   refine aF fun _ K=>?_;simp(disch:=omega) only[kd,aa,cX,e2,ho];apply K
   refine aF fun _ K=>?_;simp(disch:=omega) only[kd,aa,e3,ho,dv];apply K
   refine aN fun _ K=>?_;simp only[kd,aa,Int.reduceLE,ao,e4];apply K
   show bu _ _ _ _;refine aN fun _ K=>?_;simp(disch:=omega) only[kd,aT];apply K
   refine⟨g',by omega,aG ⟨by rw[q2];rfl,trivial⟩ ?_⟩;simp[wk,q1,q3]
  have hgj:=g.hj;have hgc:=g.hc;have hgl:=g.len;obtain⟨g',q1,q2⟩:=vU hx g hn;have e3:IntKind.u32.wrap (g.c:Int)=(g.c:Int):=by rw[r8];omega
  refine aF fun _ K=>?_;simp(disch:=omega) only[kd,bC];apply K
  refine bV rfl ?_;show bu _ _ _ _;have hz:=g.zero (i+B.length) (af _) (by omega);refine aN fun _ K=>?_;simp(disch:=omega) only[kd,aa,e3,hz,dv];apply K
  show bu _ _ _ _;refine aN fun _ K=>?_;simp(disch:=omega) only[kd,aT];apply K
  refine⟨g',by omega,aG ⟨by rw[q2];rfl,trivial⟩ ?_⟩;simp[wk,q1]
 have hfin:natV O=natV A*natV B:=by
  have:i=A.length:=by omega
  rw[val,this,List.take_length]
 have ht:=dX O (by omega);rw[d7 lmb,hfin]at ht;refine aF fun _ K=>?_;simp(disch:=omega) only[kd,bC];apply K
 refine bV rfl ?_;show bu _ _ _ _;refine bu.weak ((bX 31 (cJ rfl)).trans (aG (tm:=(j4 (jk::bC O::j16 (j16 (j16 (j16 (j16 ([])))))))) (l:=[]) trivial (by simp[wk,gO,fj,bs,Hm,fP,gG,List.take_of_length_le,len]))) ?_;refine aI [⟨1,_,_,_,ht⟩] [] fun _ K=>?_;simp only[kd,bC,aa];apply K
 (refine aK ⟨.inr rfl,aL rfl ?_ rfl⟩;simp(disch:=omega) only[kd,Tryz.results165,bC])
/-! Signed numbers. -/
theorem GO {a b:Nat}:0<=fB a b↔b<=a:=by unfold fB;split<;>(try split)<;>omega
theorem Ce {na nb:Bool} {a b:Nat} (h:na≠nb) (hle:b<=a):fD na (a-b)=fD na a+fD nb b:=by
 unfold fD;cases na<;>cases nb<;>simp at* <;>omega
theorem Cf {na nb:Bool} {a b:Nat} (h:na≠nb) (hle:a<=b):fD nb (b-a)=fD na a+fD nb b:=by
 unfold fD;cases na<;>cases nb<;>simp at* <;>omega
theorem LQ (n:Bool) (a b:Nat):fD n (a+b)=fD n a+fD n b:=by unfold fD;cases n<;>simp<;>omega
theorem xm (na nb:Bool) (a b:Nat) (la:(aR a).length<=536870912) (lb:(aR b).length<=536870912):CallC Tryz.prog 164 [.raw (.bool na),bC (aR a),.raw (.bool nb),bC (aR b)] ⟨[],tZ (fD na a+fD nb b)⟩:=by
 by_cases hs:na=nb
 ·subst hs;have h1:=vL (aR a) (aR b) (aV _) (aV _) la lb;rw[aP,aP]at h1;have h2:=eh na (a+b);rw[LQ]at h2;refine aJ Tryz.func164 rfl (by kernel_rfl) ?_;rw[Tryz.ntmps164];refine aF fun _ K=>?_;simp(disch:=omega) only[kd,bC,aa,ag];apply K
  refine aH (aM ?_);refine aF fun _ K=>?_;simp only[kd,aa];apply K
  refine bf rfl ?_;refine aI [⟨3,_,_,_,h1⟩,⟨4,_,_,_,h2⟩] [] fun _ K=>?_;simp(disch:=omega) only[kd,bC,tZ,aa,ah];apply K
  (refine aK ⟨.inr rfl,aL rfl ?_ rfl⟩;simp(disch:=omega) only[kd,Tryz.results164,aa,tZ])
 have hne:(na==nb)=false:=by simpa using hs
 have h0:=oq (aR a) (aR b) (aV _) (aV _) (cd _) (cd _) (by omega) (by omega);rw[aP,aP]at h0;have hge:=GO (a:=a) (b:=b);by_cases hle:b<=a
 ·have h1:=qn (aR a) (aR b) (aV _) (aV _) (iy (aV _) (cd _) (by rw[aP,aP];exact hle)) (by rw[aP,aP];exact hle) la;rw[aP,aP]at h1;have h2:=eh na (a-b);rw[Ce hs hle]at h2;have hc:0<=fB a b:=hge.2 hle;generalize fB a b=cv at*
  refine aJ Tryz.func164 rfl (by kernel_rfl) ?_;rw[Tryz.ntmps164];refine aF fun _ K=>?_;simp(disch:=omega) only[kd,bC,aa,ag];apply K
  refine aH (aM ?_);refine aF fun _ K=>?_;simp only[kd,aa,hne];apply K
  refine aU rfl ?_;refine aI [⟨2,_,_,_,h0⟩] [] fun _ K=>?_;simp(disch:=omega) only[kd,bC,aa];apply K
  refine bf rfl ?_;refine aI [⟨3,_,_,_,h1⟩,⟨4,_,_,_,h2⟩] [] fun _ K=>?_;simp(disch:=omega) only[kd,bC,tZ,aa,ah];apply K
  (refine aK ⟨.inr rfl,aL rfl ?_ rfl⟩;simp(disch:=omega) only[kd,Tryz.results164,aa,tZ])
 have h1:=qn (aR b) (aR a) (aV _) (aV _) (iy (aV _) (cd _) (by rw[aP,aP];omega)) (by rw[aP,aP];omega) lb;rw[aP,aP]at h1;have h2:=eh nb (b-a);rw[Cf hs (by omega)]at h2;have hc: ¬0<=fB a b:=fun h=>hle (hge.1 h)
 generalize fB a b=cv at*
 refine aJ Tryz.func164 rfl (by kernel_rfl) ?_;rw[Tryz.ntmps164];refine aF fun _ K=>?_;simp(disch:=omega) only[kd,bC,aa,ag];apply K
 refine aH (aM ?_);refine aF fun _ K=>?_;simp only[kd,aa,hne];apply K
 refine aU rfl ?_;refine aI [⟨2,_,_,_,h0⟩] [] fun _ K=>?_;simp(disch:=omega) only[kd,bC,aa];apply K
 refine aU rfl (aO ?_);show bu _ _ _ _;refine aI [⟨3,_,_,_,h1⟩,⟨4,_,_,_,h2⟩] [] fun _ K=>?_;simp(disch:=omega) only[kd,bC,tZ,aa,ah];apply K
 (refine aK ⟨.inr rfl,aL rfl ?_ rfl⟩;simp(disch:=omega) only[kd,Tryz.results164,aa,tZ])
theorem NX (a b:Int) (ha:Bh a) (hb:Bh b):CallC Tryz.prog 158 [tZ a,tZ b] ⟨[],tZ (a-b)⟩:=by
 have t1:=dX (aR a.natAbs) ha.bg.len;have t2:=dX (aR b.natAbs) hb.bg.len;rw[gJ]at t1 t2;have h:=xm (decide (a<0)) (!decide (b<0)) a.natAbs b.natAbs ha.len hb.len;rw[xB,HW,<- Int.sub_eq_add_neg]at h;refine aJ Tryz.func158 rfl (by kernel_rfl) ?_;rw[Tryz.ntmps158];refine aF fun _ K=>?_;simp(disch:=omega) only[kd,aa,tZ,ag,ae];apply K
 refine bz bj [⟨4,_,_,_,t1⟩,⟨10,_,_,_,t2⟩,⟨11,_,_,_,h⟩] [] (by kernel_rfl) fun _ K=>?_;simp(disch:=omega) only[kd,bC,tZ,aa,ae,ah];apply K
 (refine aK ⟨.inr rfl,aL rfl ?_ rfl⟩;simp(disch:=omega) only[kd,Tryz.results158,ae,aa,tZ])
theorem Hl (a b:Int) (ha:Bh a) (hb:Bh b):CallC Tryz.prog 159 [tZ a,tZ b] ⟨[],tZ (a*b)⟩:=by
 have t1:=dX (aR a.natAbs) ha.bg.len;have t2:=dX (aR b.natAbs) hb.bg.len;rw[gJ]at t1 t2;have h:=EP (aR a.natAbs) (aR b.natAbs) (aV _) (aV _) ha.len hb.len;rw[aP,aP]at h;have h2:=eh (!(decide (a<0)==decide (b<0))) (a.natAbs*b.natAbs);rw[Dw]at h2;refine aJ Tryz.func159 rfl (by kernel_rfl) ?_;rw[Tryz.ntmps159];refine aF fun _ K=>?_;simp(disch:=omega) only[kd,aa,tZ,ag,ae];apply K
 refine bz bj [⟨7,_,_,_,t1⟩,⟨10,_,_,_,t2⟩,⟨11,_,_,_,h⟩,⟨12,_,_,_,h2⟩] [] (by kernel_rfl) fun _ K=>?_;simp(disch:=omega) only[kd,bC,tZ,aa,ae,ah];apply K
 (refine aK ⟨.inr rfl,aL rfl ?_ rfl⟩;simp(disch:=omega) only[kd,Tryz.results159,ae,aa,tZ])
end Go.Proofs.YtiollbhgpiiodaaGreatDoor
