/-
  Part 17 of a proof (walks and plain facts).
-/
import Derived.Test.YtiollbhgpiiodaaGreatDoorQ15
set_option linter.all false
set_option maxRecDepth 100000
set_option maxHeartbeats 64000000
open Nat renaming le_refl → ac
open List renaming replicate → ae
open List renaming getElem?_map → az
open Nat renaming pow_le_pow_right → aD
namespace Go.Proofs.YtiollbhgpiiodaaGreatDoor
open Go.RowKit
theorem QO (fu:FuncId) (cs1:List PV) (n c:Nat) (g:FF) (hn1:1<=n) (hn:n<=16) (hc1:1<=c) (hc:c<=16)
  (hf: ∀i j,i<n->j<c->CallC Tryz.prog fu [.raw (.int .i64 (i:Int)),.raw (.int .i64 (j:Int)),.one (.p (.ptr cs1))] ⟨[],tZ (g i j)⟩):
  CallC Tryz.prog 146 [.raw (.int .i64 (n:Int)),.raw (.int .i64 (c:Int)),.fn fu [.p (.ptr cs1)]] ⟨[],dV (bi n c g)⟩:=by
 have hN:n*c<=256:=Nat.le_trans (Nat.mul_le_mul hn hc) (by omega);have e0:IntKind.i64.wrap ((n:Int)*(c:Int))=((n*c:Nat):Int):=by rw[<- Int.natCast_mul];exact bu (by omega) (by omega)
 refine aS Tryz.func146 rfl Tryz.ntmps146 (aT (k:=aX e0 (k:=aK (k:=?_))));refine bL.weak ((gR 14).trans ((gR 16).trans ((xw 16 14 5016 (oa:=⟨61,1,Fk 5016 n c 0⟩) (oe:=⟨32,2,lc fZ (bj (n*c) (fl c (part g 0 0)))⟩) ?_ ?_ rfl (Da _ _ _ _) (eY _ _ _) (by omega) (by omega) (by omega)).trans (aE (tm:=(jk::rN c::.fn fu [.p (.ptr cs1)]::j4 (.one (.sl 5016 1 0 (n*c))::.one (.sl 5016 0 0 n)::j16 (j16 (j16 (jk::jk::[])))))) (l:=[(5016,AI 5016 n c 0 (part g 0 0))]) ⟨rfl,trivial⟩ ?_)))) ?_
 ·exact Db 5016 n c
 ·exact Hr n c g
 ·simp[wk,Py,si]
 simp only[AI];refine aF (bC (k:=?_));refine aO (G:=iJ n) (fun q=>⟨(jk::rN c::.fn fu [.p (.ptr cs1)]::j4 (.one (.sl 5016 1 0 (n*c))::.one (.sl 5016 0 0 n)::j4 (j4 (.one (.sl 5016 0 0 n)::rN n::rN q.i::j16 (j16 (j4 (jk::jk::jk::[]))))))),Hm [(5016,AI 5016 n c q.i (part g q.i 0))]⟩) (fun q=>n-q.i) ⟨0,by omega⟩ ?_ ?_
 ·refine aE ⟨rfl,trivial⟩ ?_;simp[wk]
 rintro⟨i,hi⟩;simp only;by_cases hm:i<n
 ·have k1:i*c<(i+1)*c:=by rw[Nat.add_mul];omega
  have k2:(i+1)*c<=n*c:=Nat.mul_le_mul_right _ hm;have k3:(i+1)*c-i*c=c:=by rw[Nat.add_mul];omega
  have e1:IntKind.i64.wrap ((i:Int)*(c:Int))=((i*c:Nat):Int):=by rw[<- Int.natCast_mul];exact bu (by omega) (by omega)
  have e2:IntKind.i64.wrap (((i:Int)+1)*(c:Int))=(((i+1)*c:Nat):Int):=by
   have:((i:Int)+1)*(c:Int)=(((i+1)*c:Nat):Int):=by rw[Int.natCast_mul];rfl
   rw[this];exact bu (by omega) (by omega)
  have t1:=ld (d:=5016) (n:=n) (c:=c) (i:=i) hm;rw[if_neg (Nat.lt_irrefl i)]at t1;have t2:=Ho (d:=5016) (n:=n) (c:=c) (i:=i);have t3:=ld (d:=5016) (n:=n) (c:=c) (i:=i+1) (k:=i) hm;rw[if_pos (Nat.lt_succ_self i)]at t3;refine aK (k:=bv rfl (aF (aG (bC (k:=?_)))));simp only[AI];refine aX (aP e1 (aP e2 (aP k1 (aP k2 (aP k3 (aP t1 t2)))))) (k:=aX t3 (k:=?_));refine aO (G:=iJ c) (fun q=>⟨(jk::rN c::.fn fu [.p (.ptr cs1)]::j4 (.one (.sl 5016 1 0 (n*c))::.one (.sl 5016 0 0 n)::rN i::j4 (jk::jk::jk::.one (.sl 5016 0 0 n)::rN n::rN i::j16 (j4 (jk::jk::rN c::rN q.i::j4 (j4 (j4 (jk::jk::jk::[])))))))),Hm [(5016,AI 5016 n c (i+1) (part g i q.i))]⟩) (fun q=>c-q.i) ⟨0,by omega⟩ ?_ ?_
  ·refine aE ⟨rfl,trivial⟩ ?_;simp[wk]
  rintro⟨j,hj⟩;simp only;by_cases hm2:j<c
  ·have hS:=hf i j hm hm2;have hk:i*c+j<n*c:=by omega
   have g1:=aQ (fl c (part g i j)) hk;have g2:=Ly (n:=n) (c:=c) (part g i j) (v:=g i j) hm hm2;refine aK (k:=bv rfl (aF (aG (bC (k:=?_)))));simp only[AI];refine f5 [⟨8,_,_,_,hS⟩] (aP t3 (aP g1 (aP @GH g2))) (k:=bW (k:=?_));refine⟨⟨j+1,by omega⟩,by simp only;omega,aE ⟨?_,trivial⟩ ?_⟩
   ·show[_,_]=[_,_];rw[qK fun a b _ _=>iR g i j a b]
   simp[wk]
  have hjc:j=c:=by omega
  subst hjc;refine aK (k:=bE rfl (bW (k:=?_)));refine⟨⟨i+1,by omega⟩,by simp only;omega,aE ⟨?_,trivial⟩ ?_⟩
  ·show[_,_]=[_,_];rw[qK fun a b _ hb=>ko g i a b hb]
  simp[wk]
 have hin:i=n:=by omega
 subst hin;refine aK (k:=bE rfl (bC (k:=?_)));refine bL.weak ((bT 5016 (Hp rfl)).trans (aE (tm:=(j4 (jk::jk::dV (bi i c g)::j16 (j16 (j16 (j4 ([]))))))) (l:=[]) trivial ?_)) ?_
 ·have e:=NJ (c:=c) (H:=Hm [(5016,AI 5016 i c i (part g i 0))]) hc1 rfl;rw[ig fun a b ha _=>kn g a b ha]at e;simp[wk];exact e.symm
 (refine bA ⟨.inr rfl,cd rfl ?_ rfl⟩;simp(disch:=omega) only[kd,Tryz.results146,dV])
theorem QP (fu:FuncId) (cs1:List PV) (b:Nat) (ty:TypeId) (cs:List PV) (n c:Nat) (g:FF) (hn1:1<=n) (hn:n<=16) (hc1:1<=c) (hc:c<=16)
  (hf: ∀i j,i<n->j<c->CallT Tryz.prog b ty fu [.raw (.int .i64 (i:Int)),.raw (.int .i64 (j:Int)),.one (.p (.ptr cs1)),.raw (.pointer (some ⟨b,0,none⟩))] cs ⟨[],tZ (g i j)⟩ cs):
  CallT Tryz.prog b ty 146 [.raw (.int .i64 (n:Int)),.raw (.int .i64 (c:Int)),.fn fu [.p (.ptr cs1),.p (.raw (.pointer (some ⟨b,0,none⟩)))]] cs ⟨[],dV (bi n c g)⟩ cs:=by
 have hN:n*c<=256:=Nat.le_trans (Nat.mul_le_mul hn hc) (by omega);have e0:IntKind.i64.wrap ((n:Int)*(c:Int))=((n*c:Nat):Int):=by rw[<- Int.natCast_mul];exact bu (by omega) (by omega)
 refine nt Tryz.func146 rfl (by kernel_rfl) ?_;rw[Tryz.ntmps146];refine UE (k:=mP e0 (k:=d7 (k:=?_)));refine fb.weak ((gR 14).trans ((gR 16).trans ((xw 16 14 5016 (oa:=⟨61,1,Fk 5016 n c 0⟩) (oe:=⟨32,2,lc fZ (bj (n*c) (fl c (part g 0 0)))⟩) ?_ ?_ rfl (Da _ _ _ _) (eY _ _ _) (by omega) (by omega) (by omega)).trans (aE (tm:=(jk::rN c::.fn fu [.p (.ptr cs1),.p (.raw (.pointer (some ⟨b,0,none⟩)))]::j4 (.one (.sl 5016 1 0 (n*c))::.one (.sl 5016 0 0 n)::j16 (j16 (j16 (jk::jk::[])))))) (l:=[(5016,AI 5016 n c 0 (part g 0 0))]) ⟨rfl,trivial⟩ ?_)))) ?_
 ·exact Db 5016 n c
 ·exact Hr n c g
 ·simp[wk,Py,si]
 simp only[AI];refine db (d7 (k:=?_));refine ni (G:=iJ n) (fun q=>⟨(jk::rN c::.fn fu [.p (.ptr cs1),.p (.raw (.pointer (some ⟨b,0,none⟩)))]::j4 (.one (.sl 5016 1 0 (n*c))::.one (.sl 5016 0 0 n)::j4 (j4 (.one (.sl 5016 0 0 n)::rN n::rN q.i::j16 (j16 (j4 (jk::jk::jk::[]))))))),Hm [(5016,AI 5016 n c q.i (part g q.i 0))]⟩) (fun _=>cs) (fun q=>n-q.i) ⟨0,by omega⟩ ?_ rfl ?_
 ·refine aE ⟨rfl,trivial⟩ ?_;simp[wk]
 rintro⟨i,hi⟩;simp only;by_cases hm:i<n
 ·have k1:i*c<(i+1)*c:=by rw[Nat.add_mul];omega
  have k2:(i+1)*c<=n*c:=Nat.mul_le_mul_right _ hm;have k3:(i+1)*c-i*c=c:=by rw[Nat.add_mul];omega
  have e1:IntKind.i64.wrap ((i:Int)*(c:Int))=((i*c:Nat):Int):=by rw[<- Int.natCast_mul];exact bu (by omega) (by omega)
  have e2:IntKind.i64.wrap (((i:Int)+1)*(c:Int))=(((i+1)*c:Nat):Int):=by
   have:((i:Int)+1)*(c:Int)=(((i+1)*c:Nat):Int):=by rw[Int.natCast_mul];rfl
   rw[this];exact bu (by omega) (by omega)
  have t1:=ld (d:=5016) (n:=n) (c:=c) (i:=i) hm;rw[if_neg (Nat.lt_irrefl i)]at t1;have t2:=Ho (d:=5016) (n:=n) (c:=c) (i:=i);have t3:=ld (d:=5016) (n:=n) (c:=c) (i:=i+1) (k:=i) hm;rw[if_pos (Nat.lt_succ_self i)]at t3;refine d7 (k:=yT rfl (db (dT (d7 (k:=?_)))));simp only[AI];refine mP (aP e1 (aP e2 (aP k1 (aP k2 (aP k3 (aP t1 t2)))))) (k:=mP t3 (k:=?_));refine ni (G:=iJ c) (fun q=>⟨(jk::rN c::.fn fu [.p (.ptr cs1),.p (.raw (.pointer (some ⟨b,0,none⟩)))]::j4 (.one (.sl 5016 1 0 (n*c))::.one (.sl 5016 0 0 n)::rN i::j4 (jk::jk::jk::.one (.sl 5016 0 0 n)::rN n::rN i::j16 (j4 (jk::jk::rN c::rN q.i::j4 (j4 (j4 (jk::jk::jk::[])))))))),Hm [(5016,AI 5016 n c (i+1) (part g i q.i))]⟩) (fun _=>cs) (fun q=>c-q.i) ⟨0,by omega⟩ ?_ rfl ?_
  ·refine aE ⟨rfl,trivial⟩ ?_;simp[wk]
  rintro⟨j,hj⟩;simp only;by_cases hm2:j<c
  ·have hS:=hf i j hm hm2;have hk:i*c+j<n*c:=by omega
   have g1:=aQ (fl c (part g i j)) hk;have g2:=Ly (n:=n) (c:=c) (part g i j) (v:=g i j) hm hm2;refine d7 (k:=yT rfl (db (dT (d7 (k:=?_)))));simp only[AI];refine ma d8 8 hS [] [] (by kernel_rfl) (by kernel_rfl) (by rfl) (by rfl) fun _ K=>?_;simp(disch:=omega) only[kd,tZ,Nat.reduceAdd,t3,fZ,g1,GH,g2];apply K
   show fb _ _ _ _ _ _ _;refine xb (k:=?_);refine⟨⟨j+1,by omega⟩,by simp only;omega,aE ⟨?_,trivial⟩ ?_,rfl⟩
   ·show[_,_]=[_,_];rw[qK fun a b _ _=>iR g i j a b]
   simp[wk]
  have hjc:j=c:=by omega
  subst hjc;refine d7 (k:=yS rfl (xb (k:=?_)));refine⟨⟨i+1,by omega⟩,by simp only;omega,aE ⟨?_,trivial⟩ ?_,rfl⟩
  ·show[_,_]=[_,_];rw[qK fun a b _ hb=>ko g i a b hb]
  simp[wk]
 have hin:i=n:=by omega
 subst hin;refine d7 (k:=yS rfl (d7 (k:=?_)));refine fb.weak ((bT 5016 (Hp rfl)).trans (aE (tm:=(j4 (jk::jk::dV (bi i c g)::j16 (j16 (j16 (j4 ([]))))))) (l:=[]) trivial ?_)) ?_
 ·have e:=NJ (c:=c) (H:=Hm [(5016,AI 5016 i c i (part g i 0))]) hc1 rfl;rw[ig fun a b ha _=>kn g a b ha]at e;simp[wk];exact e.symm
 (refine oy ⟨.inr rfl,rfl,cd rfl ?_ rfl⟩;simp(disch:=omega) only[kd,Tryz.results146,dV])
theorem eK (l:List Nat) (hb:l.length<=1073741824):CallC Tryz.prog 145 [dw l] ⟨[],dw (du l)⟩:=by
 refine aS Tryz.func145 rfl Tryz.ntmps145 (aT (k:=?_));refine aF (aO (G:={n:Nat//n<=l.length/\du l=du (l.take n)}) (fun n=>⟨(dw (l.take n.1)::j16 (j4 ([]))),Hm []⟩) (fun n=>n.1) ⟨l.length,ac _,by simp⟩ ?_ ?_)
 ·refine aE trivial ?_;simp[wk]
 rintro⟨n,hn,hT⟩;simp only;have hlen:(l.take n).length=n:=by simp;omega
 by_cases h0:0<n
 ·obtain⟨a,ha⟩:=getElem?_of_lt (l:=l) (k:=n-1) (by omega);have e1:((n:Int)-1).toNat=n-1:=by omega
  have ha2:(l.take n)[n-1]?=some a:=by rw[List.getElem?_take,if_pos (by omega),ha]
  have htk:l.take n=l.take (n-1)++[a]:=by
   have:=List.take_succ_eq_append_getElem (i:=n-1) (l:=l) (by omega);rw[show n-1+1=n by omega]at this;rw[this,(List.getElem?_eq_some_iff.1 ha).2]
  refine aF (aX (aP hlen (aP e1 ha2)) (k:=?_));refine bV rfl (fun hz=>aH ?_) (fun hz=>bz ?_)
  ·have hz':a=0:=by simpa using hz
   refine aG (fc (aP hlen (aP e1 (jy pL))) (k:=?_));refine⟨⟨n-1,by omega,?_⟩,by simp only;omega,aE trivial ?_⟩
   ·rw[hT,htk,hz',kB]
   simp[wk,List.take_take,Nat.min_eq_left (show n-1<=n by omega)]
  have hz':a≠0:=by intro e;simp[e]at hz
  have hfin:du l=l.take n:=by rw[hT,htk,s6 hz']
  show bL _ _ _ _;refine aK (k:=aV (aP @Tryz.results145 hfin))
 have hn0:n=0:=by omega
 subst hn0;have hfin:du l=l.take 0:=by rw[hT];simp[du]
 refine aF (aK (k:=bV rfl (fun hz=>by cases hz) (fun hz=>bz (bC (k:=aV (aP @Tryz.results145 hfin))))))
theorem fj (neg:Bool) (n:Nat):CallC Tryz.prog 141 [.raw (.bool neg),dw (aL n)] ⟨[],tZ (gD neg n)⟩:=by
 by_cases h0:n=0
 ·subst h0;rw[cx,show tZ (gD neg 0)= .agg [.p (.raw (.bool false)),.p (.sl (ls fU []))] by
   have:gD neg 0=0:=by cases neg<;>rfl
   simp[this,tZ,cx]]
  refine aS Tryz.func141 rfl Tryz.ntmps141 (aT (k:=aF (aK (k:=aR rfl (aK (k:=?_))))));refine bA ⟨.inr rfl,?_⟩;refine⟨_,gR 4,ro (d:=1000) rfl ?_ rfl⟩;simp(disch:=omega) only[kd,Tryz.results141,zH,zO,Dm,Dv,Nat.reduceAdd]
 have hl:=gh (n:=n);have hl':(aL n).length≠0:=by omega
 rw[show tZ (gD neg n)= .agg [.p (.raw (.bool neg)),.p (.sl (ls fU (aL n)))] by
  have:decide (0<n)=true:=by simp;omega
  simp[tZ,oc,Ay,this]]
 refine aS Tryz.func141 rfl Tryz.ntmps141 (aT (k:=aF (aK (k:=aJ rfl (aH (aK (k:=aV @Tryz.results141)))))))
theorem u6 {P:Program} {f:FuncId} {args:List TV} {r:TV} (hc:callable P f=true) (h: ∀(X:Nat->Prop) (w:World) (vs:Array Value),(∀b,X b->b<w.heap.size)->vs.size=args.length->
  (∀(j:Nat) t,args[j]?=some t-> ∃v:Value,vs[j]?=some v/\t.rel (fun _ _=>none) (fun _=>[]) X w v)->Calls P f vs w fun e w'=> ∃v,e= .returned v/\(∀ρ H Y,(∀b,Y b->b<w.heap.size)->r.rel ρ H Y w' v)/\Ext w w'):CallC P f args ⟨[],r⟩:=
 ⟨hc,fun X w vs hX hvs ha=>(h X w vs hX hvs ha).mono fun e w' ⟨v,h1,h2,h3⟩=>⟨v,h1,fun _ _=>none,Gy h3 hX,h2 _ _ _ (fun b hb=>by
  rcases hb with hb|⟨a,r,o,c,ho,hr⟩
  ·exact hX b hb
  cases hr)⟩⟩
theorem jf (u:Nat) (hu:u<18446744073709551616):CallC Tryz.prog 142 [.raw (.int .u64 u)] ⟨[],dw (aL u)⟩:=by
 have hlm:Lmb [u%4294967296,u/4294967296]:=by intro a ha;simp at ha;omega
 have ht:=eK [u%4294967296,u/4294967296] (by simp);rw[dX hlm,yL]at ht;have e1:IntKind.u32.wrap (u:Int)=((u%4294967296:Nat):Int):=by rw[IntKind.wrap_u32];omega
 have e2:IntKind.u32.wrap ((u:Int).fdiv (2^(min (32:Int).toNat IntKind.u64.bits)))=((u/4294967296:Nat):Int):=by
  rw[IntKind.wrap_u32];show(Int.fdiv (u:Int) 4294967296)%4294967296=_;rw[Int.fdiv_eq_ediv_of_nonneg _ (by omega)];omega
 simp only[Int.reduceToNat]at e2;refine aS Tryz.func142 rfl Tryz.ntmps142 (aT (k:=dr [⟨6,_,_,_,ht⟩] (aP @GI (aP e1 e2)) (k:=aV @Tryz.results142)))
theorem uc (l:List Nat) (lm:Lmb l) (bl:l.length<=2):CallC Tryz.prog 166 [dw l] ⟨[],.raw (.int .u64 (natV l:Nat))⟩:=by
 refine aS Tryz.func166 rfl Tryz.ntmps166 (aT (k:=bC (k:=aF (bC (k:=?_)))));refine aO (G:=Ur l) (fun g=>⟨(jk::jk::jk::.raw (.int .u64 (g.u:Int))::jk::jk::dw l::rN l.length::rN g.i::j4 (j4 (j4 (jk::[])))),Hm []⟩) (fun g=>l.length-g.i) ⟨0,0,⟨by omega,by omega⟩,rfl⟩ ?_ ?_
 ·refine aE trivial ?_;simp[wk]
 rintro⟨i,u,hi,hu⟩;simp only;have hlt:=fG lm i;rw[<- hu]at hlt;by_cases hm:i<l.length
 ·obtain⟨a,ha⟩:=getElem?_of_lt hm;have ha':=cq lm ha;have hu2:=bG ha;rw[<- hu]at hu2;refine aK (k:=bv rfl (aF (aG (aX ha (k:=?_)))));have hi2:i=0\/i=1:=by omega
  rcases hi2 with rfl|rfl
  ·have e1:IntKind.u64.wrap ((a:Int)*2^min (32*((0:Nat):Int)).toNat IntKind.u64.bits)=(a:Int):=by
    rw[IntKind.wrap_u64];show((a:Int)*1)%_=_;omega
   have hu0:u=0:=by simpa[natV] using hu
   have e2:=Ag u a (by omega) (by omega);rw[hu0,Nat.zero_or,<- hu0]at e2;refine fc (aP e1 e2) (k:=bW (k:=?_));refine⟨⟨1,a,⟨by omega,by omega⟩,by rw[hu2,hu0];simp⟩,by simp only;omega,aE trivial ?_⟩;simp[wk]
  have e1:IntKind.u64.wrap ((a:Int)*2^min (32*((1:Nat):Int)).toNat IntKind.u64.bits)=((a*4294967296:Nat):Int):=by
   rw[IntKind.wrap_u64];show((a:Int)*4294967296)%_=_;omega
  simp only[Nat.pow_one]at hlt;have e2:=Ag u (a*4294967296) (by omega) (by omega);rw[show a*4294967296=a*2^32 from rfl,uh _ _ _ hlt,show a*2^32=a*4294967296 from rfl]at e2;refine fc (aP e1 e2) (k:=bW (k:=?_));refine⟨⟨2,a*4294967296+u,⟨by omega,by omega⟩,by rw[hu2];omega⟩,by simp only;omega,aE trivial ?_⟩;simp[wk]
 have hfin:u=natV l:=by rw[hu,List.take_of_length_le (by omega)]
 rw[<- hfin];refine aK (k:=bE rfl (bC (k:=aV @Tryz.results166)))
theorem BO (n:Int) (h1: -9223372036854775808<=n) (h2:n<=9223372036854775807):CallC Tryz.prog 129 [.raw (.int .i64 n)] ⟨[],tZ n⟩:=by
 have hf:=jf n.natAbs (by omega);by_cases hn:n<0
 ·have ht:=fj true n.natAbs;have e1:IntKind.u64.wrap (0-IntKind.u64.wrap n)=((n.natAbs:Nat):Int):=by rw[IntKind.wrap_u64,IntKind.wrap_u64];omega
  rw[show gD true n.natAbs=n by unfold gD;simp;omega]at ht;refine aS Tryz.func129 rfl Tryz.ntmps129 (aT (k:=aF (aK (k:=aR rfl (dr [⟨3,_,_,_,hf⟩,⟨4,_,_,_,ht⟩] e1 (k:=aV @Tryz.results129))))))
 have ht:=fj false n.natAbs;have e1:IntKind.u64.wrap n=((n.natAbs:Nat):Int):=by rw[IntKind.wrap_u64];omega
 rw[show gD false n.natAbs=n by unfold gD;simp;omega]at ht;refine aS Tryz.func129 rfl Tryz.ntmps129 (aT (k:=aF (aK (k:=aJ rfl (aH (dr [⟨2,_,_,_,hf⟩,⟨3,_,_,_,ht⟩] e1 (k:=aV @Tryz.results129)))))))
theorem t8 (z:Int) (h:Bg z):CallC Tryz.prog 133 [tZ z] ⟨[],.raw (.int .i64 (sg z))⟩:=by
 have ht:=eK (aL z.natAbs) h.len;rw[iG]at ht;have hl:=gh (n:=z.natAbs);rcases Int.lt_trichotomy z 0 with hz|hz|hz
 ·have e:sg z= -1:=by simp[sg,hz]
  have hl':(aL z.natAbs).length≠0:=by omega
  rw[e];refine aS Tryz.func133 rfl Tryz.ntmps133 (aT (k:=aF (aG (bN [⟨2,_,_,_,ht⟩] (k:=aJ rfl (bC (k:=aR rfl (bC (k:=aV @Tryz.results133)))))))))
 ·subst hz;rw[show sg 0=0 from rfl];rw[Int.natAbs_zero,cx]at ht;rw[show tZ 0= .agg [.p (.raw (.bool false)),.p (.sl (ls fU []))]from by simp[tZ,cx]];refine aS Tryz.func133 rfl Tryz.ntmps133 (aT (k:=aF (aG (bN [⟨2,_,_,_,ht⟩] (k:=aR rfl (bC (k:=aV @Tryz.results133)))))))
 have e:sg z=1:=by unfold sg;rw[if_neg (by omega),if_neg (by omega)]
 have hl':(aL z.natAbs).length≠0:=by omega
 rw[e];refine aS Tryz.func133 rfl Tryz.ntmps133 (aT (k:=aF (aG (bN [⟨2,_,_,_,ht⟩] (k:=aJ rfl (bC (k:=aJ rfl (aH (bC (k:=aV @Tryz.results133))))))))))
/-! Clone: a walk of the older kind, for it holds the slice against nil. -/
theorem vg (A:Option Addr) (c:Nat) (x:List Int) (w:World) (hx:RdI .u32 w A x) (hl:x.length*4<=140737488355328):
  Calls Tryz.prog 156 #[.slice A x.length c] w fun e w'=> ∃v,e= .returned v/\w'.ownsRow w.heap.size 56 1 v x.length (x.map (Value.int .u32))/\Ext w w':=by
 have hnil:=fun(w:World) (n c:Nat)=>Lib.run_eql_slice_nil (P:=Tryz.prog) w 30 56 A n c 0 0 Tryz.underlying30
 cases A with
 |none=>
  have hx0:x=[]:=by
   cases x with
   |nil=>rfl
   |cons a l=>obtain⟨_,_,h,_⟩:=hx (by simp);cases h
  subst hx0
  go_enter Tryz.func156,Tryz.ntmps156
  go_wp2_with fail
  go_ret
  exact⟨_,rfl,World.ownsRow_nil _ _ _ _,Ext.refl _⟩
 |some a=>
  go_enter Tryz.func156,Tryz.ntmps156
  go_wp2_with (at_builtin;refine tc _ rfl (.tmp 5) (.tmp 6) _ rfl w.heap.size 56 (.int .u32 0) 1 4 Tryz.underlying30 Tryz.inU32 rfl (by omega) _ 0 [] rfl (World.ownsRow_made w #[] 0 (ac _) (Nat.zero_le _) rfl) (some a) x.length c _ rfl (Rd.ext hx ((Ext.refl _).alloc _)) (by simp) Ae (by simp only[maxLen];omega) (by omega) (by simp) ?_;intro v1 w1 hown1 hg1 _)
  go_ret
  exact⟨_,rfl,by simpa using hown1,IM hg1 (World.ownsRow_made w #[] 0 (ac _) (Nat.zero_le _) rfl:World.ownsRow _ w.heap.size 56 1 _ 0 []) ((Ext.refl w).alloc _) (ac _)⟩
theorem G6 {X:Nat->Prop} {w:World} {l:List Nat} {v:Value} (h:cu X w (.sl (ls fU l)) v): ∃A c,v= .slice A l.length c/\l.length<=c/\RdI .u32 w A (l.map fun n:Nat=>(n:Int)):=by
 generalize hx:PV.sl (ls fU l)=x at h;cases h with
 |raw v h=>cases hx
 |ptr b off cs f hX hb hc hr=>cases hx
 |nil a c=>
  injection hx with hx
  have hl:l=[]:=by simpa[ls] using hx
  subst hl;exact⟨a,c,rfl,Nat.zero_le _,RdI.nil _ _ _⟩
 |sl b off es cap xs f hX hb hes hcap hm hc hr=>
  injection hx with hx
  subst hx;rw[fD]at hcap hm;refine⟨some ⟨b,off,none⟩,cap,by rw[fD],hcap,fun hne=>⟨b,off,rfl,fun i x hx=>?_⟩⟩;rw[az,az]at hx;obtain⟨z',hz',rfl⟩:=Option.map_eq_some_iff.1 hx;obtain⟨z,hz,rfl⟩:=Option.map_eq_some_iff.1 hz';have h1:(ls fU l)[i]?=some (fU z):=by rw[iA,hz];rfl
  have he:es=1:=by rw[<- hes _ (List.mem_of_getElem? h1)];rfl
  subst he;have h2:=hc i _ 0 _ h1 rfl;have h3:=mD (hr i _ 0 _ h1 rfl);rw[h3,Nat.mul_one,Nat.add_zero]at h2;exact h2
theorem Mx {w':World} {k:Nat} {v:Value} {l:List Nat} {Y:Nat->Prop} (hY: ∀b,Y b->b<k) (hm:l.length<=9223372036854775807) (h:w'.ownsRow k 56 1 v l.length ((l.map fun n:Nat=>(n:Int)).map (Value.int .u32))):cu Y w' (.sl (ls fU l)) v:=by
 obtain⟨hl,h2⟩:=h;rcases h2 with⟨hv,hn⟩|⟨g,cap,cur,hv,hg,hh,hnc,hm2,hs,ht⟩
 ·have:l=[]:=List.eq_nil_of_length_eq_zero (by omega);subst this;rw[hv];exact cu.nil _ _
 rw[hv];have hcell: ∀(i:Nat) z,l[i]?=some z->cur[i]?=some (.int .u32 (z:Int)):=fun i z hz=>by
  have h3:((l.map fun n:Nat=>(n:Int)).map (Value.int .u32))[i]?=some (.int .u32 (z:Int)):=by rw[az,az,hz];rfl
  rw[<- ht,List.getElem?_take]at h3;split at h3
  ·simpa using h3
  cases h3
 have:=cu.sl (X:=Y) (w:=w') g 0 1 cap (ls fU l) (fun i _=>(cur[i]?).getD undef) (fun h=>absurd (hY _ h) (by omega)) (Array.getElem?_eq_some_iff.1 hh).1 (fun e he=>by
  obtain⟨z,_,rfl⟩:=List.mem_map.1 he;rfl) (by rw[fD];exact hnc) (by rw[fD];exact hm) (fun i e j x he hx=>by
  rw[iA]at he;obtain⟨z,hz,rfl⟩:=Option.map_eq_some_iff.1 he;cases j with
  |succ j=>simp[fU]at hx
  |zero=>
   rw[cell_of_row _ g _ cur _ _ hh,Nat.zero_add,Nat.mul_one,Nat.add_zero,hcell i z hz];rfl) (fun i e j x he hx=>by
  rw[iA]at he;obtain⟨z,hz,rfl⟩:=Option.map_eq_some_iff.1 he;cases j with
  |succ j=>simp[fU]at hx
  |zero=>
   simp[fU]at hx;subst hx;simp only[hcell i z hz,Option.getD_some];exact cu.raw _ rfl)
 rw[fD]at this;exact this
theorem BN (l:List Nat) (hl:l.length<=1073741824):CallC Tryz.prog 156 [dw l] ⟨[],dw l⟩:=by
 refine u6 (by kernel_rfl) fun X w vs hX hvs ha=>?_
 obtain⟨v0,e0,r0⟩:=md ha (j:=0) rfl;obtain⟨A,c,rfl,hc,hR⟩:=G6 r0;obtain rfl:vs= #[.slice A l.length c]:=by
  apply Array.ext_getElem?;intro j
  match j with
  |0=>exact e0
  |j+1=>rw[Array.getElem?_eq_none (by simp at hvs;omega)];rfl
 have hlen:(l.map fun n:Nat=>(n:Int)).length=l.length:=List.length_map _;have:=vg A c (l.map fun n:Nat=>(n:Int)) w hR (by rw[hlen];omega);rw[hlen]at this;refine this.mono fun e w' ⟨v,h1,h2,h3⟩=>⟨v,h1,fun ρ H Y hY=>Mx hY (by omega) h2,h3⟩
theorem zG (z:Int) (h:Bg z):CallC Tryz.prog 148 [tZ z] ⟨[],tZ z⟩:=by
 have ht:=eK (aL z.natAbs) h.len;rw[iG]at ht;have hc:=BN (aL z.natAbs) h.len;have hb:=fj (decide (z<0)) z.natAbs;rw[z7]at hb;refine aS Tryz.func148 rfl Tryz.ntmps148 (aT (k:=df [⟨4,_,_,_,ht⟩,⟨5,_,_,_,hc⟩,⟨6,_,_,_,hb⟩] (k:=aV @Tryz.results148)))
theorem p9 (o:List Nat) (k v:Nat):(o++ae (k+1) 0).set o.length v=(o++[v])++ae k 0:=by
 rw[List.set_append_right _ _ (ac _),Nat.sub_self,List.replicate_succ,List.set_cons_zero,List.append_assoc];rfl
theorem sU (o:List Nat) (k:Nat):(o++ae (k+1) 0)[o.length]?=some 0:=by
 rw[List.getElem?_append_right (ac _),Nat.sub_self,List.replicate_succ];rfl
theorem pN (l m:List Nat) (ll:Lmb l) (lm:Lmb m) (cl:pu l) (cm:pu m) (bl:l.length<=1073741824) (bm:m.length<=1073741824):
  CallC Tryz.prog 144 [dw l,dw m] ⟨[],.raw (.int .i64 (gF (natV l) (natV m)))⟩:=by
 rcases Nat.lt_trichotomy l.length m.length with hlt|heq|hgt
 ·rw[oE (jo ll cm hlt)];refine aS Tryz.func144 rfl Tryz.ntmps144 (aT (k:=aF (aG (aK (k:=aR rfl (bC (k:=aV @Tryz.results144)))))))
 ·refine aS Tryz.func144 rfl Tryz.ntmps144 (aT (k:=aF (aG (aK (k:=aJ rfl (aK (k:=aJ rfl (aH (aF (aK (k:=?_)))))))))));refine aO (G:={k:Nat//k<=l.length/\l.drop k=m.drop k}) (fun k=>⟨(dw l::dw m::jk::jk::jk::.raw (.int .i64 ((k.1:Int)-1))::j16 (j16 (j4 (jk::jk::jk::[])))),Hm []⟩) (fun k=>k.1) ⟨l.length,ac _,by rw[List.drop_length,heq,List.drop_length]⟩ ?_ ?_
  ·refine aE trivial ?_;simp[wk]
  rintro⟨k,hk,hd⟩;simp only;by_cases h0:0<k
  ·obtain⟨a,ha⟩:=getElem?_of_lt (l:=l) (k:=k-1) (by omega);obtain⟨b,hb⟩:=getElem?_of_lt (l:=m) (k:=k-1) (by omega);have e1:((k:Int)-1).toNat=k-1:=by omega
   have hd':l.drop (k-1+1)=m.drop (k-1+1):=by rw[show k-1+1=k by omega];exact hd
   refine aF (aK (k:=aR rfl (aH (aF (aG (aG ?_))))));rcases Nat.lt_trichotomy a b with hab|hab|hab
   ·rw[oE (mA ll ha hb hd' hab)];refine iN (aP e1 (aP ha hb)) (k:=aR rfl (bC (k:=aV @Tryz.results144)))
   ·subst hab;refine iN (aP e1 (aP ha hb)) (k:=aJ rfl (iN (aP e1 (aP ha hb)) (k:=aJ rfl (aH (bW (k:=?_))))));refine⟨⟨k-1,by omega,xW ha hb hd'⟩,by simp only;omega,aE trivial ?_⟩;have e2:((k-1:Nat):Int)=(k:Int)-1:=by omega
    simp[wk,e2]
   rw[tX (mA lm hb ha hd'.symm hab)];refine iN (aP e1 (aP ha hb)) (k:=aJ rfl (iN (aP e1 (aP ha hb)) (k:=aR rfl (bC (k:=aV @Tryz.results144)))))
  have hk0:k=0:=by omega
  subst hk0;have hlm:l=m:=by simpa using hd
  rw[show gF (natV l) (natV m)=0 by rw[hlm];simp[gF]];refine aF (aK (k:=aJ rfl (bz (bC (k:=aV @Tryz.results144)))))
 rw[tX (jo lm cl hgt)];refine aS Tryz.func144 rfl Tryz.ntmps144 (aT (k:=aF (aG (aK (k:=aJ rfl (aK (k:=aR rfl (bC (k:=aV @Tryz.results144)))))))))
structure Vp (m n:List Nat) (e:Nat) where
 i:Nat
 o:List Nat
 c:Nat
 hi:i<=e
 hc:c<=1
 ho:o.length=i
 h:o++sumL (m.drop i) (n.drop i) c=sumL m n 0
structure Vq (m n:List Nat) where
 j:Nat
 o:List Nat
 c:Nat
 hj:n.length+j<=m.length
 hc:c<=1
 ho:o.length=n.length+j
 h:o++sumL (m.drop (n.length+j)) [] c=sumL m n 0
theorem x5 (m n:List Nat) (lm:Lmb m) (ln:Lmb n) (bm:m.length<=536870912) (bn:n.length<=536870912):
  CallC Tryz.prog 162 [dw m,dw n] ⟨[],dw (aL (natV m+natV n))⟩:=by
 refine aS Tryz.func162 rfl Tryz.ntmps162 (aT (k:=?_));obtain⟨p,q,hpq,hle⟩: ∃p q:List Nat,((p=m/\q=n/\ ¬m.length<n.length)\/(p=n/\q=m/\m.length<n.length))/\q.length<=p.length:=by
  by_cases h:m.length<n.length
  ·exact⟨n,m,.inr ⟨rfl,rfl,h⟩,by omega⟩
  exact⟨m,n,.inl ⟨rfl,rfl,h⟩,by omega⟩
 refine aF (l7 (S:=⟨(dw p::dw q::j16 (j16 (j16 (j16 (j16 (jk::[])))))),Hm []⟩) ?_ ?_)
 ·rcases hpq with⟨rfl,rfl,h⟩|⟨rfl,rfl,h⟩
  ·refine aK (k:=?_);refine bV rfl (fun h=>by simp at h<;>omega) (fun _=>aH (aE trivial ?_));simp[wk]
  refine aK (k:=aR rfl (VH (k:=?_)));refine aE trivial ?_;simp[wk]
 have hsum:natV m+natV n=natV p+natV q:=by rcases hpq with⟨rfl,rfl,_⟩|⟨rfl,rfl,_⟩<;>omega
 have lp:Lmb p:=by rcases hpq with⟨rfl,rfl,_⟩|⟨rfl,rfl,_⟩<;>assumption
 have lq:Lmb q:=by rcases hpq with⟨rfl,rfl,_⟩|⟨rfl,rfl,_⟩<;>assumption
 have bp:p.length<=536870912:=by rcases hpq with⟨rfl,rfl,_⟩|⟨rfl,rfl,_⟩<;>assumption
 rw[hsum];clear hsum hpq lm ln bm bn;have ep:(p.length:Int)+1=((p.length+1:Nat):Int):=by omega
 refine aX (aP ep @kR) (k:=bC (k:=aF (bC (k:=?_))));refine aO (G:=Vp p q q.length) (fun g=>⟨(dw p::dw q::jk::jk::jk::.one (.sl 19 0 0 (p.length+1))::.raw (.int .u64 (g.c:Int))::j4 (j4 (j4 (jk::jk::rN q.length::rN g.i::j16 (j16 (j16 (j4 (j4 (j4 ([])))))))))),Hm [(19,[⟨56,1,lc fU (g.o++ae (p.length+1-g.i) 0)⟩])]⟩) (fun g=>q.length-g.i) ⟨0,[],0,by omega,by omega,rfl,rfl⟩ ?_ ?_
 ·refine aE ⟨?_,trivial⟩ ?_
  ·simp[be,Hm]
  simp[wk]
 rintro⟨i,o,c,hi,hc,ho,h⟩;simp only;by_cases hm:i<q.length
 ·obtain⟨a,ha⟩:=getElem?_of_lt (show i<p.length by omega);obtain⟨b,hb⟩:=getElem?_of_lt hm;have ha':=cq lp ha;have hb':=cq lq hb;have e1:IntKind.u32.wrap ((c:Int)+((a:Int)+(b:Int)))=(((c+a+b)%4294967296:Nat):Int):=by rw[<- tI];congr 1<;>omega
  have e2:Int.fdiv ((c:Int)+((a:Int)+(b:Int))) (2^(min 32 IntKind.u64.bits))=(((c+a+b)/4294967296:Nat):Int):=by rw[<- Kc];congr 1<;>omega
  have hz:p.length+1-i=(p.length-i)+1:=by omega
  have hg:=sU o (p.length-i);have hs:=p9 o (p.length-i) ((c+a+b)%4294967296);rw[ho]at hg hs;rw[hz];refine aK (k:=bv rfl (aF (aG (bC (k:=iN (aP ha hb) (k:=aX (aP e1 (aP hg (aP @dA hs))) (k:=gV e2 (k:=bW (k:=?_)))))))));refine⟨⟨i+1,o++[(c+a+b)%4294967296],(c+a+b)/4294967296,by omega,by omega,by simp[ho],?_⟩,by simp only;omega,aE ⟨?_,trivial⟩ ?_⟩
  ·rw[<- h,eo ha,eo hb,sumL,List.append_assoc];rfl
  ·show _=[(⟨_,_,lc fU ((o++[(c+a+b)%4294967296])++ae (p.length+1-(i+1)) 0)⟩:OObj)];rw[show p.length+1-(i+1)=p.length-i by omega];rfl
  simp[wk]
 have hin:i=q.length:=by omega
 subst hin;rw[dO (ac _)]at h;refine aK (k:=bE rfl ?_);show bL _ _ _ _;have es:(p.length:Int)-(q.length:Int)=((p.length-q.length:Nat):Int):=by omega
 refine aF (aX es (k:=?_));refine aO (G:=Vq p q) (fun g=>⟨(dw p::dw q::jk::jk::jk::.one (.sl 19 0 0 (p.length+1))::.raw (.int .u64 (g.c:Int))::j16 (j16 (j4 (j4 (jk::jk::jk::.raw (.int .i64 ((p.length-q.length:Nat):Int))::rN g.j::j16 (j4 (j4 (j4 (jk::jk::jk::[]))))))))),Hm [(19,[⟨56,1,lc fU (g.o++ae (p.length+1-(q.length+g.j)) 0)⟩])]⟩) (fun g=>p.length-q.length-g.j) ⟨0,o,c,by omega,hc,ho,h⟩ ?_ ?_
 ·refine aE ⟨rfl,trivial⟩ ?_;simp[wk]
 clear h ho hc c o;rintro⟨j,o,c,hj,hc,ho,h⟩;simp only;have eNj:(q.length:Int)+(j:Int)=((q.length+j:Nat):Int):=by omega
 by_cases hm2:j<p.length-q.length
 ·obtain⟨a,ha⟩:=getElem?_of_lt (show q.length+j<p.length by omega);have ha':=cq lp ha;have e1:IntKind.u32.wrap ((c:Int)+(a:Int))=(((c+a)%4294967296:Nat):Int):=by rw[<- tI];congr 1<;>omega
  have e2:Int.fdiv ((c:Int)+(a:Int)) (2^(min 32 IntKind.u64.bits))=(((c+a)/4294967296:Nat):Int):=by rw[<- Kc];congr 1<;>omega
  have hz:p.length+1-(q.length+j)=(p.length-(q.length+j))+1:=by omega
  have hg:=sU o (p.length-(q.length+j));have hs:=p9 o (p.length-(q.length+j)) ((c+a)%4294967296);rw[ho]at hg hs;rw[hz];refine aK (k:=bv rfl (aF (aG (bC (k:=aX (aP eNj ha) (k:=aX (aP eNj (aP e1 (aP hg (aP @dA hs)))) (k:=gV e2 (k:=bW (k:=?_)))))))));refine⟨⟨j+1,o++[(c+a)%4294967296],(c+a)/4294967296,by omega,by omega,by simp[ho];omega,?_⟩,by simp only;omega,aE ⟨?_,trivial⟩ ?_⟩
  ·rw[<- h,eo ha,sumL,List.append_assoc];rfl
  ·show _=[(⟨_,_,lc fU ((o++[(c+a)%4294967296])++ae (p.length+1-(q.length+(j+1))) 0)⟩:OObj)];rw[show p.length+1-(q.length+(j+1))=p.length-(q.length+j) by omega];rfl
  simp[wk]
 have hje:q.length+j=p.length:=by omega
 rw[hje]at h ho;rw[dO (ac _),sumL]at h;have e1:IntKind.u32.wrap (c:Int)=(c:Int):=by rw[tI];omega
 have hz:p.length+1-(q.length+j)=0+1:=by omega
 have hg:=sU o 0;have hs:=p9 o 0 c;rw[ho]at hg hs;rw[List.replicate_zero,List.append_nil,h]at hs;have hsl:(sumL p q 0).length=p.length+1:=by rw[oh];omega
 have hlm:=nK p q 0 lp lq (by omega);have ht:=eK (sumL p q 0) (by omega);rw[dX hlm,lQ,Nat.add_zero]at ht;rw[hz];generalize sumL p q 0=S at*
 refine aK (k:=bE rfl (aX (aP e1 (aP hg (aP @dA hs))) (k:=?_)));refine bL.weak ((bT 19 (bQ rfl)).trans (aE (tm:=(j4 (jk::dw S::j16 (j16 (j16 (j16 (j4 (j4 (j4 (jk::[])))))))))) (l:=[]) trivial (by simp[wk,gX,fX,be,Hm,gS,gN,List.take_of_length_le,hsl]))) ?_;refine cb [⟨1,_,_,_,ht⟩] (k:=aV @Tryz.results162)
theorem sh (m n:List Nat) (lm:Lmb m) (ln:Lmb n) (hl:n.length<=m.length) (hle:natV n<=natV m) (bm:m.length<=536870912):
  CallC Tryz.prog 163 [dw m,dw n] ⟨[],dw (aL (natV m-natV n))⟩:=by
 refine aS Tryz.func163 rfl Tryz.ntmps163 (aT (k:=aX @kR (k:=bC (k:=aF (bC (k:=?_))))));refine aO (G:=Uo m n) (fun g=>⟨(dw m::dw n::jk::jk::jk::.one (.sl 11 0 0 m.length)::.raw (.int .u64 (g.c:Int))::j4 (jk::jk::rN m.length::rN g.i::j16 (j4 (j4 (j4 (jk::jk::[])))))),Hm [(11,[⟨56,1,lc fU (g.o++ae (m.length-g.i) 0)⟩])]⟩) (fun g=>m.length-g.i) ⟨0,[],0,by omega,by omega,rfl,rfl⟩ ?_ ?_
 ·refine aE ⟨?_,trivial⟩ ?_
  ·simp[be,Hm]
  simp[wk]
 rintro⟨i,o,c,hi,hc,ho,h⟩;simp only;by_cases hm:i<m.length
 ·obtain⟨a,ha⟩:=getElem?_of_lt hm;have ha':=cq lm ha;have hz:m.length-i=(m.length-i-1)+1:=by omega
  have hg:=sU o (m.length-i-1);rw[ho]at hg;rw[hz];refine aK (k:=bv rfl (aF (aG (bC (k:=aX ha (k:=?_))))));by_cases hn:i<n.length
  ·obtain⟨b,hb⟩:=getElem?_of_lt hn;have hb':=cq ln hb;have e1:IntKind.u32.wrap (IntKind.u64.wrap (IntKind.u64.wrap ((a:Int)-(c:Int))-(b:Int)))=(((a+8589934592-(c+b))%4294967296:Nat):Int):=by rw[IntKind.wrap_u32,IntKind.wrap_u64,IntKind.wrap_u64];omega
   have e2:Int.fdiv (IntKind.u64.wrap (IntKind.u64.wrap ((a:Int)-(c:Int))-(b:Int))) (2^(min 63 IntKind.u64.bits))=(((if a<c+b then 1 else 0):Nat):Int):=by
    rw[IntKind.wrap_u64,IntKind.wrap_u64];show Int.fdiv _ 9223372036854775808=_;rw[Int.fdiv_eq_ediv_of_nonneg _ (by omega)];split<;>omega
   have hs:=p9 o (m.length-i-1) ((a+8589934592-(c+b))%4294967296);rw[ho]at hs;refine aF (aK (k:=aR rfl (fc hb (k:=aX (aP e1 (aP hg (aP @dA hs))) (k:=gV e2 (k:=bW (k:=?_)))))));refine⟨⟨i+1,o++[(a+8589934592-(c+b))%4294967296],if a<c+b then 1 else 0,by omega,by split<;>omega,by simp[ho],?_⟩,by simp only;omega,aE ⟨?_,trivial⟩ ?_⟩
   ·rw[<- h,eo ha,eo hb,diffL,List.append_assoc];rfl
   ·show _=[(⟨_,_,lc fU ((o++[(a+8589934592-(c+b))%4294967296])++ae (m.length-(i+1)) 0)⟩:OObj)];rw[show m.length-(i+1)=m.length-i-1 by omega];rfl
   simp[wk]
  have e1:IntKind.u32.wrap (IntKind.u64.wrap ((a:Int)-(c:Int)))=(((a+8589934592-c)%4294967296:Nat):Int):=by rw[IntKind.wrap_u32,IntKind.wrap_u64];omega
  have e2:Int.fdiv (IntKind.u64.wrap ((a:Int)-(c:Int))) (2^(min 63 IntKind.u64.bits))=(((if a<c then 1 else 0):Nat):Int):=by
   rw[IntKind.wrap_u64];show Int.fdiv _ 9223372036854775808=_;rw[Int.fdiv_eq_ediv_of_nonneg _ (by omega)];split<;>omega
  have hs:=p9 o (m.length-i-1) ((a+8589934592-c)%4294967296);rw[ho]at hs;refine aF (aK (k:=aJ rfl (aH (aX (aP e1 (aP hg (aP @dA hs))) (k:=gV e2 (k:=bW (k:=?_)))))));refine⟨⟨i+1,o++[(a+8589934592-c)%4294967296],if a<c then 1 else 0,by omega,by split<;>omega,by simp[ho],?_⟩,by simp only;omega,aE ⟨?_,trivial⟩ ?_⟩
  ·rw[<- h,eo ha,dO (by omega:n.length<=i),dO (by omega:n.length<=i+1),diffL,List.append_assoc];rfl
  ·show _=[(⟨_,_,lc fU ((o++[(a+8589934592-c)%4294967296])++ae (m.length-(i+1)) 0)⟩:OObj)];rw[show m.length-(i+1)=m.length-i-1 by omega];rfl
  simp[wk]
 have hie:i=m.length:=by omega
 subst hie;rw[dO (ac _),diffL,List.append_nil]at h;rw[Nat.sub_self,List.replicate_zero,List.append_nil,h];have hsl:(diffL m n 0).length=m.length:=jQ m n 0;have hlm:=jS m n 0;have hv:=iQ m n 0 lm ln (by omega) hl (by omega);have ht:=eK (diffL m n 0) (by omega);rw[dX hlm,show natV (diffL m n 0)=natV m-natV n by omega]at ht;generalize diffL m n 0=S at*
 refine aK (k:=bE rfl ?_);show bL _ _ _ _;refine bL.weak ((bT 11 (bQ rfl)).trans (aE (tm:=(j4 (jk::dw S::j16 (j16 (j4 (jk::jk::jk::[])))))) (l:=[]) trivial (by simp[wk,gX,fX,be,Hm,gS,gN,List.take_of_length_le,hsl]))) ?_;refine cb [⟨1,_,_,_,ht⟩] (k:=aV @Tryz.results163)
theorem I9 {A B:List Nat} (g:HU A B) (h:A[g.i]?=some 0): ∃g':HU A B,g'.i=g.i+1/\g'.O=g.O:=by
 refine⟨⟨g.i+1,g.O,(List.getElem?_eq_some_iff.1 h).1,g.len,g.lmb,?_,fun k h1 h2=>g.zero k (by omega) h2⟩,rfl,rfl⟩;rw[bG h,g.val];simp
theorem IR (A B:List Nat) (hlA:Lmb A) (hlB:Lmb B) (la:A.length<=536870912) (lb:B.length<=536870912):CallC Tryz.prog 165 [dw A,dw B] ⟨[],dw (aL (natV A*natV B))⟩:=by
 by_cases hsm:A.length<=1/\B.length<=1
 ·have hsm1:=hsm.1;have hsm2:=hsm.2;have w1:=uc A hlA (by omega);have w2:=uc B hlB (by omega);have b1:natV A<4294967296:=by
   have:=fF hlA;exact Nat.lt_of_lt_of_le this (by have:=aD (n:=4294967296) (by omega) hsm1;simpa using this)
  have b2:natV B<4294967296:=by
   have:=fF hlB;exact Nat.lt_of_lt_of_le this (by have:=aD (n:=4294967296) (by omega) hsm2;simpa using this)
  have hb:=oS b1 b2;have w3:=jf (natV A*natV B) (by omega);have e2:(natV A:Int)*(natV B:Int)=((natV A*natV B:Nat):Int):=by simp
  generalize natV A*natV B=p at*
  refine aS Tryz.func165 rfl Tryz.ntmps165 (aT (k:=aF (aK (k:=aR rfl (dr [⟨1,_,_,_,w1⟩,⟨3,_,_,_,w2⟩,⟨5,_,_,_,w3⟩] e2 (k:=aV @Tryz.results165))))))
 have e0:((A.length:Int)+(B.length:Int)).toNat=A.length+B.length:=by omega
 refine aS Tryz.func165 rfl Tryz.ntmps165 (aT (k:=?_));refine aF (l7 (S:=⟨(dw A::dw B::j16 (j16 (j16 (j16 (j16 (j4 ([]))))))),Hm []⟩) ?_ ?_)
 ·by_cases h1:A.length<=1
  ·refine aK (k:=?_);refine bV rfl (fun h=>by simp at h<;>omega) (fun _=>aH (aE trivial ?_));simp[wk]
  refine aK (k:=?_);refine bV rfl (fun h=>by simp at h<;>omega) (fun _=>aH (aE trivial ?_));simp[wk]
 refine aX (aP e0 @kR) (k:=aF (bC (k:=?_)));refine aO (G:=HU A B) (fun g=>⟨(dw A::dw B::jk::jk::jk::.one (.sl 31 0 0 (A.length+B.length))::j16 (j4 (j4 (jk::jk::dw A::rN A.length::rN g.i::j16 (j16 (j16 (jk::jk::jk::[]))))))),Hm [(31,[⟨56,1,lc fU g.O⟩])]⟩) (fun g=>A.length-g.i) ⟨0,ae (A.length+B.length) 0,by omega,by simp,fun x hx=>by simp at hx;omega,by simp[lP,natV],fun k h1 h2=>by rw[List.getElem?_replicate,if_pos h2]⟩ ?_ ?_
 ·refine aE ⟨rfl,trivial⟩ ?_;simp[wk]
 rintro⟨i,O,hi,len,lmb,val,zero⟩;simp only;by_cases hm:i<A.length
 ·obtain⟨x,hx⟩:=getElem?_of_lt hm;have hx':=cq hlA hx;refine aK (k:=bv rfl (aF (aG (aX hx (k:=?_)))));by_cases hx0:x=0
  ·subst hx0;obtain⟨g',q1,q2⟩:=I9 (⟨i,O,hi,len,lmb,val,zero⟩:HU A B) hx;simp only at q1 q2;refine aF (aK (k:=aR rfl (bz (bW (k:=?_)))));refine⟨g',by omega,aE ⟨by rw[q2];rfl,trivial⟩ ?_⟩;simp[wk,q1]
  have es:(i:Int)+(B.length:Int)+1=((i+B.length+1:Nat):Int):=by omega
  have el:i+B.length+1-i=B.length+1:=by omega
  refine aF (aK (k:=aJ rfl (aH (aX (aP es el) (k:=bC (k:=aF (bC (k:=?_))))))));refine aO (G:=Kn A B i x) (fun g=>⟨(dw A::dw B::jk::jk::jk::.one (.sl 31 0 0 (A.length+B.length))::jk::.raw (.int .u32 (x:Int))::.one (.sl 31 0 i (B.length+1))::.raw (.int .u64 (g.c:Int))::j16 (j4 (jk::jk::dw A::rN A.length::rN i::j4 (j4 (j4 (jk::jk::dw B::rN B.length::rN g.j::j16 (j16 (jk::jk::[])))))))),Hm [(31,[⟨56,1,lc fU g.O⟩])]⟩) (fun g=>B.length-g.j) ⟨0,O,0,by omega,len,lmb,by omega,by simpa[natV] using val,zero⟩ ?_ ?_
  ·refine aE ⟨rfl,trivial⟩ ?_;simp[wk]
  intro g;by_cases hn:g.j<B.length
  ·obtain⟨y,hy⟩:=getElem?_of_lt hn;have hy':=cq hlB hy;have hlen:=g.len;obtain⟨o,ho⟩:=getElem?_of_lt (show i+g.j<g.O.length by omega);have ho':=cq g.lmb ho;have hb:=oS hx' hy';have hgc:=g.hc;obtain⟨g',q1,q2,q3⟩:=yf g hy ho hm hx' hy';have e2:(x:Int)*(y:Int)=((x*y:Nat):Int):=by simp
   generalize hp:x*y=p at*
   have e3:IntKind.u32.wrap ((g.c:Int)+((p:Int)+(o:Int)))=(((g.c+(p+o))%4294967296:Nat):Int):=by rw[<- tI];congr 1<;>omega
   have e4:Int.fdiv ((g.c:Int)+((p:Int)+(o:Int))) (2^(min 32 IntKind.u64.bits))=(((g.c+(p+o))/4294967296:Nat):Int):=by rw[<- Kc];congr 1<;>omega
   refine aK (k:=bv rfl (aF (aG (aX hy (k:=aX (aP e2 ho) (k:=aX (aP e3 (aP ho @dA)) (k:=gV e4 (k:=bW (k:=?_)))))))));refine⟨g',by omega,aE ⟨by rw[q2];rfl,trivial⟩ ?_⟩;simp[wk,q1,q3]
  have hgj:=g.hj;have hgc:=g.hc;have hgl:=g.len;obtain⟨g',q1,q2⟩:=ye hx g hn;have e3:IntKind.u32.wrap (g.c:Int)=(g.c:Int):=by rw[tI];omega
  refine aK (k:=bE rfl ?_);show bL _ _ _ _;have hz:=g.zero (i+B.length) (ac _) (by omega);refine fc (aP e3 (aP hz @dA)) (k:=bW (k:=?_));refine⟨g',by omega,aE ⟨by rw[q2];rfl,trivial⟩ ?_⟩;simp[wk,q1]
 have hfin:natV O=natV A*natV B:=by
  have:i=A.length:=by omega
  rw[val,this,List.take_length]
 have ht:=eK O (by omega);rw[dX lmb,hfin]at ht;refine aK (k:=bE rfl ?_);show bL _ _ _ _;refine bL.weak ((bT 31 (bQ rfl)).trans (aE (tm:=(j4 (jk::dw O::j16 (j16 (j16 (j16 (j16 ([])))))))) (l:=[]) trivial (by simp[wk,gX,fX,be,Hm,gS,gN,List.take_of_length_le,len]))) ?_;refine cb [⟨1,_,_,_,ht⟩] (k:=aV @Tryz.results165)
/-! Signed numbers. -/
theorem K4 {a b:Nat}:0<=gF a b↔b<=a:=by unfold gF;split<;>(try split)<;>omega
theorem E6 {na nb:Bool} {a b:Nat} (h:na≠nb) (hle:b<=a):gD na (a-b)=gD na a+gD nb b:=by
 unfold gD;cases na<;>cases nb<;>simp at* <;>omega
theorem E7 {na nb:Bool} {a b:Nat} (h:na≠nb) (hle:a<=b):gD nb (b-a)=gD na a+gD nb b:=by
 unfold gD;cases na<;>cases nb<;>simp at* <;>omega
theorem QB (n:Bool) (a b:Nat):gD n (a+b)=gD n a+gD n b:=by unfold gD;cases n<;>simp<;>omega
theorem zF (na nb:Bool) (a b:Nat) (la:(aL a).length<=536870912) (lb:(aL b).length<=536870912):CallC Tryz.prog 164 [.raw (.bool na),dw (aL a),.raw (.bool nb),dw (aL b)] ⟨[],tZ (gD na a+gD nb b)⟩:=by
 by_cases hs:na=nb
 ·subst hs;have h1:=x5 (aL a) (aL b) (aU _) (aU _) la lb;rw[aN,aN]at h1;have h2:=fj na (a+b);rw[QB]at h2;refine aS Tryz.func164 rfl Tryz.ntmps164 (aT (k:=aF (aG (bC (k:=aR rfl (bN [⟨3,_,_,_,h1⟩,⟨4,_,_,_,h2⟩] (k:=aV @Tryz.results164)))))))
 have hne:(na==nb)=false:=by simpa using hs
 have h0:=pN (aL a) (aL b) (aU _) (aU _) (cn _) (cn _) (by omega) (by omega);rw[aN,aN]at h0;have hge:=K4 (a:=a) (b:=b);by_cases hle:b<=a
 ·have h1:=sh (aL a) (aL b) (aU _) (aU _) (jm (aU _) (cn _) (by rw[aN,aN];exact hle)) (by rw[aN,aN];exact hle) la;rw[aN,aN]at h1;have h2:=fj na (a-b);rw[E6 hs hle]at h2;have hc:0<=gF a b:=hge.2 hle;generalize gF a b=cv at*
  refine aS Tryz.func164 rfl Tryz.ntmps164 (aT (k:=aF (aG (il hne (k:=aJ rfl (bN [⟨2,_,_,_,h0⟩] (k:=aR rfl (bN [⟨3,_,_,_,h1⟩,⟨4,_,_,_,h2⟩] (k:=aV @Tryz.results164)))))))))
 have h1:=sh (aL b) (aL a) (aU _) (aU _) (jm (aU _) (cn _) (by rw[aN,aN];omega)) (by rw[aN,aN];omega) lb;rw[aN,aN]at h1;have h2:=fj nb (b-a);rw[E7 hs (by omega)]at h2;have hc: ¬0<=gF a b:=fun h=>hle (hge.1 h)
 generalize gF a b=cv at*
 refine aS Tryz.func164 rfl Tryz.ntmps164 (aT (k:=aF (aG (il hne (k:=aJ rfl (bN [⟨2,_,_,_,h0⟩] (k:=aJ rfl (aH (bN [⟨3,_,_,_,h1⟩,⟨4,_,_,_,h2⟩] (k:=aV @Tryz.results164))))))))))
theorem S7 (a b:Int) (ha:Bh a) (hb:Bh b):CallC Tryz.prog 158 [tZ a,tZ b] ⟨[],tZ (a-b)⟩:=by
 have t1:=eK (aL a.natAbs) ha.bg.len;have t2:=eK (aL b.natAbs) hb.bg.len;rw[iG]at t1 t2;have h:=zF (decide (a<0)) (!decide (b<0)) a.natAbs b.natAbs ha.len hb.len;rw[z7,Mb,<- Int.sub_eq_add_neg]at h;refine aS Tryz.func158 rfl Tryz.ntmps158 (aT (k:=df [⟨4,_,_,_,t1⟩,⟨10,_,_,_,t2⟩,⟨11,_,_,_,h⟩] (k:=aV @Tryz.results158)))
theorem LK (a b:Int) (ha:Bh a) (hb:Bh b):CallC Tryz.prog 159 [tZ a,tZ b] ⟨[],tZ (a*b)⟩:=by
 have t1:=eK (aL a.natAbs) ha.bg.len;have t2:=eK (aL b.natAbs) hb.bg.len;rw[iG]at t1 t2;have h:=IR (aL a.natAbs) (aL b.natAbs) (aU _) (aU _) ha.len hb.len;rw[aN,aN]at h;have h2:=fj (!(decide (a<0)==decide (b<0))) (a.natAbs*b.natAbs);rw[GN]at h2;refine aS Tryz.func159 rfl Tryz.ntmps159 (aT (k:=df [⟨7,_,_,_,t1⟩,⟨10,_,_,_,t2⟩,⟨11,_,_,_,h⟩,⟨12,_,_,_,h2⟩] (k:=aV @Tryz.results159)))
theorem UT {U V L v1 high q : Nat} (hV : v1 * 4294967296 * L <= V) (hU : U < (high + 1) * 4294967296 * L) (hq : q * V <= U) (hL : 0 < L) : q * v1 <= high := by
  have h1 : q * (v1 * 4294967296 * L) <= q * V := Nat.mul_le_mul_left _ hV;have h2 : (q * v1) * (4294967296 * L) < (high + 1) * (4294967296 * L) := by
    calc (q * v1) * (4294967296 * L) = q * (v1 * 4294967296 * L) := by grind
      _ <= q * V := h1
      _ <= U := hq
      _ < (high + 1) * 4294967296 * L := hU
      _ = (high + 1) * (4294967296 * L) := by grind
  have := Nat.lt_of_mul_lt_mul_right h2;omega
theorem US {U V L v1 v2 u0 high g r q : Nat} (hV : (v1 * 4294967296 + v2) * L <= V) (hU : U < (high * 4294967296 + u0 + 1) * L) (hq : q * V <= U) (hg : g * v1 + r = high) (h : r * 4294967296 + u0 < g * v2) : q < g := by
  by_cases hc : q < g
  · exact hc
  · exfalso
    have h1 : g * ((v1 * 4294967296 + v2) * L) <= U := Nat.le_trans (Nat.mul_le_mul (Nat.le_of_not_lt hc) hV) hq;have h2 : (g * (v1 * 4294967296 + v2)) * L < (high * 4294967296 + u0 + 1) * L := by
      calc (g * (v1 * 4294967296 + v2)) * L = g * ((v1 * 4294967296 + v2) * L) := by grind
        _ <= U := h1
        _ < _ := hU
    have h3 := Nat.lt_of_mul_lt_mul_right h2;have h4 : g * (v1 * 4294967296 + v2) = g * v1 * 4294967296 + g * v2 := by grind
    have h5 : high * 4294967296 = g * v1 * 4294967296 + r * 4294967296 := by rw [<- hg]; grind
    omega
theorem PB {U V L vl v1 v2 t3 g q : Nat} (hV : V = (v1 * 4294967296 + v2) * L + vl) (hvl : vl < L) (hU : t3 * L <= U) (hq : U < (q + 1) * V) (hg : g * (v1 * 4294967296 + v2) <= t3) (hB : g <= 4294967296) (hv1 : 1 <= v1) : g <= q + 1 := by
  have h1 : g * V <= U + g * vl := by
    calc g * V = (g * (v1 * 4294967296 + v2)) * L + g * vl := by rw [hV]; grind
      _ <= t3 * L + g * vl := Nat.add_le_add_right (Nat.mul_le_mul_right _ hg) _
      _ <= _ := Nat.add_le_add_right hU _
  have h2 : g * vl <= 4294967296 * L := Nat.mul_le_mul hB (Nat.le_of_lt hvl);have h3 : 4294967296 * L <= V := by
    rw [hV];have : 4294967296 * L <= (v1 * 4294967296 + v2) * L := Nat.mul_le_mul_right _ (by omega);omega
  have h4 : g * V < (q + 2) * V := by
    calc g * V <= U + V := by omega
      _ < (q + 1) * V + V := by omega
      _ = (q + 2) * V := by grind
  have := Nat.lt_of_mul_lt_mul_right h4;omega
structure Or (u v:List Nat) (g:Nat) where
 i:Nat
 us:List Nat
 c:Nat
 b:Nat
 hi:i<=v.length
 len:us.length=i
 lmb:Lmb us
 hc:c<4294967296
 hb:b<=1
 val:natV us+g*natV (v.take i)=natV (u.take i)+(c+b)*4294967296^i
def Or.start (u v:List Nat) (g:Nat):Or u v g:=⟨0,[],0,0,Nat.zero_le _,rfl,fun a h=>by simp at h,by omega,by omega,by simp[natV]⟩
theorem oT (l:List Nat) (a:Nat):natV (l++[a])=natV l+a*4294967296^l.length:=by
 rw[jl];simp[natV];grind
theorem nJ {l:List Nat} {a:Nat} (h:Lmb l) (ha:a<4294967296):Lmb (l++[a]):=fun x hx=>by
 rcases List.mem_append.1 hx with h1|h1
 ·exact h x h1
 simp at h1;omega
theorem Cm {g x c:Nat} (hg:g<=4294967296) (hx:x<4294967296) (hc:c<4294967296):c+g*x<18446744073709551616/\(c+g*x)/4294967296<4294967296:=by
 have:g*x<=4294967296*4294967295:=Nat.mul_le_mul hg (by omega);omega
theorem PO {u v:List Nat} {g:Nat} (m:Or u v g) {x y l b':Nat} (hg:g<=4294967296) (hx:v[m.i]?=some x) (hy:u[m.i]?=some y) (lv:Lmb v) (hl:l<4294967296) (hb':b'<=1)
  (ht:l+(m.c+g*x)%4294967296+m.b=y+b'*4294967296): ∃m':Or u v g,m'.i=m.i+1/\m'.us=m.us++[l]/\m'.c=(m.c+g*x)/4294967296/\m'.b=b':=by
 have hx':=cq lv hx;refine⟨⟨m.i+1,m.us++[l],(m.c+g*x)/4294967296,b',?_,by rw[List.length_append,m.len];rfl,nJ m.lmb hl,(Cm hg hx' m.hc).2,hb',?_⟩,rfl,rfl,rfl,rfl⟩
 ·have:=(List.getElem?_eq_some_iff.1 hx).1;omega
 have hv:=m.val;rw[oT,m.len,bG hx,bG hy,Nat.pow_succ];have hs:m.c+g*x=(m.c+g*x)%4294967296+4294967296*((m.c+g*x)/4294967296):=by omega
 generalize(m.c+g*x)%4294967296=lo at*
 generalize(m.c+g*x)/4294967296=hi' at*
 generalize 4294967296^m.i=p at*
 have h1:g*(natV (v.take m.i)+x*p)=g*natV (v.take m.i)+g*x*p:=by grind
 have h2:g*x=lo+4294967296*hi'-m.c:=by omega
 have h3:(l+lo+m.b)*p=(y+b'*4294967296)*p:=by rw[ht]
 have h4:(m.c+g*x)*p=(lo+4294967296*hi')*p:=by rw[hs]
 grind
structure Oy (u v:List Nat) where
 i:Nat
 us:List Nat
 c:Nat
 hi:i<=v.length
 len:us.length=i
 lmb:Lmb us
 hc:c<=1
 val:natV us+c*4294967296^i=natV (u.take i)+natV (v.take i)
def Oy.start (u v:List Nat):Oy u v:=⟨0,[],0,Nat.zero_le _,rfl,fun a h=>by simp at h,by omega,by simp[natV]⟩
theorem OQ {u v:List Nat} (m:Oy u v) {x y:Nat} (hx:v[m.i]?=some x) (hy:u[m.i]?=some y) (lv:Lmb v) (lu:Lmb u):
  ∃m':Oy u v,m'.i=m.i+1/\m'.us=m.us++[(m.c+(y+x))%4294967296]/\m'.c=(m.c+(y+x))/4294967296:=by
 have hx':=cq lv hx;have hy':=cq lu hy;have hc:=m.hc;refine⟨⟨m.i+1,m.us++[(m.c+(y+x))%4294967296],(m.c+(y+x))/4294967296,?_,by rw[List.length_append,m.len];rfl,nJ m.lmb (Nat.mod_lt _ (by omega)),by omega,?_⟩,rfl,rfl,rfl⟩
 ·have:=(List.getElem?_eq_some_iff.1 hx).1;omega
 have hv:=m.val;rw[oT,m.len,bG hx,bG hy,Nat.pow_succ];have hs:m.c+(y+x)=(m.c+(y+x))%4294967296+4294967296*((m.c+(y+x))/4294967296):=by omega
 generalize(m.c+(y+x))%4294967296=lo at*
 generalize(m.c+(y+x))/4294967296=hi' at*
 generalize 4294967296^m.i=p at*
 have h4:(m.c+(y+x))*p=(lo+4294967296*hi')*p:=by rw[hs]
 grind
theorem LV {U V g q R:Nat} (hq:q=U/V) (hg:q<=g) (h:R+g*V=U) (hV:0<V):g=q/\R=U%V:=by
 have h1:g<=U/V:=(Nat.le_div_iff_mul_le hV).2 (by omega);have h2:g=q:=by omega
 refine⟨h2,?_⟩;have:=Nat.div_add_mod U V;rw[<- hq,<- h2,Nat.mul_comm]at this;omega
theorem PA {U V g q R T Bn c t W:Nat} (hq:q=U/V) (hg:g<=q+1) (h:R+g*V=U+4294967296*Bn) (hlt:U<g*V) (hV:0<V) (hVB:V<=Bn) (hW:W<Bn)
  (hR:R=T+t*Bn) (ht:W+c*Bn=T+V) (hc:c<=1) (htt:t<4294967296):g=q+1/\(t+c)%4294967296=0/\W=U%V:=by
 have h1:g=q+1:=by
  by_cases hh:g=q+1
  ·exact hh
  exfalso;have:g*V<=(U/V)*V:=Nat.mul_le_mul_right _ (by omega);have:=Nat.div_mul_le_self U V;omega
 have h2:=Nat.div_add_mod U V;have h3:=Nat.mod_lt U hV;rw[<- hq]at h2;subst h1;have h4:(q+1)*V=V*q+V:=by grind
 have h5:W+(t+c)*Bn=U%V+4294967296*Bn:=by
  have:(t+c)*Bn=t*Bn+c*Bn:=by grind
  omega
 have h6:t+c=4294967296:=by
  rcases Nat.lt_trichotomy (t+c) 4294967296 with hh|hh|hh
  ·exfalso;have:(t+c)*Bn+Bn<=4294967296*Bn:=by
    have:=Nat.mul_le_mul_right Bn (show t+c+1<=4294967296 by omega);have e:(t+c+1)*Bn=(t+c)*Bn+Bn:=by grind
    omega
   omega
  ·exact hh
  omega
 refine⟨rfl,by rw[h6],?_⟩;rw[h6]at h5;omega
def b6:Nat->Nat->List Nat
 |0,_=>[]
 |n+1,x=>x%4294967296::b6 n (x/4294967296)
theorem bS: ∀n x,(b6 n x).length=n
 |0,_=>rfl
 |n+1,x=>by simp[b6,bS n]
theorem nI: ∀n x,Lmb (b6 n x)
 |0,_=>fun a h=>by simp[b6]at h
 |n+1,x=>by rw[b6,dP];exact⟨Nat.mod_lt _ (by omega),nI n _⟩
theorem yk: ∀n x,natV (b6 n x)=x%4294967296^n
 |0,x=>by simp[b6,natV,Nat.mod_one]
 |n+1,x=>by
  rw[b6,natV,yk n,Nat.pow_succ,Nat.mul_comm (4294967296^n),Nat.mod_mul]
theorem gz {n x:Nat} (h:x<4294967296^n):natV (b6 n x)=x:=by rw[yk,Nat.mod_eq_of_lt h]
theorem Gs: ∀{l:List Nat},Lmb l->l=b6 l.length (natV l)
 |[],_=>rfl
 |a::l,h=>by
  rw[dP]at h;have h1:(a+4294967296*natV l)%4294967296=a:=by omega
  have h2:(a+4294967296*natV l)/4294967296=natV l:=by omega
  show a::l=b6 (l.length+1) (natV (a::l));rw[b6,natV,h1,h2,<- Gs h.2]
theorem BH {l:List Nat} {n x:Nat} (h:Lmb l) (hn:l.length=n) (hx:natV l=x):l=b6 n x:=by
 subst hn hx;exact Gs h
theorem gk: ∀{n x i:Nat},i<n->(b6 n x)[i]?=some (x/4294967296^i%4294967296)
 |0,_,_,h=>by omega
 |n+1,x,0,_=>by simp[b6]
 |n+1,x,i+1,h=>by
  rw[b6,List.getElem?_cons_succ,gk (by omega),Nat.div_div_eq_div_mul,Nat.pow_succ,Nat.mul_comm 4294967296]
theorem s5 {n x:Nat} (h:x<4294967296^n):du (b6 n x)=aL x:=by
 rw[dX (nI _ _),gz h]
theorem qV {l:List Nat} {i a:Nat} (h:l[i]?=some a):natV (l.drop i)=a+4294967296*natV (l.drop (i+1)):=by rw[eo h,natV]
/-! Short division. -/
theorem Ni {a b Y:Nat} (hb:0<b) (ha:a<4294967296):(a+4294967296*Y)/b%4294967296=(Y%b*4294967296+a)/b/\(a+4294967296*Y)/b/4294967296=Y/b/\(a+4294967296*Y)%b=(Y%b*4294967296+a)%b:=by
 have h1:=Nat.div_add_mod Y b;have h2:=Nat.mod_lt Y hb;generalize hq:Y/b=q at*
 generalize hr:Y%b=r at*
 have e:a+4294967296*Y=b*(4294967296*q)+(r*4294967296+a):=by rw[<- h1];grind
 have hlt:(r*4294967296+a)/b<4294967296:=by
  rw[Nat.div_lt_iff_lt_mul hb];have:(r+1)*4294967296<=b*4294967296:=Nat.mul_le_mul_right _ (by omega);omega
 rw[e,Nat.mul_add_div hb,Nat.mul_add_mod];generalize(r*4294967296+a)/b=t at*
 refine⟨by omega,by omega,Nat.mul_add_mod _ _ _⟩
theorem Qt {l:List Nat} {i a b n:Nat} (hn:l.length=n) (hi:i<n) (ha:l[i]?=some a) (ha':a<4294967296) (hb:0<b):
  (l.take (i+1)++b6 (n-(i+1)) (natV (l.drop (i+1))/b)).set i ((natV (l.drop (i+1))%b*4294967296+a)/b)=l.take i++b6 (n-i) (natV (l.drop i)/b)/\
  (natV (l.drop (i+1))%b*4294967296+a)%b=natV (l.drop i)%b:=by
 obtain⟨h1,h2,h3⟩:=Ni (Y:=natV (l.drop (i+1))) hb ha';rw[qV ha];refine⟨?_,h3.symm⟩;rw[show n-i=n-(i+1)+1 by omega,b6,h1,h2,List.take_add_one,ha];simp only[Option.toList_some,List.append_assoc,List.singleton_append];rw[List.set_append_right _ _ (by simp;omega)];have e:i-(l.take i).length=0:=by simp;omega
 rw[e,List.set_cons_zero]
/-! Shifts. -/
theorem Cv {s:Nat} (hs:s<32):2^s<=2147483648/\1<=2^s:=⟨by have:=aD (n:=2) (by omega) (show s<=31 by omega);simpa using this,Nat.one_le_two_pow⟩
theorem NC {X Y s:Nat} (hs:s<=32):(X+18446744073709551616*Y)/2^s%4294967296=X/2^s%4294967296:=by
 have e:18446744073709551616*Y=2^s*(2^(32-s)*(4294967296*Y)):=by
  rw[<- Nat.mul_assoc,<- Nat.pow_add,show s+(32-s)=32 by omega];grind
 rw[e,Nat.add_mul_div_left _ _ (Nat.two_pow_pos s)];have e2:2^(32-s)*(4294967296*Y)=4294967296*(2^(32-s)*Y):=by grind
 rw[e2,Nat.add_mul_mod_self_left]
theorem U3 {l:List Nat} (hl:Lmb l) {i s:Nat} (hs:s<=32):natV l/2^s/4294967296^i%4294967296=(l.getD i 0+4294967296*l.getD (i+1) 0)/2^s%4294967296:=by
 have e:natV l/2^s/4294967296^i=natV (l.drop i)/2^s:=by
  rw[Nat.div_div_eq_div_mul,Nat.mul_comm,<- Nat.div_div_eq_div_mul]
  congr 1
  by_cases hi:i<=l.length
  ·have h1:natV l=natV (l.take i)+4294967296^i*natV (l.drop i):=by
    conv=>lhs;rw[<- List.take_append_drop i l]
    rw[jl,List.length_take,Nat.min_eq_left hi]
   have h2:=fG hl i;rw[h1,Nat.add_mul_div_left _ _ (Nat.pow_pos (by omega)),Nat.div_eq_of_lt h2,Nat.zero_add]
  rw[List.drop_eq_nil_iff.2 (by omega)];have h2:=fF hl;have h3:4294967296^l.length<=4294967296^i:=aD (by omega) (by omega);rw[Nat.div_eq_of_lt (by omega)];rfl
 rw[e];have g: ∀j,natV (l.drop j)=l.getD j 0+4294967296*natV (l.drop (j+1)):=fun j=>by
  rw[List.getD_eq_getElem?_getD];cases h:l[j]? with
  |none=>
   rw[List.getElem?_eq_none_iff]at h;rw[List.drop_eq_nil_iff.2 h,List.drop_eq_nil_iff.2 (by omega)];rfl
  |some a=>exact qV h
 rw[g i,g (i+1)];have e2:l.getD i 0+4294967296*(l.getD (i+1) 0+4294967296*natV (l.drop (i+1+1)))=(l.getD i 0+4294967296*l.getD (i+1) 0)+18446744073709551616*natV (l.drop (i+1+1)):=by grind
 rw[e2,NC hs]
theorem Hk {l:List Nat} (hl:Lmb l) {i s n v:Nat} (hs:s<=32) (hn:l.length=n) (hi:i<n) (hv:v=(l.getD i 0+4294967296*l.getD (i+1) 0)/2^s%4294967296):
  ((b6 n (natV l/2^s)).take i++l.drop i).set i v=(b6 n (natV l/2^s)).take (i+1)++l.drop (i+1):=by
 have hg:=gk (n:=n) (x:=natV l/2^s) hi;rw[U3 hl hs,<- hv]at hg;have hd:l.drop i=l[i]'(by omega)::l.drop (i+1):=List.drop_eq_getElem_cons (by omega);rw[List.set_append_right _ _ (by simp[bS];omega),List.take_add_one,hg,hd];have e:i-((b6 n (natV l/2^s)).take i).length=0:=by simp[bS];omega
 rw[e,List.set_cons_zero]
 simp
def wR (m:List Nat) (s i:Nat):Nat:=natV (m.take i)*2^s/4294967296^i
theorem TI {m:List Nat} (hm:Lmb m) (s i:Nat):wR m s i<2^s:=by
 unfold wR;rw[Nat.div_lt_iff_lt_mul (Nat.pow_pos (by omega)),Nat.mul_comm];exact Nat.mul_lt_mul_of_pos_left (fG hm i) (Nat.two_pow_pos s)
theorem QE {m:List Nat} {s i a:Nat} (ha:m[i]?=some a):wR m s i+a*2^s=natV (m.take (i+1))*2^s/4294967296^i/\(wR m s i+a*2^s)/4294967296=wR m s (i+1):=by
 have h1:=bG ha;have e:natV (m.take (i+1))*2^s=natV (m.take i)*2^s+4294967296^i*(a*2^s):=by rw[h1];grind
 have h2:wR m s i+a*2^s=natV (m.take (i+1))*2^s/4294967296^i:=by
  unfold wR;rw[e,Nat.add_mul_div_left _ _ (Nat.pow_pos (by omega))]
 refine⟨h2,?_⟩;rw[h2];unfold wR;rw[Nat.div_div_eq_div_mul,Nat.pow_succ]
theorem TJ {m:List Nat} {s i j:Nat} (hj:j<i) (hi:i<=m.length):natV (m.take i)*2^s/4294967296^j%4294967296=natV m*2^s/4294967296^j%4294967296:=by
 have h1:natV m=natV (m.take i)+4294967296^i*natV (m.drop i):=by
  conv=>lhs;rw[<- List.take_append_drop i m]
  rw[jl,List.length_take,Nat.min_eq_left hi]
 obtain⟨d,rfl⟩: ∃d,i=j+1+d:=⟨i-(j+1),by omega⟩;have e:natV m*2^s=natV (m.take (j+1+d))*2^s+4294967296^j*(4294967296*(4294967296^d*natV (m.drop (j+1+d))*2^s)):=by
  rw[h1,Nat.pow_add,Nat.pow_add];grind
 rw[e,Nat.add_mul_div_left _ _ (Nat.pow_pos (by omega)),Nat.add_mul_mod_self_left]
theorem yr {n x:Nat}:b6 (n+1) x=b6 n x++[x/4294967296^n%4294967296]:=by
 apply List.ext_getElem?;intro i;rcases Nat.lt_trichotomy i n with h|h|h
 ·rw[gk (by omega),List.getElem?_append_left (by rw[bS];exact h),gk h]
 ·subst h;rw[gk (by omega),List.getElem?_append_right (by rw[bS];exact ac _),bS,Nat.sub_self];rfl
 rw[List.getElem?_eq_none (by rw[bS];omega),List.getElem?_eq_none (by simp[bS];omega)]
end Go.Proofs.YtiollbhgpiiodaaGreatDoor
