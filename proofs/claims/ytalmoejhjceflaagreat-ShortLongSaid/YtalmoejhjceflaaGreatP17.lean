/-
  Part 18 of a proof (walks and plain facts).
-/
import Derived.Test.YtalmoejhjceflaaGreatP16
set_option linter.all false
set_option maxRecDepth 100000
set_option maxHeartbeats 64000000
open Nat renaming reduceAdd → aa
open Nat renaming reduceEqDiff → ab
open List renaming replicate → af
open Nat renaming reduceBEq → ag
open Nat renaming reduceLeDiff → ai
open Int renaming reduceToNat → an
open List renaming mem_of_getElem? → ax
namespace Go.Proofs.YtalmoejhjceflaaGreat
open Go.RowKit
theorem Nt (fu:FuncId) (cs1:List PV) (n c:Nat) (g:FF) (hn1:1<=n) (hn:n<=16) (hc1:1<=c) (hc:c<=16)
  (hf: ∀i j,i<n->j<c->CallC Tryz.prog fu [.raw (.int .i64 (i:Int)),.raw (.int .i64 (j:Int)),.one (.p (.ptr cs1))] ⟨[],tZ (g i j)⟩):
  CallC Tryz.prog 234 [.raw (.int .i64 (n:Int)),.raw (.int .i64 (c:Int)),.fn fu [.p (.ptr cs1)]] ⟨[],jS (mat n c g)⟩:=by
 have hN:n*c<=256:=Nat.le_trans (Nat.mul_le_mul hn hc) (by omega);have e0:IntKind.i64.wrap ((n:Int)*(c:Int))=((n*c:Nat):Int):=by rw[<- Int.natCast_mul];exact aM (by omega) (by omega)
 refine aK Tryz.func234 rfl (by kernel_rfl) ?_;rw[Tryz.ntmps234];refine aE fun _ K=>?_;simp only[kd,aa,af];apply K
 refine aE fun _ K=>?_;simp(disch:=omega) only[kd,aa,e0];apply K
 refine aE fun _ K=>?_;simp(disch:=omega) only[kd,aa,ab];apply K
 refine bu.weak ((ku 14).trans ((ku 16).trans ((iG 16 14 5016 (oa:=⟨85,1,CG 5016 n c 0⟩) (oe:=⟨65,2,lc fZ (be (n*c) (fl c (part g 0 0)))⟩) ?_ ?_ rfl (AA _ _ _ _) (bz _ _ _) (by omega) (by omega) (by omega)).trans (aF (tm:=(jk::rN c::.fn fu [.p (.ptr cs1)]::j4 (.one (.sl 5016 1 0 (n*c))::.one (.sl 5016 0 0 n)::j16 (j16 (j16 (jk::jk::[])))))) (l:=[(5016,x9 5016 n c 0 (part g 0 0))]) ⟨rfl,trivial⟩ ?_)))) ?_
 ·exact AB 5016 n c
 ·exact Ey n c g
 ·simp[wk,zq,kB]
 simp only[x9];refine aG (aE fun _ K=>?_);simp only[kd,aa];apply K;refine bH (G:=qp n) (fun q=>⟨(jk::rN c::.fn fu [.p (.ptr cs1)]::j4 (.one (.sl 5016 1 0 (n*c))::.one (.sl 5016 0 0 n)::j4 (j4 (.one (.sl 5016 0 0 n)::rN n::rN q.i::j16 (j16 (j4 (jk::jk::jk::[]))))))),Hm [(5016,x9 5016 n c q.i (part g q.i 0))]⟩) (fun q=>n-q.i) ⟨0,by omega⟩ ?_ ?_
 ·refine aF ⟨rfl,trivial⟩ ?_;simp[wk]
 rintro⟨i,hi⟩;simp only;by_cases hm:i<n
 ·have k1:i*c<(i+1)*c:=by rw[Nat.add_mul];omega
  have k2:(i+1)*c<=n*c:=Nat.mul_le_mul_right _ hm;have k3:(i+1)*c-i*c=c:=by rw[Nat.add_mul];omega
  have e1:IntKind.i64.wrap ((i:Int)*(c:Int))=((i*c:Nat):Int):=by rw[<- Int.natCast_mul];exact aM (by omega) (by omega)
  have e2:IntKind.i64.wrap (((i:Int)+1)*(c:Int))=(((i+1)*c:Nat):Int):=by
   have:((i:Int)+1)*(c:Int)=(((i+1)*c:Nat):Int):=by rw[Int.natCast_mul];rfl
   rw[this];exact aM (by omega) (by omega)
  have t1:=jB (d:=5016) (n:=n) (c:=c) (i:=i) hm;rw[if_neg (Nat.lt_irrefl i)]at t1;have t2:=Ew (d:=5016) (n:=n) (c:=c) (i:=i);have t3:=jB (d:=5016) (n:=n) (c:=c) (i:=i+1) (k:=i) hm;rw[if_pos (Nat.lt_succ_self i)]at t3;refine aE fun _ K=>?_;simp(disch:=omega) only[kd];apply K
  refine cX rfl ?_;refine aG (aP ?_);refine aE fun _ K=>?_;simp only[kd];apply K
  simp only[x9];refine aE fun _ K=>?_;simp(disch:=omega) only[kd,aa,e1,aM,e2,k1,k2,ai,k3,t1,t2];apply K
  refine aE fun _ K=>?_;simp(disch:=omega) only[kd,aa,t3];apply K
  refine bH (G:=qp c) (fun q=>⟨(jk::rN c::.fn fu [.p (.ptr cs1)]::j4 (.one (.sl 5016 1 0 (n*c))::.one (.sl 5016 0 0 n)::rN i::j4 (jk::jk::jk::.one (.sl 5016 0 0 n)::rN n::rN i::j16 (j4 (jk::jk::rN c::rN q.i::j4 (j4 (j4 (jk::jk::jk::[])))))))),Hm [(5016,x9 5016 n c (i+1) (part g i q.i))]⟩) (fun q=>c-q.i) ⟨0,by omega⟩ ?_ ?_
  ·refine aF ⟨rfl,trivial⟩ ?_;simp[wk]
  rintro⟨j,hj⟩;simp only;by_cases hm2:j<c
  ·have hS:=hf i j hm hm2;have hk:i*c+j<n*c:=by omega
   have g1:=aZ (fl c (part g i j)) hk;have g2:=IG (n:=n) (c:=c) (part g i j) (v:=g i j) hm hm2;refine aE fun _ K=>?_;simp(disch:=omega) only[kd];apply K
   refine cX rfl ?_;refine aG (aP ?_);refine aE fun _ K=>?_;simp only[kd];apply K
   simp only[x9];refine me bU [⟨8,_,_,_,hS⟩] [] (by kernel_rfl) fun _ K=>?_;simp(disch:=omega) only[kd,tZ,aa,t3,fZ,g1,DZ,g2];apply K
   show bu _ _ _ _;refine aO fun _ K=>?_;simp(disch:=omega) only[kd,aM];apply K
   refine⟨⟨j+1,by omega⟩,by simp only;omega,aF ⟨?_,trivial⟩ ?_⟩
   ·show[_,_]=[_,_];rw[oy fun a b _ _=>mD g i j a b]
   simp[wk]
  have hjc:j=c:=by omega
  subst hjc;refine aE fun _ K=>?_;simp(disch:=omega) only[kd];apply K
  refine di rfl ?_;show bu _ _ _ _;refine aO fun _ K=>?_;simp(disch:=omega) only[kd,aM];apply K
  refine⟨⟨i+1,by omega⟩,by simp only;omega,aF ⟨?_,trivial⟩ ?_⟩
  ·show[_,_]=[_,_];rw[oy fun a b _ hb=>oV g i a b hb]
  simp[wk]
 have hin:i=n:=by omega
 subst hin;refine aE fun _ K=>?_;simp(disch:=omega) only[kd];apply K
 refine di rfl ?_;show bu _ _ _ _;refine aE fun _ K=>?_;simp only[kd];apply K
 refine bu.weak ((dF 5016 (Ex rfl)).trans (aF (tm:=(j4 (jk::jk::jS (mat i c g)::j16 (j16 (j16 (j4 ([]))))))) (l:=[]) trivial ?_)) ?_
 ·have e:=Ky (c:=c) (H:=Hm [(5016,x9 5016 i c i (part g i 0))]) hc1 rfl;rw[gK fun a b ha _=>oU g a b ha]at e;simp[wk];exact e.symm
 (refine aL ⟨.inr rfl,aQ rfl ?_ rfl⟩;simp(disch:=omega) only[kd,Tryz.results234,jS])
theorem Nu (fu:FuncId) (cs1:List PV) (b:Nat) (ty:TypeId) (cs:List PV) (n c:Nat) (g:FF) (hn1:1<=n) (hn:n<=16) (hc1:1<=c) (hc:c<=16)
  (hf: ∀i j,i<n->j<c->jh Tryz.prog b ty fu [.raw (.int .i64 (i:Int)),.raw (.int .i64 (j:Int)),.one (.p (.ptr cs1)),.raw (.pointer (some ⟨b,0,none⟩))] cs ⟨[],tZ (g i j)⟩ cs):
  jh Tryz.prog b ty 234 [.raw (.int .i64 (n:Int)),.raw (.int .i64 (c:Int)),.fn fu [.p (.ptr cs1),.p (.raw (.pointer (some ⟨b,0,none⟩)))]] cs ⟨[],jS (mat n c g)⟩ cs:=by
 have hN:n*c<=256:=Nat.le_trans (Nat.mul_le_mul hn hc) (by omega);have e0:IntKind.i64.wrap ((n:Int)*(c:Int))=((n*c:Nat):Int):=by rw[<- Int.natCast_mul];exact aM (by omega) (by omega)
 refine og Tryz.func234 rfl (by kernel_rfl) ?_;rw[Tryz.ntmps234];refine bP fun _ K=>?_;simp only[kd,aa,af];apply K
 refine bP fun _ K=>?_;simp(disch:=omega) only[kd,aa,e0];apply K
 refine bP fun _ K=>?_;simp(disch:=omega) only[kd,aa,ab];apply K
 refine gP.weak ((ku 14).trans ((ku 16).trans ((iG 16 14 5016 (oa:=⟨85,1,CG 5016 n c 0⟩) (oe:=⟨65,2,lc fZ (be (n*c) (fl c (part g 0 0)))⟩) ?_ ?_ rfl (AA _ _ _ _) (bz _ _ _) (by omega) (by omega) (by omega)).trans (aF (tm:=(jk::rN c::.fn fu [.p (.ptr cs1),.p (.raw (.pointer (some ⟨b,0,none⟩)))]::j4 (.one (.sl 5016 1 0 (n*c))::.one (.sl 5016 0 0 n)::j16 (j16 (j16 (jk::jk::[])))))) (l:=[(5016,x9 5016 n c 0 (part g 0 0))]) ⟨rfl,trivial⟩ ?_)))) ?_
 ·exact AB 5016 n c
 ·exact Ey n c g
 ·simp[wk,zq,kB]
 simp only[x9];refine iy (bP fun _ K=>?_);simp only[kd,aa];apply K;refine nY (G:=qp n) (fun q=>⟨(jk::rN c::.fn fu [.p (.ptr cs1),.p (.raw (.pointer (some ⟨b,0,none⟩)))]::j4 (.one (.sl 5016 1 0 (n*c))::.one (.sl 5016 0 0 n)::j4 (j4 (.one (.sl 5016 0 0 n)::rN n::rN q.i::j16 (j16 (j4 (jk::jk::jk::[]))))))),Hm [(5016,x9 5016 n c q.i (part g q.i 0))]⟩) (fun _=>cs) (fun q=>n-q.i) ⟨0,by omega⟩ ?_ rfl ?_
 ·refine aF ⟨rfl,trivial⟩ ?_;simp[wk]
 rintro⟨i,hi⟩;simp only;by_cases hm:i<n
 ·have k1:i*c<(i+1)*c:=by rw[Nat.add_mul];omega
  have k2:(i+1)*c<=n*c:=Nat.mul_le_mul_right _ hm;have k3:(i+1)*c-i*c=c:=by rw[Nat.add_mul];omega
  have e1:IntKind.i64.wrap ((i:Int)*(c:Int))=((i*c:Nat):Int):=by rw[<- Int.natCast_mul];exact aM (by omega) (by omega)
  have e2:IntKind.i64.wrap (((i:Int)+1)*(c:Int))=(((i+1)*c:Nat):Int):=by
   have:((i:Int)+1)*(c:Int)=(((i+1)*c:Nat):Int):=by rw[Int.natCast_mul];rfl
   rw[this];exact aM (by omega) (by omega)
  have t1:=jB (d:=5016) (n:=n) (c:=c) (i:=i) hm;rw[if_neg (Nat.lt_irrefl i)]at t1;have t2:=Ew (d:=5016) (n:=n) (c:=c) (i:=i);have t3:=jB (d:=5016) (n:=n) (c:=c) (i:=i+1) (k:=i) hm;rw[if_pos (Nat.lt_succ_self i)]at t3;refine bP fun _ K=>?_;simp(disch:=omega) only[kd];apply K
  refine wP rfl ?_;refine iy (jU ?_);refine bP fun _ K=>?_;simp only[kd];apply K
  simp only[x9];refine bP fun _ K=>?_;simp(disch:=omega) only[kd,aa,e1,aM,e2,k1,k2,ai,k3,t1,t2];apply K
  refine bP fun _ K=>?_;simp(disch:=omega) only[kd,aa,t3];apply K
  refine nY (G:=qp c) (fun q=>⟨(jk::rN c::.fn fu [.p (.ptr cs1),.p (.raw (.pointer (some ⟨b,0,none⟩)))]::j4 (.one (.sl 5016 1 0 (n*c))::.one (.sl 5016 0 0 n)::rN i::j4 (jk::jk::jk::.one (.sl 5016 0 0 n)::rN n::rN i::j16 (j4 (jk::jk::rN c::rN q.i::j4 (j4 (j4 (jk::jk::jk::[])))))))),Hm [(5016,x9 5016 n c (i+1) (part g i q.i))]⟩) (fun _=>cs) (fun q=>c-q.i) ⟨0,by omega⟩ ?_ rfl ?_
  ·refine aF ⟨rfl,trivial⟩ ?_;simp[wk]
  rintro⟨j,hj⟩;simp only;by_cases hm2:j<c
  ·have hS:=hf i j hm hm2;have hk:i*c+j<n*c:=by omega
   have g1:=aZ (fl c (part g i j)) hk;have g2:=IG (n:=n) (c:=c) (part g i j) (v:=g i j) hm hm2;refine bP fun _ K=>?_;simp(disch:=omega) only[kd];apply K
   refine wP rfl ?_;refine iy (jU ?_);refine bP fun _ K=>?_;simp only[kd];apply K
   simp only[x9];refine rS bU 8 hS [] [] (by kernel_rfl) (by kernel_rfl) (by rfl) (by rfl) fun _ K=>?_;simp(disch:=omega) only[kd,tZ,aa,t3,fZ,g1,DZ,g2];apply K
   show gP _ _ _ _ _ _ _;refine mf fun _ K=>?_;simp(disch:=omega) only[kd,aM];apply K
   refine⟨⟨j+1,by omega⟩,by simp only;omega,aF ⟨?_,trivial⟩ ?_,rfl⟩
   ·show[_,_]=[_,_];rw[oy fun a b _ _=>mD g i j a b]
   simp[wk]
  have hjc:j=c:=by omega
  subst hjc;refine bP fun _ K=>?_;simp(disch:=omega) only[kd];apply K
  refine wO rfl ?_;show gP _ _ _ _ _ _ _;refine mf fun _ K=>?_;simp(disch:=omega) only[kd,aM];apply K
  refine⟨⟨i+1,by omega⟩,by simp only;omega,aF ⟨?_,trivial⟩ ?_,rfl⟩
  ·show[_,_]=[_,_];rw[oy fun a b _ hb=>oV g i a b hb]
  simp[wk]
 have hin:i=n:=by omega
 subst hin;refine bP fun _ K=>?_;simp(disch:=omega) only[kd];apply K
 refine wO rfl ?_;show gP _ _ _ _ _ _ _;refine bP fun _ K=>?_;simp only[kd];apply K
 refine gP.weak ((dF 5016 (Ex rfl)).trans (aF (tm:=(j4 (jk::jk::jS (mat i c g)::j16 (j16 (j16 (j4 ([]))))))) (l:=[]) trivial ?_)) ?_
 ·have e:=Ky (c:=c) (H:=Hm [(5016,x9 5016 i c i (part g i 0))]) hc1 rfl;rw[gK fun a b ha _=>oU g a b ha]at e;simp[wk];exact e.symm
 (refine Dr ⟨.inr rfl,rfl,aQ rfl ?_ rfl⟩;simp(disch:=omega) only[kd,Tryz.results234,jS])
theorem Fu (a b:Nat) (hb:0<b) (la:(aY a).length<=268435456) (lb:(aY b).length<=268435456):CallC Tryz.prog 169 [bS (aY a),bS (aY b)] ⟨[],Fb a b⟩:=by
 have hc:=sK (aY a) (aY b) (bK _) (bK _) (dD _) (dD _) (by omega) (by omega);rw[a8,a8]at hc;by_cases hlt:a<b
 ·rw[w9 hlt]at hc;have hcl:=zl (aY a) (by omega);unfold Fb;rw[Nat.div_eq_of_lt hlt,Nat.mod_eq_of_lt hlt,da];refine aK Tryz.func169 rfl (by kernel_rfl) ?_;rw[Tryz.ntmps169];refine aE fun _ K=>?_;simp only[kd,bS,aa,af];apply K
  refine aG (aP ?_);refine aI [⟨2,_,_,_,hc⟩] [] fun _ K=>?_;simp(disch:=omega) only[kd,bS,aa];apply K
  refine bo rfl ?_;refine aI [⟨1,_,_,_,hcl⟩] [] fun _ K=>?_;simp only[kd,bS,aa];apply K
  refine aL ⟨.inr rfl,Qe 4 rfl rfl ?_ rfl⟩;simp(disch:=omega) only[kd,Tryz.results169]
 obtain⟨c,hcv,hc0⟩: ∃c,c=mL a b/\0<=c:=⟨_,rfl,LW (by omega)⟩;rw[<- hcv]at hc;clear hcv;by_cases hs:(aY a).length<=2
 ·have sb:(aY b).length<=2:=Nat.le_trans (xq (show b<=a by omega)) hs;have ua:=lP hs;have ub:=lP sb;have h1:=oF (aY a) (bK _) hs;have h2:=oF (aY b) (bK _) sb;rw[a8]at h1 h2;have hq:a/b<=a:=Nat.div_le_self _ _;have hr:a%b<b:=Nat.mod_lt _ hb;have h3:=ig (a/b) (by omega);have h4:=ig (a%b) (by omega);have hb0:(b:Int)≠0:=by omega
  have e1:IntKind.u64.wrap (Int.tdiv (a:Int) (b:Int))=((a/b:Nat):Int):=by
   rw[Int.tdiv_eq_ediv_of_nonneg (by omega),<- Int.natCast_ediv];generalize a/b=q at*;rw[IntKind.wrap_u64];omega
  have e2:Int.tmod (a:Int) (b:Int)=((a%b:Nat):Int):=by
   rw[Int.tmod_eq_emod_of_nonneg (by omega),<- Int.natCast_emod]
  unfold Fb;generalize a/b=q at*
  generalize a%b=r at*
  refine aK Tryz.func169 rfl (by kernel_rfl) ?_;rw[Tryz.ntmps169];refine aE fun _ K=>?_;simp only[kd,bS,aa,af];apply K
  refine aG (aP ?_);refine aI [⟨2,_,_,_,hc⟩] [] fun _ K=>?_;simp(disch:=omega) only[kd,bS,aa];apply K
  refine aU rfl ?_;refine aE fun _ K=>?_;simp(disch:=omega) only[kd,aa];apply K
  refine bo rfl ?_;refine aI [⟨1,_,_,_,h1⟩,⟨3,_,_,_,h2⟩] [] fun _ K=>?_;simp only[kd,bS,aa,ag];apply K
  refine gp bU [⟨3,_,_,_,h3⟩,⟨7,_,_,_,h4⟩] [] (by kernel_rfl) fun _ K=>?_;simp only[kd,bS,aa,ne_eq,hb0,not_false_eq_true,e1,e2,ag];apply K
  (refine aL ⟨.inr rfl,aQ rfl ?_ rfl⟩;simp(disch:=omega) only[kd,Tryz.results169])
 by_cases h1:(aY b).length=1
 ·obtain⟨g0,b32⟩:=Fz h1;have hcl:=Fs (aY a) (by omega) (by omega);have hw:=rh (aY a) b (bK _) hb b32 (by omega) (by omega);rw[a8]at hw;have hq:a/b<4294967296^(aY a).length:=Nat.lt_of_le_of_lt (Nat.div_le_self _ _) (zz a);have hr:a%b<b:=Nat.mod_lt _ hb;have ht:=dO (bL (aY a).length (a/b)) (by rw[bE];omega);rw[qm hq]at ht;have hf:=ig (a%b) (by omega);have hpl:=bE (aY a).length (a/b);unfold Fb;generalize a%b=r at*
  generalize bL (aY a).length (a/b)=R at*
  generalize a/b=q at*
  have e1:IntKind.u64.wrap (r:Int)=(r:Int):=by rw[IntKind.wrap_u64];omega
  refine aK Tryz.func169 rfl (by kernel_rfl) ?_;rw[Tryz.ntmps169];refine aE fun _ K=>?_;simp only[kd,bS,aa,af];apply K
  refine aG (aP ?_);refine aI [⟨2,_,_,_,hc⟩] [] fun _ K=>?_;simp(disch:=omega) only[kd,bS,aa];apply K
  refine aU rfl ?_;refine aE fun _ K=>?_;simp(disch:=omega) only[kd,aa];apply K
  refine aU rfl ?_;refine aE fun _ K=>?_;simp(disch:=omega) only[kd,aa];apply K
  refine bo rfl ?_;refine aI [⟨1,_,_,_,hcl⟩] [] fun _ K=>?_;simp only[kd,bS,aa];apply K
  (refine rP 4 hw 41 0 [] [] (by simp[wk]) (by omega) (nB rfl) (dJ _ _) (by simp[wk]) (by decide) fun K hK=>?_;simp(disch:=omega) only[kd,aa,an,g0];apply hK;refine⟨⟨rfl,rfl⟩,by simp,?_⟩;intro K hK;simp only[kd,aa,Pj,jY];apply hK)
  refine bu.weak ((dF 41 (dR rfl)).trans (aF (tm:=(j4 (bS R::jk::jk::jk::.raw (.int .u32 (r:Int))::j16 (j16 (j16 (j16 (j16 (j4 (j4 (j4 (jk::jk::jk::[]))))))))))) (l:=[]) trivial (by simp[wk,eZ,dI,aJ,Hm,gQ,ij,List.take_of_length_le,hpl]))) ?_;refine aI [⟨1,_,_,_,ht⟩,⟨4,_,_,_,hf⟩] [] fun _ K=>?_;simp only[kd,bS,aa,e1,ag];apply K
  (refine aL ⟨.inr rfl,aQ rfl ?_ rfl⟩;simp(disch:=omega) only[kd,Tryz.results169])
 obtain⟨n,hn⟩: ∃n,(aY b).length=n+2:=⟨(aY b).length-2,by have:=i5 (n:=b);omega⟩;obtain⟨m,hm⟩: ∃m,(aY a).length=n+2+m:=⟨(aY a).length-(n+2),by have:=xq (show b<=a by omega);omega⟩;obtain⟨x,hx,hx0,hx32,hbl⟩:=AE (n:=n+1) hn;have hz:=RC x hx32;obtain⟨z1,z2,z3⟩:=Mx hx0 hx32;obtain⟨s,hsz⟩: ∃s,s=lz x:=⟨_,rfl⟩;rw[<- hsz]at hz z1 z2 z3;clear hsz;obtain⟨V1,V2⟩:=Nj hn hx ⟨z2,z3⟩ z1;have hp2:=Nat.two_pow_pos s;have hV:0<b*2^s:=Nat.mul_pos hb hp2;have iu:=oE (aY b) s (bK _) z1 (by omega);have sl2:=oE (aY a) s (bK _) z1 (by omega);rw[a8,hn]at iu;rw[a8,hm]at sl2;have ha':=zz a;rw[hm]at ha';obtain⟨st1,st2⟩:=Gc (s:=s) ha' hbl;have hA:a*2^s<b*2^s*4294967296^(m+1):=by
  have h2:4294967296^(n+2+m)<=b*4294967296^(m+1):=by
   have e:4294967296^(n+2+m)=4294967296^(n+1)*4294967296^(m+1):=by rw[<- Nat.pow_add];congr 1;omega
   rw[e];exact Nat.mul_le_mul_right _ hbl
  rw[Nat.mul_right_comm];exact Nat.mul_lt_mul_of_pos_right (Nat.lt_of_lt_of_le ha' h2) hp2
 obtain⟨en1,en2⟩:=M7 (a:=a) (b:=b) (s:=s);have e1:((n+2:Nat):Int)-1=((n+1:Nat):Int):=by omega
 have e2:((n+2+m:Nat):Int)-((n+2:Nat):Int)=(m:Int):=by omega
 have e3:(m:Int)+1=((m+1:Nat):Int):=by omega
 have tk:=F4 (x:=b*2^s) (show n+2<=n+2+1 by omega);have kdh:=fun k=>PM (A:=a*2^s) (k:=k) V1 V2
 have hQ: ∀k,k<=m+1->j8 (a*2^s) (b*2^s) k<4294967296^(m+1):=fun k hk=>Qa hA hk
 have hend:a%b*2^s<4294967296^(n+2+m+1):=by
  have h3:a%b<b:=Nat.mod_lt _ hb;have h4:a%b*2^s<=b*2^s:=Nat.mul_le_mul_right _ (Nat.le_of_lt h3);have h5:4294967296^(n+2)<=4294967296^(n+2+m+1):=Nat.pow_le_pow_right (by omega) (by omega);omega
 have hmod:a%b<4294967296^(n+2+m+1):=Nat.lt_of_le_of_lt (Nat.le_mul_of_pos_right _ hp2) hend;have hrw:=fun k (hk:k<=m)=>J7 (A:=a*2^s) (V:=b*2^s) (k:=k) (nb:=n+2) (na:=n+2+m) hV (Nat.le_of_lt V1) (by omega)
 have hrr:=fun k (hk:k<=m)=>M8 (A:=a*2^s) (V:=b*2^s) (k:=k) (nb:=n+2) (na:=n+2+m) (by omega)
 have hqs:=fun k (hk:k<=m)=>MY (A:=a*2^s) (V:=b*2^s) (k:=k) (m:=m+1) hV (by omega) (hQ _ (by omega))
 have hdiv:a/b<4294967296^(m+1):=by have:=hQ 0 (by omega);rwa[en2]at this
 have sr:=uP (bL (n+2+m+1) (a%b*2^s)) s (lQ _ _) z1 (by rw[bE];omega) (by rw[bE];omega);rw[fd hend,bE,Nat.mul_div_cancel _ hp2]at sr;have ht1:=dO (bL (m+1) (a/b)) (by rw[bE];omega);rw[qm hdiv]at ht1;have ht2:=dO (bL (n+2+m+1) (a%b)) (by rw[bE];omega);rw[qm hmod]at ht2;have hlV:=bE (n+2) (b*2^s);refine aK Tryz.func169 rfl (by kernel_rfl) ?_;rw[Tryz.ntmps169];refine aE fun _ K=>?_;simp only[kd,bS,aa,af];apply K
 refine aG (wK (S:=⟨(bS (aY a)::bS (aY b)::j16 (j16 (j16 (j16 (j16 (j16 (j4 (jk::jk::[])))))))),Hm []⟩) (aP ?_) ?_)
 ·refine aI [⟨2,_,_,_,hc⟩] [] fun _ K=>?_;simp(disch:=omega) only[kd,bS,aa];apply K
  refine aU rfl ?_;refine aE fun _ K=>?_;simp(disch:=omega) only[kd,aa];apply K
  refine aU rfl ?_;refine aE fun _ K=>?_;simp(disch:=omega) only[kd,aa];apply K
  refine gT rfl (fun h=>by simp at h<;>omega) (fun _=>aR (aF trivial ?_));simp[wk]
 refine aI [⟨6,_,_,_,hz⟩] [] fun _ K=>?_;simp(disch:=omega) only[kd,aa,bS,hn,e1,aM,hx];apply K
 refine aI [⟨2,_,_,_,iu⟩] [] fun _ K=>?_;simp(disch:=omega) only[kd,bS,aa,hn,ai,reduceCtorEq];apply K
 refine bu.weak ((dF 61 (dR rfl)).trans (aF (tm:=(bS (aY a)::bS (aY b)::j4 (jk::jk::jk::rN s::bS (bL (n+2) (b*2^s))::j16 (j16 (j16 (j16 (j16 (j4 (j4 (j4 (jk::[]))))))))))) (l:=[]) trivial (by simp[wk,eZ,dI,aJ,Hm,gQ,ij,tk]))) ?_;generalize hvv:bL (n+2) (b*2^s)=vv at*
 refine aI [⟨2,_,_,_,sl2⟩] [] fun _ K=>?_;simp only[kd,bS,aa];apply K
 refine aE fun _ K=>?_;simp(disch:=omega) only[kd,aa,hm,hn,e2,aM,e3,oJ,ab];apply K
 refine aG (aE fun _ K=>?_);simp(disch:=omega) only[kd,aa,hm,hn,e2,aM];apply K;generalize hAe:a*2^s=A at*
 generalize hVe:b*2^s=V at*
 refine bH (G:=qp (m+1)) (fun g=>⟨(jk::bS (aY b)::jk::jk::.one (.sl 74 0 0 (m+1))::j4 (.raw (.int .i64 (s:Int))::bS vv::.one (.sl 67 0 0 (n+2+m+1))::.raw (.int .i64 ((g.i:Int)-1))::j16 (j16 (j16 (j16 (j16 (j4 (j4 (jk::jk::jk::[]))))))))),Hm [(67,[⟨165,1,lc fU (bL (n+2+m+1) (dV A V g.i))⟩]),(74,[⟨165,1,lc fU (bL (m+1) (j8 A V g.i))⟩])]⟩) (fun g=>g.i) ⟨m+1,by omega⟩ ?_ ?_
 ·refine aF ⟨?_,?_,trivial⟩ ?_
  ·simp[st1,aJ,Hm]
  ·simp[st2,aJ,Hm,vX]
  simp[wk]
 rintro⟨i,hi⟩;simp only;by_cases h0:0<i
 ·obtain⟨k,rfl⟩: ∃k,i=k+1:=⟨i-1,by omega⟩;have hk:k<=m:=by omega
  have ek:((k+1:Nat):Int)-1=(k:Int):=by omega
  have ek2:(k:Int)+((n+2:Nat):Int)+1=((k+n+3:Nat):Int):=by omega
  have ek3:k+n+3-k=n+3:=by omega
  obtain⟨v1,v2,u2,u1,u0,K,nU,nV⟩:=kdh k;have w1:=hrw k hk;have w2:=hrr k hk;rw[show n+2+1=n+3 from rfl]at w1 w2;have w3:=hqs k hk;have gq:=eJ (x:=j8 A V (k+1)) (show k<m+1 by omega);have hds:=uO (bL k (dV A V (k+1))) _ (bL (n+2+m-(k+(n+2))) (dV A V (k+1)/4294967296^(k+(n+2)+1))) _ k n v1 v2 u2 u1 u0 (bE _ _) K (by rw[<- w2,bE];omega);rw[nU,nV]at hds;rw[w1,<- w2]at hds;have qd:=oY (A:=A) (k:=k) hV;have l1:=bE (m+1) (j8 A V (k+1));have l2:=bE (n+2+m+1) (dV A V (k+1));obtain⟨R',hR'⟩: ∃R',R'=bL (n+2+m+1) (dV A V k):=⟨_,rfl⟩;obtain⟨Q',hQ'⟩: ∃Q',Q'=bL (m+1) (j8 A V k):=⟨_,rfl⟩;rw[<- hR']at hds;rw[<- hQ']at w3;clear w1 w2 K nU nV;generalize dV A V (k+1)/4294967296^k/V=d at*
  generalize j8 A V (k+1)/4294967296^k%4294967296=od at*
  generalize bL (m+1) (j8 A V (k+1))=Q0 at*
  generalize bL (n+2+m+1) (dV A V (k+1))=R0 at*
  refine aG (aE fun _ K=>?_);simp(disch:=omega) only[kd,bS,ek];apply K;refine bo rfl (aR ?_);refine aG (aP ?_)
  ((refine A8 11 hds 67 0 [] [] (by simp[wk]) (by omega) (nB rfl) (dJ _ _) (by simp[wk]) (by decide) fun K hK=>?_);simp(disch:=omega) only[kd,aa,hn,aM,ek2,ab,ai,ek3];apply hK;refine⟨⟨rfl,rfl⟩,by simp,?_⟩;intro K hK;simp(disch:=omega) only[kd,aa,Pj,jY,ab,gq,dy,w3];apply hK)
  show bu _ _ _ _;refine aO fun _ K=>?_;simp(disch:=omega) only[kd,aa,aM];apply K
  refine⟨⟨k,by omega⟩,by simp only;omega,aF ⟨?_,?_,trivial⟩ ?_⟩
  ·simp[aJ,Hm,hR']
  ·simp[aJ,Hm,hQ']
  simp[wk]
 have hi0:i=0:=by omega
 subst hi0;rw[en1,en2];generalize bL (n+2+m+1) (a%b*2^s)=R0 at*
 unfold Fb;have l1:=bE (m+1) (a/b);have l2:=bE (n+2+m+1) (a%b);generalize bL (n+2+m+1) (a%b)=R1 at*
 generalize bL (m+1) (a/b)=Q1 at*
 generalize a/b=q at*
 generalize a%b=r at*
 refine aG (aE fun _ K=>?_);simp(disch:=omega) only[kd,bS];apply K;refine aU rfl (cK ?_);show bu _ _ _ _
 (refine rP 2 sr 67 0 [] [] (by simp[wk]) (by omega) (nB rfl) (dJ _ _) (by simp[wk]) (by decide) fun K hK=>?_;simp only[kd];apply hK;refine⟨⟨rfl,rfl⟩,by simp,?_⟩;intro K hK;simp only[kd,aa,Pj,jY,ab];apply hK)
 refine bu.weak ((dF 67 (dR rfl)).trans ((dF 74 (dR rfl)).trans (aF (tm:=(j4 (bS Q1::j4 (jk::jk::bS R1::j16 (j16 (j16 (j16 (j16 (j4 (j4 (j4 ([])))))))))))) (l:=[]) trivial (by simp[wk,eZ,dI,aJ,Hm,gQ,ij,List.take_of_length_le,l1,l2])))) ?_;refine aI [⟨1,_,_,_,ht1⟩,⟨3,_,_,_,ht2⟩] [] fun _ K=>?_;simp only[kd,bS,aa,ag];apply K
 (refine aL ⟨.inr rfl,aQ rfl ?_ rfl⟩;simp(disch:=omega) only[kd,Tryz.results169])
theorem Ps {a b:Int} (hb:b≠0) (ha:0<=a):a/b=iq (decide (b<0)) (a.natAbs/b.natAbs)/\a%b=iq false (a.natAbs%b.natAbs):=by
 have e1:tr a b=iq false (a.natAbs%b.natAbs):=by unfold tr;rw[decide_eq_false (by omega)]
 have e2:tq a b=iq (decide (b<0)) (a.natAbs/b.natAbs):=by unfold tq;rw[decide_eq_false (show ¬a<0 by omega)];by_cases h:b<0<;>simp[h]
 rw[<- e1,<- e2];exact Ir hb (by rw[e1];unfold iq;simp;omega)
theorem Mc {a b:Int} (hb:b≠0) (ha:a<0) (h:a.natAbs%b.natAbs=0):a/b=iq (!decide (b<0)) (a.natAbs/b.natAbs)/\a%b=iq false (a.natAbs%b.natAbs):=by
 have e1:tr a b=iq false (a.natAbs%b.natAbs):=by unfold tr;rw[h];unfold iq;simp
 have e2:tq a b=iq (!decide (b<0)) (a.natAbs/b.natAbs):=by unfold tq;rw[decide_eq_true ha];by_cases h:b<0<;>simp[h]
 rw[<- e1,<- e2];exact Ir hb (by rw[e1,h];unfold iq;simp)
theorem Pr {a b:Int} (hb:b≠0) (ha:a<0) (h:a.natAbs%b.natAbs≠0):a/b=iq (!decide (b<0)) (a.natAbs/b.natAbs+1)/\a%b=iq false (b.natAbs-a.natAbs%b.natAbs):=by
 have e1:tr a b= -((a.natAbs%b.natAbs:Nat):Int):=by unfold tr;rw[decide_eq_true ha];rfl
 have hlt:a.natAbs%b.natAbs<b.natAbs:=Nat.mod_lt _ (by omega);by_cases hbn:b<0
 ·obtain⟨p1,p2⟩:=L6 (a:=a) hbn (by rw[e1];omega);have e2:tq a b=((a.natAbs/b.natAbs:Nat):Int):=by unfold tq;rw[decide_eq_true ha,decide_eq_true hbn];rfl
  rw[p1,p2,e1,e2,decide_eq_true hbn];generalize a.natAbs/b.natAbs=q at*
  generalize a.natAbs%b.natAbs=r at*
  unfold iq;constructor<;>simp<;>omega
 obtain⟨p1,p2⟩:=L7 (a:=a) (show 0<b by omega) (by rw[e1];omega);have e2:tq a b= -((a.natAbs/b.natAbs:Nat):Int):=by unfold tq;rw[decide_eq_true ha,decide_eq_false hbn];rfl
 rw[p1,p2,e1,e2,decide_eq_false hbn];generalize a.natAbs/b.natAbs=q at*
 generalize a.natAbs%b.natAbs=r at*
 unfold iq;constructor<;>simp<;>omega
def Bd (z:Int):Prop:=Sz z 268435456
theorem Ft (a b:Int) (hb0:b≠0) (ha:Bd a) (hb:Bd b):CallC Tryz.prog 120 [tZ a,tZ b] ⟨[],.tup [(true,cZ (a/b)),(true,cZ (a%b)),(false,[.p (.raw (.bool true))])]⟩:=by
 have la:(aY a.natAbs).length<=268435456:=j3 ha;have lb:(aY b.natAbs).length<=268435456:=j3 hb;have t1:=dO (aY a.natAbs) (by omega);have t2:=dO (aY b.natAbs) (by omega);rw[mK]at t1 t2;have hl0:(aY b.natAbs).length≠0:=fun h=>hb0 (by have:=i5.1 h;omega)
 have hd:=Fu a.natAbs b.natAbs (by omega) la lb;unfold Fb at hd;have hr0:=i5 (n:=a.natAbs%b.natAbs);have hlt:a.natAbs%b.natAbs<b.natAbs:=Nat.mod_lt _ (by omega);have lq:=xq (show a.natAbs/b.natAbs<=a.natAbs from Nat.div_le_self _ _);have lr:=xq (Nat.le_of_lt hlt);by_cases han:a<0
 ·by_cases hr:a.natAbs%b.natAbs=0
  ·obtain⟨p1,p2⟩:=Mc hb0 han hr;have h8:=dS (!decide (b<0)) (a.natAbs/b.natAbs);have h9:=dS false (a.natAbs%b.natAbs);rw[<- p1]at h8;rw[<- p2]at h9;have hl:(aY (a.natAbs%b.natAbs)).length=0:=hr0.2 hr;clear p1 p2;generalize a.natAbs/b.natAbs=q at*
   generalize a.natAbs%b.natAbs=r at*
   generalize a/b=Q at*
   generalize a%b=R at*
   refine aK Tryz.func120 rfl (by kernel_rfl) ?_;rw[Tryz.ntmps120];refine aE fun _ K=>?_;simp(disch:=omega) only[kd,aa,tZ,af,ab];apply K
   refine aI [⟨2,_,_,_,t2⟩] [] fun _ K=>?_;simp(disch:=omega) only[kd,bS,aa,ab];apply K
   refine aG (aE fun _ K=>?_);simp(disch:=omega) only[kd,aa];apply K;refine aU rfl (aR ?_);show bu _ _ _ _;refine aI [⟨2,_,_,_,t1⟩,⟨4,_,_,_,hd⟩] [] fun _ K=>?_;simp(disch:=omega) only[kd,bS,aa,ab,ag];apply K
   refine aE fun _ K=>?_;simp(disch:=omega) only[kd,aa,ab];apply K
   refine aG (aP ?_);refine aG (aP ?_);refine aG (aP ?_);refine aG (aG (aE fun _ K=>?_));simp(disch:=omega) only[kd,aa,ab];apply K;refine aU rfl (aR ?_);show bu _ _ _ _;refine aE fun _ K=>?_;simp(disch:=omega) only[kd,aa,ab];apply K
   refine bo rfl (cK ?_);show bu _ _ _ _;refine aE fun _ K=>?_;simp only[kd,aa];apply K
   refine cK ?_;show bu _ _ _ _;refine aI [⟨2,_,_,_,h8⟩,⟨4,_,_,_,h9⟩] [] fun _ K=>?_;simp(disch:=omega) only[kd,bS,tZ,aa,ag,ab];apply K
   (refine aL ⟨.inr rfl,aQ rfl ?_ rfl⟩;simp(disch:=omega) only[kd,Tryz.results120,ab,aa,cZ])
  obtain⟨p1,p2⟩:=Pr hb0 han hr;have h6:=vH (aY (a.natAbs/b.natAbs)) [1] (bK _) (by intro x hx;simp at hx;omega) (by omega) (by simp);rw[a8,show natV [1]=1 from rfl,show bS [1]= .one (.p (.sl [[.raw (.int .u32 1)]]))from rfl]at h6;have h7:=pQ (aY b.natAbs) (aY (a.natAbs%b.natAbs)) (bK _) (bK _) lr (by rw[a8,a8];omega) (by omega);rw[a8,a8]at h7;have h8:=dS (!decide (b<0)) (a.natAbs/b.natAbs+1);have h9:=dS false (b.natAbs-a.natAbs%b.natAbs);rw[<- p1]at h8;rw[<- p2]at h9;have hl:(aY (a.natAbs%b.natAbs)).length≠0:=fun h=>hr (hr0.1 h)
  clear p1 p2;generalize b.natAbs-a.natAbs%b.natAbs=br at*
  generalize a.natAbs/b.natAbs=q at*
  generalize a.natAbs%b.natAbs=r at*
  generalize a/b=Q at*
  generalize a%b=R at*
  refine aK Tryz.func120 rfl (by kernel_rfl) ?_;rw[Tryz.ntmps120];refine aE fun _ K=>?_;simp(disch:=omega) only[kd,aa,tZ,af,ab];apply K
  refine aI [⟨2,_,_,_,t2⟩] [] fun _ K=>?_;simp(disch:=omega) only[kd,bS,aa,ab];apply K
  refine aG (aE fun _ K=>?_);simp(disch:=omega) only[kd,aa];apply K;refine aU rfl (aR ?_);show bu _ _ _ _;refine aI [⟨2,_,_,_,t1⟩,⟨4,_,_,_,hd⟩] [] fun _ K=>?_;simp(disch:=omega) only[kd,bS,aa,ab,ag];apply K
  refine aE fun _ K=>?_;simp(disch:=omega) only[kd,aa,ab];apply K
  refine aG (aP ?_);refine aG (aP ?_);refine aG (aP ?_);refine aG (aG (aE fun _ K=>?_));simp(disch:=omega) only[kd,aa,ab];apply K;refine bo rfl (cK ?_);show bu _ _ _ _;refine aI [⟨2,_,_,_,h6⟩] [] fun _ K=>?_;simp(disch:=omega) only[kd,bS,aa,Nat.reduceMul,ai];apply K
  refine li [⟨2,_,_,_,h7⟩] [] fun _ K=>?_;simp only[kd,bS,aa];apply K
  show bu _ _ _ _;refine aE fun _ K=>?_;simp only[kd,aa];apply K
  refine cK ?_;show bu _ _ _ _;refine aI [⟨2,_,_,_,h8⟩,⟨4,_,_,_,h9⟩] [] fun _ K=>?_;simp(disch:=omega) only[kd,bS,tZ,aa,ag,ab];apply K
  (refine aL ⟨.inr rfl,aQ rfl ?_ rfl⟩;simp(disch:=omega) only[kd,Tryz.results120,ab,aa,cZ])
 obtain⟨p1,p2⟩:=Ps hb0 (show 0<=a by omega);have h8:=dS (decide (b<0)) (a.natAbs/b.natAbs);have h9:=dS false (a.natAbs%b.natAbs);rw[<- p1]at h8;rw[<- p2]at h9;clear p1 p2;generalize a.natAbs/b.natAbs=q at*
 generalize a.natAbs%b.natAbs=r at*
 generalize a/b=Q at*
 generalize a%b=R at*
 refine aK Tryz.func120 rfl (by kernel_rfl) ?_;rw[Tryz.ntmps120];refine aE fun _ K=>?_;simp(disch:=omega) only[kd,aa,tZ,af,ab];apply K
 refine aI [⟨2,_,_,_,t2⟩] [] fun _ K=>?_;simp(disch:=omega) only[kd,bS,aa,ab];apply K
 refine aG (aE fun _ K=>?_);simp(disch:=omega) only[kd,aa];apply K;refine aU rfl (aR ?_);show bu _ _ _ _;refine aI [⟨2,_,_,_,t1⟩,⟨4,_,_,_,hd⟩] [] fun _ K=>?_;simp(disch:=omega) only[kd,bS,aa,ab,ag];apply K
 refine aE fun _ K=>?_;simp(disch:=omega) only[kd,aa,ab];apply K
 refine aG (aP ?_);refine aG (aP ?_);refine aG (aP ?_);refine aG (aG (aE fun _ K=>?_));simp(disch:=omega) only[kd,aa,ab];apply K;refine aU rfl (aR ?_);show bu _ _ _ _;refine aE fun _ K=>?_;simp(disch:=omega) only[kd,aa,ab];apply K
 refine aU rfl (aR ?_);refine cK ?_;show bu _ _ _ _;refine aI [⟨2,_,_,_,h8⟩,⟨4,_,_,_,h9⟩] [] fun _ K=>?_;simp(disch:=omega) only[kd,bS,tZ,aa,ag,ab];apply K
 (refine aL ⟨.inr rfl,aQ rfl ?_ rfl⟩;simp(disch:=omega) only[kd,Tryz.results120,ab,aa,cZ])
structure SK (M:List (List Int)) where
 i:Nat
 hi:i<=M.length
 ok: ∀r∈M.take i,r.length=(M.headD []).length
theorem Km (M:List (List Int)):CallC Tryz.prog 230 [ch M] ⟨[],Q2 M⟩:=by
 by_cases h1:M.length<1
 ·rw[jR (fun h=>by have:=h.1;omega)];refine aK Tryz.func230 rfl (by kernel_rfl) ?_;rw[Tryz.ntmps230];refine aE fun _ K=>?_;simp only[kd,aa,ch,af];apply K
  refine aG (aE fun _ K=>?_);simp(disch:=omega) only[kd,aa,reduceCtorEq];apply K;refine bo rfl ?_;refine aE fun _ K=>?_;simp only[kd,aa];apply K
  (refine aL ⟨.inr rfl,aQ rfl ?_ rfl⟩;simp(disch:=omega) only[kd,Tryz.results230])
 by_cases h2:16<M.length
 ·rw[jR (fun h=>by have:=h.2.1;omega)];refine aK Tryz.func230 rfl (by kernel_rfl) ?_;rw[Tryz.ntmps230];refine aE fun _ K=>?_;simp only[kd,aa,ch,af];apply K
  refine aG (aE fun _ K=>?_);simp(disch:=omega) only[kd,aa];apply K;refine bo rfl ?_;refine aE fun _ K=>?_;simp only[kd,aa];apply K
  (refine aL ⟨.inr rfl,aQ rfl ?_ rfl⟩;simp(disch:=omega) only[kd,Tryz.results230])
 have h0:=oD (M:=M) (by omega);have hmem0:M.headD []∈M:=ax h0;by_cases c1:(M.headD []).length<1
 ·rw[jR (fun h=>by have:=(h.2.2 _ hmem0).1;omega)];refine aK Tryz.func230 rfl (by kernel_rfl) ?_;rw[Tryz.ntmps230];refine aE fun _ K=>?_;simp only[kd,aa,ch,af];apply K
  refine aG (aE fun _ K=>?_);simp(disch:=omega) only[kd,aa];apply K;refine aU rfl (aR ?_);show bu _ _ _ _;refine aE fun _ K=>?_;simp(disch:=omega) only[kd,aa,an,h0,fR];apply K
  refine aG (aE fun _ K=>?_);simp(disch:=omega) only[kd,aa,reduceCtorEq];apply K;refine bo rfl ?_;refine aE fun _ K=>?_;simp only[kd,aa];apply K
  (refine aL ⟨.inr rfl,aQ rfl ?_ rfl⟩;simp(disch:=omega) only[kd,Tryz.results230])
 by_cases c2:16<(M.headD []).length
 ·rw[jR (fun h=>by have:=(h.2.2 _ hmem0).2.1;omega)];refine aK Tryz.func230 rfl (by kernel_rfl) ?_;rw[Tryz.ntmps230];refine aE fun _ K=>?_;simp only[kd,aa,ch,af];apply K
  refine aG (aE fun _ K=>?_);simp(disch:=omega) only[kd,aa];apply K;refine aU rfl (aR ?_);show bu _ _ _ _;refine aE fun _ K=>?_;simp(disch:=omega) only[kd,aa,an,h0,fR];apply K
  refine aG (aE fun _ K=>?_);simp(disch:=omega) only[kd,aa];apply K;refine bo rfl ?_;refine aE fun _ K=>?_;simp only[kd,aa];apply K
  (refine aL ⟨.inr rfl,aQ rfl ?_ rfl⟩;simp(disch:=omega) only[kd,Tryz.results230])
 refine aK Tryz.func230 rfl (by kernel_rfl) ?_;rw[Tryz.ntmps230];refine aE fun _ K=>?_;simp only[kd,aa,ch,af];apply K
 refine aG (aE fun _ K=>?_);simp(disch:=omega) only[kd,aa];apply K;refine aU rfl (aR ?_);show bu _ _ _ _;refine aE fun _ K=>?_;simp(disch:=omega) only[kd,aa,an,h0,fR];apply K
 refine aG (aE fun _ K=>?_);simp(disch:=omega) only[kd,aa];apply K;refine aU rfl (aR ?_);show bu _ _ _ _;refine aG (aE fun _ K=>?_);simp only[kd,aa];apply K;refine bH (G:=SK M) (fun g=>⟨(ch M::j4 (.raw (.int .i64 ((M.headD []).length:Int))::j16 (j4 (ch M::rN M.length::rN g.i::j4 (j4 (jk::jk::jk::[])))))),Hm []⟩) (fun g=>M.length-g.i) ⟨0,by omega,fun r hr=>by simp at hr⟩ ?_ ?_
 ·refine aF trivial ?_;simp[wk]
 rintro⟨i,hi,ok⟩;simp only;by_cases hm:i<M.length
 ·obtain⟨r,hr⟩:=getElem?_of_lt hm;have hmem:r∈M:=ax hr;refine aE fun _ K=>?_;simp(disch:=omega) only[kd,ch];apply K
  refine cX rfl ?_;refine aG (aP ?_);refine aE fun _ K=>?_;simp(disch:=omega) only[kd,aa,hr,fR];apply K
  by_cases c3:r.length=(M.headD []).length
  ·refine aE fun _ K=>?_;simp(disch:=omega) only[kd,aa];apply K
   refine aU rfl (aR ?_);show bu _ _ _ _;refine aO fun _ K=>?_;simp(disch:=omega) only[kd,aM];apply K
   refine⟨⟨i+1,by omega,fun r' hr'=>?_⟩,by simp only;omega,aF trivial ?_⟩
   ·rw[List.take_add_one,hr]at hr';rcases List.mem_append.1 hr' with h|h
    ·exact ok r' h
    have:r'=r:=by simpa using h
    subst this;exact c3
   simp[wk]
  rw[jR (fun h=>by have:=(h.2.2 r hmem).2.2;omega)];refine aE fun _ K=>?_;simp(disch:=omega) only[kd,aa];apply K
  refine bo rfl ?_;refine aE fun _ K=>?_;simp only[kd,aa];apply K
  (refine aL ⟨.inr rfl,aQ rfl ?_ rfl⟩;simp(disch:=omega) only[kd,Tryz.results230])
 have hsh:G7 M:=⟨by omega,by omega,fun r hr=>by
  have:=ok r (by rw[List.take_of_length_le (by omega)];exact hr);exact⟨by omega,by omega,this⟩⟩
 rw[pj hsh];refine aE fun _ K=>?_;simp(disch:=omega) only[kd,ch];apply K
 refine di rfl ?_;show bu _ _ _ _;refine aE fun _ K=>?_;simp only[kd,aa];apply K
 (refine aL ⟨.inr rfl,aQ rfl ?_ rfl⟩;simp(disch:=omega) only[kd,Tryz.results230])
theorem Aq (M:List (List Int)):CallC Tryz.prog 239 [jS M] ⟨[],Q2 M⟩:=by
 by_cases h1:M.length<1
 ·rw[jR (fun h=>by have:=h.1;omega)];refine aK Tryz.func239 rfl (by kernel_rfl) ?_;rw[Tryz.ntmps239];refine aE fun _ K=>?_;simp only[kd,aa,jS,af];apply K
  refine aG (aE fun _ K=>?_);simp(disch:=omega) only[kd,aa,reduceCtorEq];apply K;refine bo rfl ?_;refine aE fun _ K=>?_;simp only[kd,aa];apply K
  (refine aL ⟨.inr rfl,aQ rfl ?_ rfl⟩;simp(disch:=omega) only[kd,Tryz.results239])
 by_cases h2:16<M.length
 ·rw[jR (fun h=>by have:=h.2.1;omega)];refine aK Tryz.func239 rfl (by kernel_rfl) ?_;rw[Tryz.ntmps239];refine aE fun _ K=>?_;simp only[kd,aa,jS,af];apply K
  refine aG (aE fun _ K=>?_);simp(disch:=omega) only[kd,aa];apply K;refine bo rfl ?_;refine aE fun _ K=>?_;simp only[kd,aa];apply K
  (refine aL ⟨.inr rfl,aQ rfl ?_ rfl⟩;simp(disch:=omega) only[kd,Tryz.results239])
 have h0:=oD (M:=M) (by omega);have hmem0:M.headD []∈M:=ax h0;by_cases c1:(M.headD []).length<1
 ·rw[jR (fun h=>by have:=(h.2.2 _ hmem0).1;omega)];refine aK Tryz.func239 rfl (by kernel_rfl) ?_;rw[Tryz.ntmps239];refine aE fun _ K=>?_;simp only[kd,aa,jS,af];apply K
  refine aG (aE fun _ K=>?_);simp(disch:=omega) only[kd,aa];apply K;refine aU rfl (aR ?_);show bu _ _ _ _;refine aE fun _ K=>?_;simp(disch:=omega) only[kd,aa,an,h0,fR];apply K
  refine aG (aE fun _ K=>?_);simp(disch:=omega) only[kd,aa,reduceCtorEq];apply K;refine bo rfl ?_;refine aE fun _ K=>?_;simp only[kd,aa];apply K
  (refine aL ⟨.inr rfl,aQ rfl ?_ rfl⟩;simp(disch:=omega) only[kd,Tryz.results239])
 by_cases c2:16<(M.headD []).length
 ·rw[jR (fun h=>by have:=(h.2.2 _ hmem0).2.1;omega)];refine aK Tryz.func239 rfl (by kernel_rfl) ?_;rw[Tryz.ntmps239];refine aE fun _ K=>?_;simp only[kd,aa,jS,af];apply K
  refine aG (aE fun _ K=>?_);simp(disch:=omega) only[kd,aa];apply K;refine aU rfl (aR ?_);show bu _ _ _ _;refine aE fun _ K=>?_;simp(disch:=omega) only[kd,aa,an,h0,fR];apply K
  refine aG (aE fun _ K=>?_);simp(disch:=omega) only[kd,aa];apply K;refine bo rfl ?_;refine aE fun _ K=>?_;simp only[kd,aa];apply K
  (refine aL ⟨.inr rfl,aQ rfl ?_ rfl⟩;simp(disch:=omega) only[kd,Tryz.results239])
 refine aK Tryz.func239 rfl (by kernel_rfl) ?_;rw[Tryz.ntmps239];refine aE fun _ K=>?_;simp only[kd,aa,jS,af];apply K
 refine aG (aE fun _ K=>?_);simp(disch:=omega) only[kd,aa];apply K;refine aU rfl (aR ?_);show bu _ _ _ _;refine aE fun _ K=>?_;simp(disch:=omega) only[kd,aa,an,h0,fR];apply K
 refine aG (aE fun _ K=>?_);simp(disch:=omega) only[kd,aa];apply K;refine aU rfl (aR ?_);show bu _ _ _ _;refine aG (aE fun _ K=>?_);simp only[kd,aa];apply K;refine bH (G:=SK M) (fun g=>⟨(jS M::j4 (.raw (.int .i64 ((M.headD []).length:Int))::j16 (j4 (jS M::rN M.length::rN g.i::j4 (j4 (jk::jk::jk::[])))))),Hm []⟩) (fun g=>M.length-g.i) ⟨0,by omega,fun r hr=>by simp at hr⟩ ?_ ?_
 ·refine aF trivial ?_;simp[wk]
 rintro⟨i,hi,ok⟩;simp only;by_cases hm:i<M.length
 ·obtain⟨r,hr⟩:=getElem?_of_lt hm;have hmem:r∈M:=ax hr;refine aE fun _ K=>?_;simp(disch:=omega) only[kd,jS];apply K
  refine cX rfl ?_;refine aG (aP ?_);refine aE fun _ K=>?_;simp(disch:=omega) only[kd,aa,hr,fR];apply K
  by_cases c3:r.length=(M.headD []).length
  ·refine aE fun _ K=>?_;simp(disch:=omega) only[kd,aa];apply K
   refine aU rfl (aR ?_);show bu _ _ _ _;refine aO fun _ K=>?_;simp(disch:=omega) only[kd,aM];apply K
   refine⟨⟨i+1,by omega,fun r' hr'=>?_⟩,by simp only;omega,aF trivial ?_⟩
   ·rw[List.take_add_one,hr]at hr';rcases List.mem_append.1 hr' with h|h
    ·exact ok r' h
    have:r'=r:=by simpa using h
    subst this;exact c3
   simp[wk]
  rw[jR (fun h=>by have:=(h.2.2 r hmem).2.2;omega)];refine aE fun _ K=>?_;simp(disch:=omega) only[kd,aa];apply K
  refine bo rfl ?_;refine aE fun _ K=>?_;simp only[kd,aa];apply K
  (refine aL ⟨.inr rfl,aQ rfl ?_ rfl⟩;simp(disch:=omega) only[kd,Tryz.results239])
 have hsh:G7 M:=⟨by omega,by omega,fun r hr=>by
  have:=ok r (by rw[List.take_of_length_le (by omega)];exact hr);exact⟨by omega,by omega,this⟩⟩
 rw[pj hsh];refine aE fun _ K=>?_;simp(disch:=omega) only[kd,jS];apply K
 refine di rfl ?_;show bu _ _ _ _;refine aE fun _ K=>?_;simp only[kd,aa];apply K
 (refine aL ⟨.inr rfl,aQ rfl ?_ rfl⟩;simp(disch:=omega) only[kd,Tryz.results239])
theorem JR (n:Nat) (f:FF) (hn1:1<=n) (hn:n<=16):CallC Tryz.prog 252 [jS (mat n n f)] ⟨[],.tup [(false,[.p (.raw (.int .i64 (n:Int)))]),(false,[.p (.raw (.int .i64 (n:Int)))]),(false,[.p (.raw (.bool true))])]⟩:=by
 have hS:=Aq (mat n n f);rw[pj (D4 f hn1 hn hn1 hn),bV,sY f hn1]at hS;refine aK Tryz.func252 rfl (by kernel_rfl) ?_;rw[Tryz.ntmps252];refine aE fun _ K=>?_;simp only[kd,aa,jS,af];apply K
 refine aI [⟨1,_,_,_,hS⟩] [] fun _ K=>?_;simp only[kd,jS,aa];apply K
 (refine aL ⟨.inr rfl,aQ rfl ?_ rfl⟩;simp(disch:=omega) only[kd,Tryz.results252])
theorem F3 (n:Nat) (f:FF) (hn1:1<=n) (hn:n<=16):CallC Tryz.prog 233 [jS (mat n n f)] ⟨[],.tup [(false,[.p (.raw (.int .i64 (n:Int)))]),(false,[.p (.raw (.bool true))])]⟩:=by
 have hS:=JR n f hn1 hn;refine aK Tryz.func233 rfl (by kernel_rfl) ?_;rw[Tryz.ntmps233];refine aE fun _ K=>?_;simp only[kd,jS,af];apply K
 refine aI [⟨1,_,_,_,hS⟩] [] fun _ K=>?_;simp only[kd,jS,aa];apply K
 refine aE fun _ K=>?_;simp(disch:=omega) only[kd,aa];apply K
 (refine aL ⟨.inr rfl,aQ rfl ?_ rfl⟩;simp(disch:=omega) only[kd,Tryz.results233])
theorem L2 (a b c d e:Int) (s:Nat) (hs:s<=67174400) (ha:Sz a s) (hb:Sz b s) (hc:Sz c s) (hd:Sz d s) (he:Sz e s) (he0:e≠0):
  CallC Tryz.prog 238 [tZ a,tZ b,tZ c,tZ d,tZ e] ⟨[],tZ ((a*d-b*c)/e)⟩:=by
 have s1:=ha.mul hd;have s2:=hb.mul hc;have s3:=s1.sub s2;have h1:=IP a d (ha.mono (by omega)) (hd.mono (by omega));have h2:=IP b c (hb.mono (by omega)) (hc.mono (by omega));have h3:=PE (a*d) (b*c) (s1.mono (by omega)) (s2.mono (by omega));have h4:=Ft (a*d-b*c) e he0 (s3.mono (by omega)) (he.mono (by omega));refine aK Tryz.func238 rfl (by kernel_rfl) ?_;rw[Tryz.ntmps238];refine aE fun _ K=>?_;simp(disch:=omega) only[kd,aa,tZ,af,ab];apply K
 refine bu.weak (aF (tm:=(j4 (jk::.one (.ptr 5 0 0 0)::.one (.ptr 6 0 0 0)::.one (.ptr 7 0 0 0)::.one (.ptr 8 0 0 0)::.one (.ptr 9 0 0 0)::.one (.ptr 10 0 0 0)::j16 (jk::[])))) (l:=[(5,LR a),(6,LR b),(7,LR c),(8,LR d),(9,LR e),(10,S3)]) ⟨rfl,rfl,rfl,rfl,rfl,rfl,trivial⟩ (by simp[wk])) ?_;refine gp bU [⟨2,_,_,_,h1⟩,⟨5,_,_,_,h2⟩,⟨6,_,_,_,h3⟩,⟨8,_,_,_,h4⟩] [] (by kernel_rfl) fun _ K=>?_;simp(disch:=omega) only[kd,tZ,cZ,aa,ab,ag];apply K
 refine aE fun _ K=>?_;simp(disch:=omega) only[kd,ab,aa];apply K
 (refine aL ⟨.inr rfl,aQ rfl ?_ rfl⟩;simp(disch:=omega) only[kd,Tryz.results238,ab,aa,tZ])
abbrev jH (M:List (List Int)):List PV:=[.sl (ls (fR fZ) M)]
theorem Qp {n:Nat} {f:FF} {i j:Nat} (hi:i<n) (hj:j<n) (hn:n<=16) (hf:Bg (f i j)):
  CallC Tryz.prog 235 [.raw (.int .i64 (i:Int)),.raw (.int .i64 (j:Int)),.one (.p (.ptr (jH (mat n n f))))] ⟨[],tZ (f i j)⟩:=by
 have hr:=b6 n f hi;have hjr:=aZ (f i) hj;have hS:=xk (f i j) hf;refine aK Tryz.func235 rfl (by kernel_rfl) ?_;rw[Tryz.ntmps235];refine aE fun _ K=>?_;simp(disch:=omega) only[kd,aa,af];apply K
 refine aI [⟨7,_,_,_,hS⟩] [] fun _ K=>?_;simp(disch:=omega) only[kd,tZ,aa,hr,fR,hjr,fZ];apply K
 (refine aL ⟨.inr rfl,aQ rfl ?_ rfl⟩;simp(disch:=omega) only[kd,Tryz.results235,aa,tZ])
theorem Qq (b:Nat) {m:Nat} {g:FF} {last:Int} {i j:Nat} (hi:i+1<m) (hj:j+1<m) (hm:m<=16) (s:Nat) (hs:s<=67174400) (hg: ∀i j,i<m->j<m->Sz (g i j) s) (hl:Sz last s) (hl0:last≠0):
  jh Tryz.prog b 65 237 [.raw (.int .i64 (i:Int)),.raw (.int .i64 (j:Int)),.one (.p (.ptr (jH (mat m m g)))),.raw (.pointer (some ⟨b,0,none⟩))] (fZ last)
   ⟨[],tZ ((g 0 0*g (i+1) (j+1)-g (i+1) 0*g 0 (j+1))/last)⟩ (fZ last):=by
 have r0:=b6 m g (show 0<m by omega);have r1:=b6 m g hi;have c00:=aZ (g 0) (show 0<m by omega);have c0j:=aZ (g 0) hj;have ci0:=aZ (g (i+1)) (show 0<m by omega);have cij:=aZ (g (i+1)) hj;have e1:((i:Int)+1).toNat=i+1:=by omega
 have e2:((j:Int)+1).toNat=j+1:=by omega
 have hC:=L2 (g 0 0) (g (i+1) 0) (g 0 (j+1)) (g (i+1) (j+1)) last s hs (hg _ _ (by omega) (by omega)) (hg _ _ hi (by omega)) (hg _ _ (by omega) hj) (hg _ _ hi hj) hl hl0;refine og Tryz.func237 rfl (by kernel_rfl) ?_;rw[Tryz.ntmps237];refine yC 3 900 rfl rfl ?_;refine fK.weak (aF (tm:=(.raw (.int .i64 (i:Int))::rN j::.one (.p (.ptr (jH (mat m m g))))::.one (.ptr 900 0 0 0)::j16 (j16 (jk::[])))) (l:=[(900,LR last)]) ⟨rfl,trivial⟩ (by simp[wk,Br,r6,af])) ?_;refine aV (by kernel_rfl) fun _ K=>?_;simp(disch:=omega) only[kd,aa,ab];apply K
 refine ve bU [⟨29,_,_,_,hC⟩] [] (by kernel_rfl) (by kernel_rfl) fun _ K=>?_;simp(disch:=omega) only[kd,tZ,aa,an,r0,fR,c00,fZ,aM,e1,r1,ci0,e2,c0j,cij,ab];apply K
 refine nT ⟨fZ last,rfl,rfl,.inr rfl,rfl,aQ rfl ?_ rfl⟩;simp(disch:=omega) only[kd,Tryz.results237,uR,lS,ab,aa,tZ]
def elF (f:FF) (k:Nat):Nat->Nat->Int:=fun i j=>bk f k (k+i) (k+j)
abbrev DJ (n:Nat) (f:FF) (k:Nat):List (List Int):=mat (n-k) (n-k) (elF f k)
def po (n:Nat) (f:FF) (k:Nat):List (List (List Int)):=(List.range k).map (DJ n f)
theorem Kr (n:Nat) (f:FF) (k:Nat):po n f k++[DJ n f k]=po n f (k+1):=by simp[po,List.range_succ]
theorem mJ (n:Nat) (f:FF) (k:Nat):(po n f k).length=k:=by simp[po]
theorem Iy (n:Nat) (f:FF):mat n n f=DJ n f 0:=gK fun i j _ _=>by
 show f i j=bk f 0 (0+i) (0+j);rw[cp,Nat.zero_add,Nat.zero_add]
theorem yX {f:FF} {k:Nat} (hd: ∀t,t<k->dk f (t+1)≠0) (i j:Nat):
  (elF f k 0 0*elF f k (i+1) (j+1)-elF f k (i+1) 0*elF f k 0 (j+1))/dk f k=elF f (k+1) i j:=by
 have h0:dk f k≠0:=by
  cases k with
  |zero=>rw[cj];decide
  |succ k=>exact hd k (Nat.lt_succ_self k)
 have h:=sylv f k hd (k+1+i) (k+1+j);have e:elF f k 0 0*elF f k (i+1) (j+1)-elF f k (i+1) 0*elF f k 0 (j+1)=dk f k*elF f (k+1) i j:=by
  unfold elF;rw[Nat.add_zero,<- bT,show k+(i+1)=k+1+i by omega,show k+(j+1)=k+1+j by omega,h]
 rw[e,Int.mul_ediv_cancel_left _ h0]
theorem iX (f:FF) (k:Nat):elF f k 0 0=dk f (k+1):=by
 unfold elF;rw[Nat.add_zero,bT]
def fM (M:List (List Int)):List PV:=[.sl (ls (fR fZ) M)]
theorem I5 (l:List (List (List Int))) (M:List (List Int)):lc fM l++[[.p (.sl (ls (fR fZ) M))]]=lc fM (l++[M]):=by simp[lc,fM]
def NzP (n:Nat) (f:FF):Prop:= ∀t,t+1<n->dk f (t+1)≠0
open Classical in
noncomputable def Qr (n:Nat) (f:FF):TV:=if NzP n f then .tup [(false,[.p (.sl (ls fM (po n f n)))]),(false,[.p (.raw (.bool true))])]else .tup [(false,[.p (.raw (.slice none 0 0))]),(false,[.p (.raw (.bool false))])]
theorem pu {n:Nat} {f:FF} (h:NzP n f):Qr n f= .tup [(false,[.p (.sl (ls fM (po n f n)))]),(false,[.p (.raw (.bool true))])]:=if_pos h
theorem Np {n:Nat} {f:FF} (h: ¬NzP n f):Qr n f= .tup [(false,[.p (.raw (.slice none 0 0))]),(false,[.p (.raw (.bool false))])]:=if_neg h
structure SY (n:Nat) (f:FF) where
 k:Nat
 s:Nat
 hk:k<n
 nz: ∀t,t<k->dk f (t+1)≠0
 hs:s+1<=1025*2^k
 sz: ∀i j,i<n-k->j<n-k->Sz (elF f k i j) s
 sl:Sz (dk f k) s
theorem rI (n:Nat) (f:FF) (hn1:1<=n) (hn:n<=16) (hf: ∀i j,i<n->j<n->Sz (f i j) 1024):CallC Tryz.prog 202 [jS (mat n n f)] ⟨[],Qr n f⟩:=by
 have hQ:=F3 n f hn1 hn;have h1:=sN 1 (by omega) (by omega);have hT:=Nt 235 (jH (mat n n f)) n n f hn1 hn hn1 hn (fun i j hi hj=>Qp hi hj hn ((hf i j hi hj).mono (by omega)));refine aK Tryz.func202 rfl (by kernel_rfl) ?_;rw[Tryz.ntmps202];refine aE fun _ K=>?_;simp(disch:=omega) only[kd,aa,jS,af];apply K
 refine EL ?_;refine aI [⟨1,_,_,_,hQ⟩] [] fun _ K=>?_;simp only[kd,jS,aa];apply K
 refine aG (aE fun _ K=>?_);simp only[kd];apply K;refine aU rfl (aR ?_);show bu _ _ _ _;refine bu.weak ((nS 1 1 (cs:=jH (mat n n f)) rfl rfl).trans (aF (tm:=(jk::.one (.p (.ptr (jH (mat n n f))))::.raw (.slice none 0 0)::.raw (.bool false)::rN n::j16 (j16 (j16 (j4 (j4 (jk::[]))))))) (l:=[]) trivial (by simp[wk,eZ,dI]))) ?_;refine aI [⟨3,_,_,_,hT⟩] [] fun _ K=>?_;simp only[kd,jS,aa,gY];apply K
 refine aI [⟨0,_,_,_,h1⟩] [] fun _ K=>?_;simp(disch:=omega) only[kd,tZ,aa];apply K
 refine aE fun _ K=>?_;simp only[kd];apply K
 refine aG (EJ ?_);show bu _ _ _ _;refine aG (aE fun _ K=>?_);simp only[kd];apply K;refine bH (G:=SY n f) (fun g=>⟨(jk::jk::.raw (.slice none 0 0)::.raw (.bool false)::rN n::jk::jS (DJ n f g.k)::.one (.ptr 7 0 0 0)::.one (.sl 30 0 0 g.k)::j4 (j4 (j4 (jk::jk::rN n::rN g.k::j16 (j16 (j4 (jk::[]))))))),Hm [(7,LR (dk f g.k)),(30,[⟨42,1,lc fM (po n f g.k)⟩])]⟩) (fun g=>n-g.k) ⟨0,1024,by omega,fun t ht=>by omega,by omega,fun i j hi hj=>?_,?_⟩ ?_ ?_
 ·show Sz (bk f 0 (0+i) (0+j)) 1024;rw[cp,Nat.zero_add,Nat.zero_add];exact hf i j (by omega) (by omega)
 ·show Sz (dk f 0) 1024;rw[cj];exact Qx (by omega)
 ·refine(rM (k:=8) (d:=30) 42 1 (by omega) rfl rfl).trans (aF ⟨?_,rfl,trivial⟩ ?_)
  ·rw[cj];rfl
  simp[wk];exact congrArg _ (Iy n f).symm
 rintro⟨k,s,hk,nz,hs,sz,sl⟩;simp only;have h2k:=F7 (k:=k) (by omega);have hsb:s<=67174400:=by omega
 have q1:=b6 (n-k) (elF f k) (show 0<n-k by omega);have q2:=aZ (elF f k 0) (show 0<n-k by omega);have hSg:=Mh (elF f k 0 0) ((sz 0 0 (by omega) (by omega)).mono (by omega));have hsn:=Kr n f k;have hln:=mJ n f k;refine aE fun _ K=>?_;simp(disch:=omega) only[kd,jS];apply K
 refine cX rfl ?_;refine aG (aP ?_);refine aE fun _ K=>?_;simp only[kd];apply K
 refine aE fun _ K=>?_;simp(disch:=omega) only[kd,aa,Nat.reduceMul,ai,ab,hln,I5,hsn,ag];apply K
 refine aG (aP ?_);by_cases hkn:k=n-1
 ·have hnz:NzP n f:=fun t ht=>nz t (by omega)
  rw[pu hnz];refine aE fun _ K=>?_;simp(disch:=omega) only[kd,aa,aM];apply K
  refine bo rfl (cK ?_);show bu _ _ _ _;have hk1:k+1=n:=by omega
  rw[hk1];have hlen:=mJ n f n;refine aE fun _ K=>?_;simp only[kd,aa];apply K
  refine aL ⟨.inr rfl,xM 30 (dR rfl) ?_ rfl⟩;have eT:List.take n (po n f n)=po n f n:=List.take_of_length_le (by rw[hlen];exact Nat.le_refl _);simp(disch:=omega) only[kd,Tryz.results202,ab,eT]
 refine aE fun _ K=>?_;simp(disch:=omega) only[kd,aa,aM];apply K
 refine aU rfl ?_;by_cases hz:dk f (k+1)=0
 ·have hno: ¬NzP n f:=fun h=>h k (by omega) hz
  rw[Np hno];rw[iX,hz]at hSg;refine aI [⟨5,_,_,_,hSg⟩] [] fun _ K=>?_;simp(disch:=omega) only[kd,tZ,Nf,aa,an,q1,fR,q2,iX,hz,fZ];apply K
  refine bo rfl ?_;refine aE fun _ K=>?_;simp only[kd];apply K
  (refine aL ⟨.inr rfl,aQ rfl ?_ rfl⟩;simp(disch:=omega) only[kd,Tryz.results202])
 have hs0:=RQ hz;rw[iX]at hSg q2;refine aI [⟨5,_,_,_,hSg⟩] [] fun _ K=>?_;simp(disch:=omega) only[kd,tZ,aa,an,q1,fR,q2,fZ];apply K
 refine aU rfl (aR ?_);show bu _ _ _ _;refine aE fun _ K=>?_;simp(disch:=omega) only[kd,aa,ab];apply K
 refine bu.weak ((nS 10 10 (cs:=jH (DJ n f k)) rfl rfl).trans (aF (tm:=(jk::jk::.raw (.slice none 0 0)::.raw (.bool false)::rN n::jk::jk::.one (.ptr 7 0 0 0)::.one (.sl 30 0 0 (k+1))::rN k::.one (.p (.ptr (jH (DJ n f k))))::j4 (j4 (j4 (.raw (.int .i64 (n:Int))::rN k::j16 (j16 (j4 (jk::[])))))))) (l:=[(7,LR (dk f k)),(30,[⟨42,1,lc fM (po n f (k+1))⟩])]) ⟨rfl,rfl,trivial⟩ (by simp[wk,eZ,dI]))) ?_;refine aG (rO 7 (cs:=fZ (dk f k)) rfl fun b=>?_);refine gP.weak (aF (tm:=(jk::jk::.raw (.slice none 0 0)::.raw (.bool false)::rN n::jk::jk::NB b::.one (.sl 30 0 0 (k+1))::rN k::.one (.p (.ptr (jH (DJ n f k))))::j4 (j4 (j4 (.raw (.int .i64 (n:Int))::rN k::j16 (j16 (j4 (jk::[])))))))) (l:=[(30,[⟨42,1,lc fM (po n f (k+1))⟩])]) ⟨rfl,trivial⟩ (by simp[wk,uR,lS])) ?_;have hd0:dk f k≠0:=by
  cases k with
  |zero=>rw[cj];decide
  |succ k=>exact nz k (by omega)
 have hT2:=Nu 237 (jH (DJ n f k)) b 65 (fZ (dk f k)) (n-(k+1)) (n-(k+1)) (fun i j=>(elF f k 0 0*elF f k (i+1) (j+1)-elF f k (i+1) 0*elF f k 0 (j+1))/dk f k) (by omega) (by omega) (by omega) (by omega)
  (fun i j hi hj=>Qq b (by omega) (by omega) (by omega) s hsb sz sl hd0)
 rw[gK fun i j _ _=>yX (f:=f) (k:=k) nz i j]at hT2;have en:((n-(k+1):Nat):Int)=(n:Int)-(k:Int)-1:=by omega
 rw[en]at hT2;refine vi 9 hT2 [] [] (by kernel_rfl) (by rfl) (by rfl) fun _ K=>?_;simp(disch:=omega) only[kd,jS,aa,NB,aM,gY];apply K
 refine⟨rfl,?_⟩;show bu _ _ _ _;refine bu.weak (aF (tm:=(jk::jk::.raw (.slice none 0 0)::.raw (.bool false)::rN n::jk::jS (DJ n f (k+1))::.one (.ptr 7 0 0 0)::.one (.sl 30 0 0 (k+1))::jk::.one (.p (.ptr (jH (DJ n f k))))::j4 (j4 (j4 (.raw (.int .i64 (n:Int))::rN k::j16 (j16 (j4 (jk::[])))))))) (l:=[(7,LR (dk f k)),(30,[⟨42,1,lc fM (po n f (k+1))⟩])]) ⟨rfl,rfl,trivial⟩ (by simp[wk,Br,r6])) ?_;refine aO fun _ K=>?_;simp(disch:=omega) only[kd,aa,jS,an,q1,fR,q2,fZ,ab];apply K
 show bu _ _ _ _;refine aO fun _ K=>?_;simp(disch:=omega) only[kd,aM];apply K
 have nz': ∀t,t<k+1->dk f (t+1)≠0:=fun t ht=>by
  by_cases e:t=k
  ·subst e;exact hz
  exact nz t (by omega)
 refine⟨⟨k+1,2*s+1,by omega,nz',by rw[Nat.pow_succ];omega,fun i j hi hj=>?_,?_⟩,by simp only;omega,aF ⟨rfl,rfl,trivial⟩ ?_⟩
 ·rw[<- yX nz];exact((((sz 0 0 (by omega) (by omega)).mul (sz (i+1) (j+1) (by omega) (by omega))).sub ((sz (i+1) 0 (by omega) (by omega)).mul (sz 0 (j+1) (by omega) (by omega)))).ediv _).mono (by omega)
 ·rw[<- iX];exact(sz 0 0 (by omega) (by omega)).mono (by omega)
 simp[wk]
abbrev m9 (M:List (List Int)):AV:= .p (.ptr [.sl (ls (fR fI) M)])
theorem Ry {n c:Nat} {f:FF} {i j:Nat} (hi:i<n) (hj:j<c) (hc:c<=16) (hn:n<=16) (hf: -9223372036854775808<=f i j/\f i j<=9223372036854775807):
  CallC Tryz.prog 232 [.raw (.int .i64 (i:Int)),.raw (.int .i64 (j:Int)),.one (m9 (mat n c f))] ⟨[],tZ (f i j)⟩:=by
 have hml:=bV n c f;have hr:=b6 c f hi;have hjr:=aZ (f i) hj;have hS:=sN (f i j) hf.1 hf.2;refine aK Tryz.func232 rfl (by kernel_rfl) ?_;rw[Tryz.ntmps232];refine aE fun _ K=>?_;simp(disch:=omega) only[kd,m9,aa,af];apply K
 refine aI [⟨7,_,_,_,hS⟩] [] fun _ K=>?_;simp(disch:=omega) only[kd,tZ,aa,hr,fR,hjr];apply K
 (refine aL ⟨.inr rfl,aQ rfl ?_ rfl⟩;simp(disch:=omega) only[kd,Tryz.results232,aa,tZ])
def G8 (d n c i:Nat) (g:FF):List OObj:=⟨85,1,mH d (af i c)++af (n-i) [.p (.sl [])]⟩::(mat i c g).map Af
theorem EZ (d n c:Nat) (g:FF):([⟨85,1,af n [.raw (.slice none 0 0)]⟩]:List OObj).map zO=G8 d n c 0 g:=by
 simp[G8,mat,zO,mH,Ld,Ll]
theorem Id (d n c:Nat) (g:FF):G8 d n c n g=Ju d n c g:=by
 simp[G8]
theorem Ie {d n c i:Nat} (g:FF) (hi:i<n) (hz: ∀b,b<c->g i b=0):
  ((⟨85,1,(mH d (af i c)++af (n-i) [AV.p (PV.sl [])]).set i [.sl d (i+1) 0 c]⟩::(mat i c g).map Af++[⟨65,2,af c [.raw (.bool false),.raw (.slice none 0 0)]⟩]:List OObj)).map zO=G8 d n c (i+1) g:=by
 have e1:(mH d (af i c)++af (n-i) [AV.p (PV.sl [])]).set i [.sl d (i+1) 0 c]=mH d (af (i+1) c)++af (n-(i+1)) [AV.p (PV.sl [])]:=by
  rw[List.set_append_right _ _ (by simp[dA]),dA,List.length_replicate,Nat.sub_self,List.replicate_succ' (n:=i),At,List.length_replicate,List.append_assoc]
  congr 1
  rw[show n-i=n-(i+1)+1 by omega,List.replicate_succ];rfl
 have e2:be c (g i)=af c 0:=by
  apply List.ext_getElem?;intro b;by_cases hb:b<c
  ·rw[aZ _ hb,List.getElem?_replicate,if_pos hb,hz b hb]
  rw[List.getElem?_eq_none (by rw[aW];omega),List.getElem?_eq_none (by simp;omega)]
 have e3:mat (i+1) c g=mat i c g++[be c (g i)]:=by simp[mat,List.range_succ]
 rw[e1];simp only[List.cons_append,List.map_cons,List.map_append,G8,e3,List.map_map]
 congr 1
 ·simp[zO,RS,Ld,Ll]
 congr 1
 ·refine List.map_congr_left fun r _=>?_
  simp[zO,Af,SE]
 simp[e2,zO,Af,lc,fZ,Ld,Ll,da,ls]
theorem LO {d n c i k:Nat} (h:k<i):(mH d (af i c)++af (n-i) [AV.p (PV.sl [])])[k]?=some [.sl d (k+1) 0 c]:=by
 rw[List.getElem?_append_left (by simp[dA];exact h),mI d c h]
theorem LP {d n c i:Nat} (h:i<=n):(mH d (af i c)++af (n-i) [AV.p (PV.sl [])]).length=n:=by simp[dA];omega
theorem LQ (n c:Nat) (f:FF) (hn1:1<=n) (hn:n<=16) (hc1:1<=c) (hc:c<=16) (hf: ∀i j,i<n->j<c-> -9223372036854775808<=f i j/\f i j<=9223372036854775807):
  CallC Tryz.prog 231 [.raw (.int .i64 (n:Int)),.raw (.int .i64 (c:Int)),.fn 232 [m9 (mat n c f)]] ⟨Ju 0 n c f,.one (.sl 0 0 0 n)⟩:=by
 refine aK Tryz.func231 rfl (by kernel_rfl) ?_;rw[Tryz.ntmps231];refine aE fun _ K=>?_;simp only[kd,m9,aa,af];apply K
 refine aE fun _ K=>?_;simp(disch:=omega) only[kd,aa];apply K
 refine aG (aE fun _ K=>?_);simp only[kd,aa];apply K;refine bH (G:=qp n) (fun g=>⟨(jk::rN c::.fn 232 [m9 (mat n c f)]::j4 (.one (.sl 11 0 0 n)::j4 (jk::rN n::rN g.i::j16 (j4 (j4 (j4 ([]))))))),Hm [(11,G8 11 n c g.i (part f g.i 0))]⟩) (fun g=>n-g.i) ⟨0,by omega⟩ ?_ ?_
 ·refine(ku 11).trans (aF ⟨EZ 11 n c _,trivial⟩ ?_);simp[wk]
 rintro⟨i,hi⟩;simp only;by_cases hm:i<n
 ·have hg:=N6 (d:=11) (c:=c) hm;refine aE fun _ K=>?_;simp(disch:=omega) only[kd,m9];apply K
  refine cX rfl ?_;refine aG (aP ?_);refine aE fun _ K=>?_;simp only[kd];apply K
  simp only[G8];refine aE fun _ K=>?_;simp(disch:=omega) only[kd,aa,ab,hg,ai,List.length_replicate,List.all_replicate,bV,ag];apply K
  refine bu.weak ((ku 11).trans (aF (tm:=(jk::rN c::.fn 232 [m9 (mat n c f)]::j4 (.one (.sl 11 0 0 n)::rN i::j4 (.raw (.int .i64 (n:Int))::rN i::j16 (j4 (j4 (j4 ([])))))))) (l:=[(11,G8 11 n c (i+1) (part f i 0))]) ⟨Ie (part f i 0) hm (fun b _=>by simp[part]),trivial⟩ (by simp[wk]))) ?_;have a1:=LO (d:=11) (n:=n) (c:=c) (show i<i+1 by omega);have a2:=LP (d:=11) (n:=n) (c:=c) (show i+1<=n by omega);have a3:=xw (n:=i+1) c (part f i 0) (show i<i+1 by omega);simp only[G8];refine aE fun _ K=>?_;simp(disch:=omega) only[kd,aa,m9,a1];apply K
  refine bH (G:=qp c) (fun g=>⟨(jk::rN c::.fn 232 [m9 (mat n c f)]::j4 (.one (.sl 11 0 0 n)::rN i::j4 (.raw (.int .i64 (n:Int))::rN i::j4 (j4 (jk::jk::jk::rN c::rN g.i::j4 (j4 (j4 (jk::jk::jk::[])))))))),Hm [(11,G8 11 n c (i+1) (part f i g.i))]⟩) (fun g=>c-g.i) ⟨0,by omega⟩ ?_ ?_
  ·refine aF ⟨rfl,trivial⟩ ?_;simp[wk]
  rintro⟨j,hj⟩;simp only;by_cases hm2:j<c
  ·have hS:=Ry (n:=n) (c:=c) (f:=f) hm hm2 hc hn (hf i j hm hm2);have g2:=xw (n:=i+1) c (part f i j) (show i<i+1 by omega);have g3:=aZ (part f i j i) hm2;refine aE fun _ K=>?_;simp(disch:=omega) only[kd,m9];apply K
   refine cX rfl ?_;refine aG (aP ?_);refine aE fun _ K=>?_;simp only[kd];apply K
   simp only[G8];refine me bU [⟨8,_,_,_,hS⟩] [] (by kernel_rfl) fun _ K=>?_;simp(disch:=omega) only[kd,m9,tZ,aa,a1,g2,fZ,g3,MF];apply K
   show bu _ _ _ _;refine aO fun _ K=>?_;simp(disch:=omega) only[kd,aM];apply K
   refine⟨⟨j+1,by omega⟩,by simp only;omega,aF ⟨?_,trivial⟩ ?_⟩
   ·show _::_=_::_;rw[pY fun a b _ _=>mD f i j a b]
   simp[wk]
  have hjc:j=c:=by omega
  subst hjc;refine aE fun _ K=>?_;simp(disch:=omega) only[kd,m9];apply K
  refine di rfl ?_;show bu _ _ _ _;refine aO fun _ K=>?_;simp(disch:=omega) only[kd,aM];apply K
  refine⟨⟨i+1,by omega⟩,by simp only;omega,aF ⟨?_,trivial⟩ ?_⟩
  ·show _::_=_::_;rw[pY fun a b _ hb=>oV f i a b hb]
  simp[wk]
 have hin:i=n:=by omega
 subst hin;rw[Id];refine aE fun _ K=>?_;simp(disch:=omega) only[kd,m9];apply K
 refine di rfl ?_;show bu _ _ _ _;refine aE fun _ K=>?_;simp only[kd];apply K
 refine aL ⟨.inr rfl,_,bW.refl _,?_⟩;refine⟨.one (.sl 11 0 0 i),11,?_,rfl,?_,rfl⟩
 ·simp(disch:=omega) only[kd,Tryz.results231]
 show Ju 0 i c f=(Ju 11 i c (part f i 0)).map (renO 0);rw[D9 11 0];show _::_=_::_;rw[pY fun a b ha _=>oU f a b ha]
end Go.Proofs.YtalmoejhjceflaaGreat
