/-
  Part 19 of a proof (walks and plain facts).
-/
import Derived.Test.YtiollbhgpiiodaaGreatDoorQ17
set_option linter.all false
set_option maxRecDepth 100000
set_option maxHeartbeats 64000000
open Nat renaming reduceAdd → aa
open Nat renaming reduceEqDiff → ab
open Nat renaming le_refl → ac
open List renaming replicate → ae
open List renaming mem_of_getElem? → aw
open Nat renaming le_trans → aA
namespace Go.Proofs.YtiollbhgpiiodaaGreatDoor
open Go.RowKit
theorem IQ (a b:Nat) (hb:0<b) (la:(aL a).length<=268435456) (lb:(aL b).length<=268435456):CallC Tryz.prog 161 [dw (aL a),dw (aL b)] ⟨[],BD a b⟩:=by
 have hc:=pN (aL a) (aL b) (aU _) (aU _) (cn _) (cn _) (by omega) (by omega);rw[aN,aN]at hc;by_cases hlt:a<b
 ·rw[oE hlt]at hc;have hcl:=BN (aL a) (by omega);unfold BD;rw[Nat.div_eq_of_lt hlt,Nat.mod_eq_of_lt hlt,cx];refine aS Tryz.func161 rfl Tryz.ntmps161 (aT (k:=aF (aG (bN [⟨2,_,_,_,hc⟩] (k:=aR rfl (cb [⟨1,_,_,_,hcl⟩] (k:=?_)))))));refine bA ⟨.inr rfl,sP 4 rfl rfl ?_ rfl⟩;simp(disch:=omega) only[kd,Tryz.results161]
 obtain⟨c,hcv,hc0⟩: ∃c,c=gF a b/\0<=c:=⟨_,rfl,F3 (by omega)⟩;rw[<- hcv]at hc;clear hcv;by_cases hs:(aL a).length<=2
 ·have sb:(aL b).length<=2:=aA (pR (show b<=a by omega)) hs;have ua:=jh hs;have ub:=jh sb;have h1:=uc (aL a) (aU _) hs;have h2:=uc (aL b) (aU _) sb;rw[aN]at h1 h2;have hq:a/b<=a:=Nat.div_le_self _ _;have hr:a%b<b:=Nat.mod_lt _ hb;have h3:=jf (a/b) (by omega);have h4:=jf (a%b) (by omega);have hb0:(b:Int)≠0:=by omega
  have e1:IntKind.u64.wrap (Int.tdiv (a:Int) (b:Int))=((a/b:Nat):Int):=by
   rw[Int.tdiv_eq_ediv_of_nonneg (by omega),<- Int.natCast_ediv];generalize a/b=q at*;rw[IntKind.wrap_u64];omega
  have e2:Int.tmod (a:Int) (b:Int)=((a%b:Nat):Int):=by
   rw[Int.tmod_eq_emod_of_nonneg (by omega),<- Int.natCast_emod]
  unfold BD;generalize a/b=q at*
  generalize a%b=r at*
  refine aS Tryz.func161 rfl Tryz.ntmps161 (aT (k:=aF (aG (bN [⟨2,_,_,_,hc⟩] (k:=aJ rfl (aK (k:=aR rfl (cb [⟨1,_,_,_,h1⟩,⟨3,_,_,_,h2⟩] (k:=d6 [⟨3,_,_,_,h3⟩,⟨7,_,_,_,h4⟩] (aP @ne_eq.{1} (aP hb0 (aP @not_false_eq_true (aP e1 e2)))) (k:=aV @Tryz.results161))))))))))
 by_cases h1:(aL b).length=1
 ·obtain⟨g0,b32⟩:=IZ h1;have hcl:=IN (aL a) (by omega) (by omega);have hw:=tJ (aL a) b (aU _) hb b32 (by omega) (by omega);rw[aN]at hw;have hq:a/b<4294967296^(aL a).length:=Nat.lt_of_le_of_lt (Nat.div_le_self _ _) (B9 a);have hr:a%b<b:=Nat.mod_lt _ hb;have ht:=eK (b6 (aL a).length (a/b)) (by rw[bS];omega);rw[s5 hq]at ht;have hf:=jf (a%b) (by omega);have hpl:=bS (aL a).length (a/b);unfold BD;generalize a%b=r at*
  generalize b6 (aL a).length (a/b)=R at*
  generalize a/b=q at*
  have e1:IntKind.u64.wrap (r:Int)=(r:Int):=by rw[IntKind.wrap_u64];omega
  refine aS Tryz.func161 rfl Tryz.ntmps161 (aT (k:=aF (aG (bN [⟨2,_,_,_,hc⟩] (k:=aJ rfl (aK (k:=aJ rfl (aK (k:=aR rfl (cb [⟨1,_,_,_,hcl⟩] (k:=?_)))))))))))
  (refine uN 4 hw 41 0 [] [] (by simp[wk]) (by omega) (pZ rfl) (eW _ _) (by simp[wk]) (by decide) fun K hK=>?_;simp(disch:=omega) only[kd,aa,Int.reduceToNat,g0];apply hK;refine⟨⟨rfl,rfl⟩,by simp,?_⟩;intro K hK;simp only[kd,aa,SS,cwD];apply hK)
  refine bL.weak ((bT 41 (bQ rfl)).trans (aE (tm:=(j4 (dw R::jk::jk::jk::.raw (.int .u32 (r:Int))::j16 (j16 (j16 (j16 (j16 (j4 (j4 (j4 (jk::jk::jk::[]))))))))))) (l:=[]) trivial (by simp[wk,gX,fX,be,Hm,gS,gN,List.take_of_length_le,hpl]))) ?_;refine fw [⟨1,_,_,_,ht⟩,⟨4,_,_,_,hf⟩] e1 (k:=aV @Tryz.results161)
 obtain⟨n,hn⟩: ∃n,(aL b).length=n+2:=⟨(aL b).length-2,by have:=gh (n:=b);omega⟩;obtain⟨m,hm⟩: ∃m,(aL a).length=n+2+m:=⟨(aL a).length-(n+2),by have:=pR (show b<=a by omega);omega⟩;obtain⟨x,hx,hx0,hx32,hbl⟩:=Dd (n:=n+1) hn;have hz:=UR x hx32;obtain⟨z1,z2,z3⟩:=PM hx0 hx32;obtain⟨s,hsz⟩: ∃s,s=lz x:=⟨_,rfl⟩;rw[<- hsz]at hz z1 z2 z3;clear hsz;obtain⟨V1,V2⟩:=QD hn hx ⟨z2,z3⟩ z1;have hp2:=Nat.two_pow_pos s;have hV:0<b*2^s:=Nat.mul_pos hb hp2;have jL:=qO (aL b) s (aU _) z1 (by omega);have sl2:=qO (aL a) s (aU _) z1 (by omega);rw[aN,hn]at jL;rw[aN,hm]at sl2;have ha':=B9 a;rw[hm]at ha';obtain⟨st1,st2⟩:=JB (s:=s) ha' hbl;have hA:a*2^s<b*2^s*4294967296^(m+1):=by
  have h2:4294967296^(n+2+m)<=b*4294967296^(m+1):=by
   have e:4294967296^(n+2+m)=4294967296^(n+1)*4294967296^(m+1):=by rw[<- Nat.pow_add];congr 1;omega
   rw[e];exact Nat.mul_le_mul_right _ hbl
  rw[Nat.mul_right_comm];exact Nat.mul_lt_mul_of_pos_right (Nat.lt_of_lt_of_le ha' h2) hp2
 obtain⟨en1,en2⟩:=Qj (a:=a) (b:=b) (s:=s);have e1:((n+2:Nat):Int)-1=((n+1:Nat):Int):=by omega
 have e2:((n+2+m:Nat):Int)-((n+2:Nat):Int)=(m:Int):=by omega
 have e3:(m:Int)+1=((m+1:Nat):Int):=by omega
 have tk:=Ju (x:=b*2^s) (show n+2<=n+2+1 by omega);have kdh:=fun k=>S8 (A:=a*2^s) (k:=k) V1 V2
 have hQ: ∀k,k<=m+1->lU (a*2^s) (b*2^s) k<4294967296^(m+1):=fun k hk=>Ts hA hk
 have hend:a%b*2^s<4294967296^(n+2+m+1):=by
  have h3:a%b<b:=Nat.mod_lt _ hb;have h4:a%b*2^s<=b*2^s:=Nat.mul_le_mul_right _ (Nat.le_of_lt h3);have h5:4294967296^(n+2)<=4294967296^(n+2+m+1):=Nat.pow_le_pow_right (by omega) (by omega);omega
 have hmod:a%b<4294967296^(n+2+m+1):=Nat.lt_of_le_of_lt (Nat.le_mul_of_pos_right _ hp2) hend;have hrw:=fun k (hk:k<=m)=>MZ (A:=a*2^s) (V:=b*2^s) (k:=k) (nb:=n+2) (na:=n+2+m) hV (Nat.le_of_lt V1) (by omega)
 have hrr:=fun k (hk:k<=m)=>Qk (A:=a*2^s) (V:=b*2^s) (k:=k) (nb:=n+2) (na:=n+2+m) (by omega)
 have hqs:=fun k (hk:k<=m)=>Qa (A:=a*2^s) (V:=b*2^s) (k:=k) (m:=m+1) hV (by omega) (hQ _ (by omega))
 have hdiv:a/b<4294967296^(m+1):=by have:=hQ 0 (by omega);rwa[en2]at this
 have sr:=xj (b6 (n+2+m+1) (a%b*2^s)) s (nI _ _) z1 (by rw[bS];omega) (by rw[bS];omega);rw[gz hend,bS,Nat.mul_div_cancel _ hp2]at sr;have ht1:=eK (b6 (m+1) (a/b)) (by rw[bS];omega);rw[s5 hdiv]at ht1;have ht2:=eK (b6 (n+2+m+1) (a%b)) (by rw[bS];omega);rw[s5 hmod]at ht2;have hlV:=bS (n+2) (b*2^s);refine aS Tryz.func161 rfl Tryz.ntmps161 (aT (k:=?_));refine aF (l7 (S:=⟨(dw (aL a)::dw (aL b)::j16 (j16 (j16 (j16 (j16 (j16 (j4 (jk::jk::[])))))))),Hm []⟩) (aG ?_) ?_)
 ·refine bN [⟨2,_,_,_,hc⟩] (k:=aJ rfl (aK (k:=aJ rfl (aK (k:=?_)))));refine bV rfl (fun h=>by simp at h<;>omega) (fun _=>aH (aE trivial ?_));simp[wk]
 refine dr [⟨6,_,_,_,hz⟩] (aP hn (aP e1 hx)) (k:=dr [⟨2,_,_,_,jL⟩] hn (k:=?_));refine bL.weak ((bT 61 (bQ rfl)).trans (aE (tm:=(dw (aL a)::dw (aL b)::j4 (jk::jk::jk::rN s::dw (b6 (n+2) (b*2^s))::j16 (j16 (j16 (j16 (j16 (j4 (j4 (j4 (jk::[]))))))))))) (l:=[]) trivial (by simp[wk,gX,fX,be,Hm,gS,gN,tk]))) ?_;generalize hvv:b6 (n+2) (b*2^s)=vv at*
 refine cb [⟨2,_,_,_,sl2⟩] (k:=aX (aP hm (aP hn (aP e2 (aP e3 @kR)))) (k:=aF (aX (aP hm (aP hn e2)) (k:=?_))));generalize hAe:a*2^s=A at*
 generalize hVe:b*2^s=V at*
 refine aO (G:=iJ (m+1)) (fun g=>⟨(jk::dw (aL b)::jk::jk::.one (.sl 74 0 0 (m+1))::j4 (.raw (.int .i64 (s:Int))::dw vv::.one (.sl 67 0 0 (n+2+m+1))::.raw (.int .i64 ((g.i:Int)-1))::j16 (j16 (j16 (j16 (j16 (j4 (j4 (jk::jk::jk::[]))))))))),Hm [(67,[⟨56,1,lc fU (b6 (n+2+m+1) (fp A V g.i))⟩]),(74,[⟨56,1,lc fU (b6 (m+1) (lU A V g.i))⟩])]⟩) (fun g=>g.i) ⟨m+1,by omega⟩ ?_ ?_
 ·refine aE ⟨?_,?_,trivial⟩ ?_
  ·simp[st1,be,Hm]
  ·simp[st2,be,Hm,yu]
  simp[wk]
 rintro⟨i,hi⟩;simp only;by_cases h0:0<i
 ·obtain⟨k,rfl⟩: ∃k,i=k+1:=⟨i-1,by omega⟩;have hk:k<=m:=by omega
  have ek:((k+1:Nat):Int)-1=(k:Int):=by omega
  have ek2:(k:Int)+((n+2:Nat):Int)+1=((k+n+3:Nat):Int):=by omega
  have ek3:k+n+3-k=n+3:=by omega
  obtain⟨v1,v2,u2,u1,u0,K,nU,nV⟩:=kdh k;have w1:=hrw k hk;have w2:=hrr k hk;rw[show n+2+1=n+3 from rfl]at w1 w2;have w3:=hqs k hk;have gq:=gk (x:=lU A V (k+1)) (show k<m+1 by omega);have hds:=xh (b6 k (fp A V (k+1))) _ (b6 (n+2+m-(k+(n+2))) (fp A V (k+1)/4294967296^(k+(n+2)+1))) _ k n v1 v2 u2 u1 u0 (bS _ _) K (by rw[<- w2,bS];omega);rw[nU,nV]at hds;rw[w1,<- w2]at hds;have qd:=rc (A:=A) (k:=k) hV;have l1:=bS (m+1) (lU A V (k+1));have l2:=bS (n+2+m+1) (fp A V (k+1));obtain⟨R',hR'⟩: ∃R',R'=b6 (n+2+m+1) (fp A V k):=⟨_,rfl⟩;obtain⟨Q',hQ'⟩: ∃Q',Q'=b6 (m+1) (lU A V k):=⟨_,rfl⟩;rw[<- hR']at hds;rw[<- hQ']at w3;clear w1 w2 K nU nV;generalize fp A V (k+1)/4294967296^k/V=d at*
  generalize lU A V (k+1)/4294967296^k%4294967296=od at*
  generalize b6 (m+1) (lU A V (k+1))=Q0 at*
  generalize b6 (n+2+m+1) (fp A V (k+1))=R0 at*
  refine aF (aX ek (k:=aR rfl (aH (aF (aG ?_)))))
  ((refine DE 11 hds 67 0 [] [] (by simp[wk]) (by omega) (pZ rfl) (eW _ _) (by simp[wk]) (by decide) fun K hK=>?_);simp(disch:=omega) only[kd,aa,hn,bu,ek2,ab,Nat.reduceLeDiff,ek3];apply hK;refine⟨⟨rfl,rfl⟩,by simp,?_⟩;intro K hK;simp(disch:=omega) only[kd,aa,SS,cwD,ab,gq,dA,w3];apply hK)
  show bL _ _ _ _;refine bW (k:=?_);refine⟨⟨k,by omega⟩,by simp only;omega,aE ⟨?_,?_,trivial⟩ ?_⟩
  ·simp[be,Hm,hR']
  ·simp[be,Hm,hQ']
  simp[wk]
 have hi0:i=0:=by omega
 subst hi0;rw[en1,en2];generalize b6 (n+2+m+1) (a%b*2^s)=R0 at*
 unfold BD;have l1:=bS (m+1) (a/b);have l2:=bS (n+2+m+1) (a%b);generalize b6 (n+2+m+1) (a%b)=R1 at*
 generalize b6 (m+1) (a/b)=Q1 at*
 generalize a/b=q at*
 generalize a%b=r at*
 refine aF (aK (k:=aJ rfl (bz ?_)));show bL _ _ _ _
 (refine uN 2 sr 67 0 [] [] (by simp[wk]) (by omega) (pZ rfl) (eW _ _) (by simp[wk]) (by decide) fun K hK=>?_;simp only[kd];apply hK;refine⟨⟨rfl,rfl⟩,by simp,?_⟩;intro K hK;simp only[kd,aa,SS,cwD,ab];apply hK)
 refine bL.weak ((bT 67 (bQ rfl)).trans ((bT 74 (bQ rfl)).trans (aE (tm:=(j4 (dw Q1::j4 (jk::jk::dw R1::j16 (j16 (j16 (j16 (j16 (j4 (j4 (j4 ([])))))))))))) (l:=[]) trivial (by simp[wk,gX,fX,be,Hm,gS,gN,List.take_of_length_le,l1,l2])))) ?_;refine cb [⟨1,_,_,_,ht1⟩,⟨3,_,_,_,ht2⟩] (k:=aV @Tryz.results161)
theorem SY {a b:Int} (hb:b≠0) (ha:0<=a):a/b=gD (decide (b<0)) (a.natAbs/b.natAbs)/\a%b=gD false (a.natAbs%b.natAbs):=by
 have e1:tr a b=gD false (a.natAbs%b.natAbs):=by unfold tr;rw[decide_eq_false (by omega)]
 have e2:tq a b=gD (decide (b<0)) (a.natAbs/b.natAbs):=by unfold tq;rw[decide_eq_false (show ¬a<0 by omega)];by_cases h:b<0<;>simp[h]
 rw[<- e1,<- e2];exact D8 hb (by rw[e1];unfold gD;simp;omega)
theorem Pm {a b:Int} (hb:b≠0) (ha:a<0) (h:a.natAbs%b.natAbs=0):a/b=gD (!decide (b<0)) (a.natAbs/b.natAbs)/\a%b=gD false (a.natAbs%b.natAbs):=by
 have e1:tr a b=gD false (a.natAbs%b.natAbs):=by unfold tr;rw[h];unfold gD;simp
 have e2:tq a b=gD (!decide (b<0)) (a.natAbs/b.natAbs):=by unfold tq;rw[decide_eq_true ha];by_cases h:b<0<;>simp[h]
 rw[<- e1,<- e2];exact D8 hb (by rw[e1,h];unfold gD;simp)
theorem SX {a b:Int} (hb:b≠0) (ha:a<0) (h:a.natAbs%b.natAbs≠0):a/b=gD (!decide (b<0)) (a.natAbs/b.natAbs+1)/\a%b=gD false (b.natAbs-a.natAbs%b.natAbs):=by
 have e1:tr a b= -((a.natAbs%b.natAbs:Nat):Int):=by unfold tr;rw[decide_eq_true ha];rfl
 have hlt:a.natAbs%b.natAbs<b.natAbs:=Nat.mod_lt _ (by omega);by_cases hbn:b<0
 ·obtain⟨p1,p2⟩:=Gn (a:=a) hbn (by rw[e1];omega);have e2:tq a b=((a.natAbs/b.natAbs:Nat):Int):=by unfold tq;rw[decide_eq_true ha,decide_eq_true hbn];rfl
  rw[p1,p2,e1,e2,decide_eq_true hbn];generalize a.natAbs/b.natAbs=q at*
  generalize a.natAbs%b.natAbs=r at*
  unfold gD;constructor<;>simp<;>omega
 obtain⟨p1,p2⟩:=Gp (a:=a) (show 0<b by omega) (by rw[e1];omega);have e2:tq a b= -((a.natAbs/b.natAbs:Nat):Int):=by unfold tq;rw[decide_eq_true ha,decide_eq_false hbn];rfl
 rw[p1,p2,e1,e2,decide_eq_false hbn];generalize a.natAbs/b.natAbs=q at*
 generalize a.natAbs%b.natAbs=r at*
 unfold gD;constructor<;>simp<;>omega
def Bd (z:Int):Prop:=Sz z 268435456
theorem IP (a b:Int) (hb0:b≠0) (ha:Bd a) (hb:Bd b):CallC Tryz.prog 157 [tZ a,tZ b] ⟨[],.tup [(true,cZ (a/b)),(true,cZ (a%b)),(false,[.p (.raw (.bool true))])]⟩:=by
 have la:(aL a.natAbs).length<=268435456:=jR ha;have lb:(aL b.natAbs).length<=268435456:=jR hb;have t1:=eK (aL a.natAbs) (by omega);have t2:=eK (aL b.natAbs) (by omega);rw[iG]at t1 t2;have hl0:(aL b.natAbs).length≠0:=fun h=>hb0 (by have:=gh.1 h;omega)
 have hd:=IQ a.natAbs b.natAbs (by omega) la lb;unfold BD at hd;have hr0:=gh (n:=a.natAbs%b.natAbs);have hlt:a.natAbs%b.natAbs<b.natAbs:=Nat.mod_lt _ (by omega);have lq:=pR (show a.natAbs/b.natAbs<=a.natAbs from Nat.div_le_self _ _);have lr:=pR (Nat.le_of_lt hlt);by_cases han:a<0
 ·by_cases hr:a.natAbs%b.natAbs=0
  ·obtain⟨p1,p2⟩:=Pm hb0 han hr;have h8:=fj (!decide (b<0)) (a.natAbs/b.natAbs);have h9:=fj false (a.natAbs%b.natAbs);rw[<- p1]at h8;rw[<- p2]at h9;have hl:(aL (a.natAbs%b.natAbs)).length=0:=hr0.2 hr;clear p1 p2;generalize a.natAbs/b.natAbs=q at*
   generalize a.natAbs%b.natAbs=r at*
   generalize a/b=Q at*
   generalize a%b=R at*
   refine aS Tryz.func157 rfl Tryz.ntmps157 (aT (k:=bN [⟨2,_,_,_,t2⟩] (k:=aF (aK (k:=aJ rfl (aH (bN [⟨2,_,_,_,t1⟩,⟨4,_,_,_,hd⟩] (k:=aK (k:=aF (aG (aF (aG (aF (aG (aF (aF (aK (k:=aJ rfl (aH (aK (k:=aR rfl (bz (bC (k:=bz (bN [⟨2,_,_,_,h8⟩,⟨4,_,_,_,h9⟩] (k:=aV @Tryz.results157))))))))))))))))))))))))))
  obtain⟨p1,p2⟩:=SX hb0 han hr;have h6:=x5 (aL (a.natAbs/b.natAbs)) [1] (aU _) (by intro x hx;simp at hx;omega) (by omega) (by simp);rw[aN,show natV [1]=1 from rfl,show dw [1]= .one (.p (.sl [[.raw (.int .u32 1)]]))from rfl]at h6;have h7:=sh (aL b.natAbs) (aL (a.natAbs%b.natAbs)) (aU _) (aU _) lr (by rw[aN,aN];omega) (by omega);rw[aN,aN]at h7;have h8:=fj (!decide (b<0)) (a.natAbs/b.natAbs+1);have h9:=fj false (b.natAbs-a.natAbs%b.natAbs);rw[<- p1]at h8;rw[<- p2]at h9;have hl:(aL (a.natAbs%b.natAbs)).length≠0:=fun h=>hr (hr0.1 h)
  clear p1 p2;generalize b.natAbs-a.natAbs%b.natAbs=br at*
  generalize a.natAbs/b.natAbs=q at*
  generalize a.natAbs%b.natAbs=r at*
  generalize a/b=Q at*
  generalize a%b=R at*
  refine aS Tryz.func157 rfl Tryz.ntmps157 (aT (k:=bN [⟨2,_,_,_,t2⟩] (k:=aF (aK (k:=aJ rfl (aH (bN [⟨2,_,_,_,t1⟩,⟨4,_,_,_,hd⟩] (k:=aK (k:=aF (aG (aF (aG (aF (aG (aF (aF (aK (k:=aR rfl (bz (bN [⟨2,_,_,_,h6⟩] (k:=UA [⟨2,_,_,_,h7⟩] (k:=bC (k:=bz (bN [⟨2,_,_,_,h8⟩,⟨4,_,_,_,h9⟩] (k:=aV @Tryz.results157)))))))))))))))))))))))))
 obtain⟨p1,p2⟩:=SY hb0 (show 0<=a by omega);have h8:=fj (decide (b<0)) (a.natAbs/b.natAbs);have h9:=fj false (a.natAbs%b.natAbs);rw[<- p1]at h8;rw[<- p2]at h9;clear p1 p2;generalize a.natAbs/b.natAbs=q at*
 generalize a.natAbs%b.natAbs=r at*
 generalize a/b=Q at*
 generalize a%b=R at*
 refine aS Tryz.func157 rfl Tryz.ntmps157 (aT (k:=bN [⟨2,_,_,_,t2⟩] (k:=aF (aK (k:=aJ rfl (aH (bN [⟨2,_,_,_,t1⟩,⟨4,_,_,_,hd⟩] (k:=aK (k:=aF (aG (aF (aG (aF (aG (aF (aF (aK (k:=aJ rfl (aH (aK (k:=aJ rfl (aH (bz (bN [⟨2,_,_,_,h8⟩,⟨4,_,_,_,h9⟩] (k:=aV @Tryz.results157)))))))))))))))))))))))))
structure VX (M:List (List Int)) where
 i:Nat
 hi:i<=M.length
 ok: ∀r∈M.take i,r.length=(M.headD []).length
theorem Nx (M:List (List Int)):CallC Tryz.prog 126 [dj M] ⟨[],TG M⟩:=by
 by_cases h1:M.length<1
 ·rw[gJ (fun h=>by have:=h.1;omega)];refine aS Tryz.func126 rfl Tryz.ntmps126 (aT (k:=aF (aK (k:=aR rfl (bC (k:=aV @Tryz.results126))))))
 by_cases h2:16<M.length
 ·rw[gJ (fun h=>by have:=h.2.1;omega)];refine aS Tryz.func126 rfl Tryz.ntmps126 (aT (k:=aF (aK (k:=aR rfl (bC (k:=aV @Tryz.results126))))))
 have h0:=je (M:=M) (by omega);have hmem0:M.headD []∈M:=aw h0;by_cases c1:(M.headD []).length<1
 ·rw[gJ (fun h=>by have:=(h.2.2 _ hmem0).1;omega)];refine aS Tryz.func126 rfl Tryz.ntmps126 (aT (k:=aF (aK (k:=aJ rfl (aH (aX h0 (k:=aF (aK (k:=aR rfl (bC (k:=aV @Tryz.results126)))))))))))
 by_cases c2:16<(M.headD []).length
 ·rw[gJ (fun h=>by have:=(h.2.2 _ hmem0).2.1;omega)];refine aS Tryz.func126 rfl Tryz.ntmps126 (aT (k:=aF (aK (k:=aJ rfl (aH (aX h0 (k:=aF (aK (k:=aR rfl (bC (k:=aV @Tryz.results126)))))))))))
 refine aS Tryz.func126 rfl Tryz.ntmps126 (aT (k:=aF (aK (k:=aJ rfl (aH (aX h0 (k:=aF (aK (k:=aJ rfl (aH (aF (bC (k:=?_)))))))))))));refine aO (G:=VX M) (fun g=>⟨(dj M::j4 (.raw (.int .i64 ((M.headD []).length:Int))::j16 (j4 (dj M::rN M.length::rN g.i::j4 (j4 (jk::jk::jk::[])))))),Hm []⟩) (fun g=>M.length-g.i) ⟨0,by omega,fun r hr=>by simp at hr⟩ ?_ ?_
 ·refine aE trivial ?_;simp[wk]
 rintro⟨i,hi,ok⟩;simp only;by_cases hm:i<M.length
 ·obtain⟨r,hr⟩:=getElem?_of_lt hm;have hmem:r∈M:=aw hr;refine aK (k:=bv rfl (aF (aG (aX hr (k:=?_)))));by_cases c3:r.length=(M.headD []).length
  ·refine aK (k:=aJ rfl (aH (bW (k:=?_))));refine⟨⟨i+1,by omega,fun r' hr'=>?_⟩,by simp only;omega,aE trivial ?_⟩
   ·rw[List.take_add_one,hr]at hr';rcases List.mem_append.1 hr' with h|h
    ·exact ok r' h
    have:r'=r:=by simpa using h
    subst this;exact c3
   simp[wk]
  rw[gJ (fun h=>by have:=(h.2.2 r hmem).2.2;omega)];refine aK (k:=aR rfl (bC (k:=aV @Tryz.results126)))
 have hsh:Dp M:=⟨by omega,by omega,fun r hr=>by
  have:=ok r (by rw[List.take_of_length_le (by omega)];exact hr);exact⟨by omega,by omega,this⟩⟩
 rw[iE hsh];refine aK (k:=bE rfl (bC (k:=aV @Tryz.results126)))
theorem Ny (M:List (List Int)):CallC Tryz.prog 155 [dV M] ⟨[],TG M⟩:=by
 by_cases h1:M.length<1
 ·rw[gJ (fun h=>by have:=h.1;omega)];refine aS Tryz.func155 rfl Tryz.ntmps155 (aT (k:=aF (aK (k:=aR rfl (bC (k:=aV @Tryz.results155))))))
 by_cases h2:16<M.length
 ·rw[gJ (fun h=>by have:=h.2.1;omega)];refine aS Tryz.func155 rfl Tryz.ntmps155 (aT (k:=aF (aK (k:=aR rfl (bC (k:=aV @Tryz.results155))))))
 have h0:=je (M:=M) (by omega);have hmem0:M.headD []∈M:=aw h0;by_cases c1:(M.headD []).length<1
 ·rw[gJ (fun h=>by have:=(h.2.2 _ hmem0).1;omega)];refine aS Tryz.func155 rfl Tryz.ntmps155 (aT (k:=aF (aK (k:=aJ rfl (aH (aX h0 (k:=aF (aK (k:=aR rfl (bC (k:=aV @Tryz.results155)))))))))))
 by_cases c2:16<(M.headD []).length
 ·rw[gJ (fun h=>by have:=(h.2.2 _ hmem0).2.1;omega)];refine aS Tryz.func155 rfl Tryz.ntmps155 (aT (k:=aF (aK (k:=aJ rfl (aH (aX h0 (k:=aF (aK (k:=aR rfl (bC (k:=aV @Tryz.results155)))))))))))
 refine aS Tryz.func155 rfl Tryz.ntmps155 (aT (k:=aF (aK (k:=aJ rfl (aH (aX h0 (k:=aF (aK (k:=aJ rfl (aH (aF (bC (k:=?_)))))))))))));refine aO (G:=VX M) (fun g=>⟨(dV M::j4 (.raw (.int .i64 ((M.headD []).length:Int))::j16 (j4 (dV M::rN M.length::rN g.i::j4 (j4 (jk::jk::jk::[])))))),Hm []⟩) (fun g=>M.length-g.i) ⟨0,by omega,fun r hr=>by simp at hr⟩ ?_ ?_
 ·refine aE trivial ?_;simp[wk]
 rintro⟨i,hi,ok⟩;simp only;by_cases hm:i<M.length
 ·obtain⟨r,hr⟩:=getElem?_of_lt hm;have hmem:r∈M:=aw hr;refine aK (k:=bv rfl (aF (aG (aX hr (k:=?_)))));by_cases c3:r.length=(M.headD []).length
  ·refine aK (k:=aJ rfl (aH (bW (k:=?_))));refine⟨⟨i+1,by omega,fun r' hr'=>?_⟩,by simp only;omega,aE trivial ?_⟩
   ·rw[List.take_add_one,hr]at hr';rcases List.mem_append.1 hr' with h|h
    ·exact ok r' h
    have:r'=r:=by simpa using h
    subst this;exact c3
   simp[wk]
  rw[gJ (fun h=>by have:=(h.2.2 r hmem).2.2;omega)];refine aK (k:=aR rfl (bC (k:=aV @Tryz.results155)))
 have hsh:Dp M:=⟨by omega,by omega,fun r hr=>by
  have:=ok r (by rw[List.take_of_length_le (by omega)];exact hr);exact⟨by omega,by omega,this⟩⟩
 rw[iE hsh];refine aK (k:=bE rfl (bC (k:=aV @Tryz.results155)))
theorem S6 (a b:Int) (ha:Bg a) (hb:Bg b):CallC Tryz.prog 131 [tZ a,tZ b] ⟨[],.raw (.int .i64 (mX a b))⟩:=by
 have h1:=t8 a ha;have h2:=t8 b hb;have t1:=eK (aL a.natAbs) ha.len;have t2:=eK (aL b.natAbs) hb.len;rw[iG]at t1 t2;have h3:=pN (aL a.natAbs) (aL b.natAbs) (aU _) (aU _) (cn _) (cn _) ha.len hb.len;rw[aN,aN]at h3;have r1:=rt a;have r2:=rt b;have r3:=vi a.natAbs b.natAbs;have r4: -1<=sg a*gF a.natAbs b.natAbs/\sg a*gF a.natAbs b.natAbs<=1:=by
  have:sg a= -1\/sg a=0\/sg a=1:=by omega
  rcases this with h|h|h<;>rw[h]<;>omega
 by_cases hs:sg a=sg b
 ·rw[F4 hs];refine aS Tryz.func131 rfl Tryz.ntmps131 (aT (k:=df [⟨1,_,_,_,h1⟩,⟨3,_,_,_,h2⟩] (k:=aF (aG (aK (k:=aJ rfl (aK (k:=aJ rfl (aH (df [⟨3,_,_,_,t1⟩,⟨6,_,_,_,t2⟩,⟨7,_,_,_,h3⟩] (k:=aV @Tryz.results131)))))))))))
 rw[F5 hs];refine aS Tryz.func131 rfl Tryz.ntmps131 (aT (k:=df [⟨1,_,_,_,h1⟩,⟨3,_,_,_,h2⟩] (k:=aF (aG (bC (k:=?_))))));by_cases hlt:sg a<sg b
 ·rw[if_pos hlt];refine bV rfl (fun _=>?_) (fun h=>by simp at h<;>omega);refine aK (k:=aV @Tryz.results131)
 rw[if_neg hlt];refine bV rfl (fun h=>by simp at h<;>omega) (fun _=>?_);refine aK (k:=aR rfl (bC (k:=aV @Tryz.results131)))
theorem MA (n:Nat) (f:FF) (hn1:1<=n) (hn:n<=16):CallC Tryz.prog 143 [dV (bi n n f)] ⟨[],.tup [(false,[.p (.raw (.int .i64 (n:Int)))]),(false,[.p (.raw (.int .i64 (n:Int)))]),(false,[.p (.raw (.bool true))])]⟩:=by
 have hS:=Ny (bi n n f);rw[iE (mu f hn1 hn hn1 hn),aW,ji f hn1]at hS;refine aS Tryz.func143 rfl Tryz.ntmps143 (aT (k:=cb [⟨1,_,_,_,hS⟩] (k:=aV @Tryz.results143)))
theorem yq (n:Nat) (f:FF) (hn1:1<=n) (hn:n<=16):CallC Tryz.prog 130 [dV (bi n n f)] ⟨[],.tup [(false,[.p (.raw (.int .i64 (n:Int)))]),(false,[.p (.raw (.bool true))])]⟩:=by
 have hS:=MA n f hn1 hn;refine aS Tryz.func130 rfl Tryz.ntmps130 (aT (k:=cb [⟨1,_,_,_,hS⟩] (k:=aK (k:=aV @Tryz.results130))))
theorem Pb (a b c d e:Int) (s:Nat) (hs:s<=67174400) (ha:Sz a s) (hb:Sz b s) (hc:Sz c s) (hd:Sz d s) (he:Sz e s) (he0:e≠0):
  CallC Tryz.prog 150 [tZ a,tZ b,tZ c,tZ d,tZ e] ⟨[],tZ ((a*d-b*c)/e)⟩:=by
 have s1:=ha.mul hd;have s2:=hb.mul hc;have s3:=s1.sub s2;have h1:=LK a d (ha.mono (by omega)) (hd.mono (by omega));have h2:=LK b c (hb.mono (by omega)) (hc.mono (by omega));have h3:=S7 (a*d) (b*c) (s1.mono (by omega)) (s2.mono (by omega));have h4:=IP (a*d-b*c) e he0 (s3.mono (by omega)) (he.mono (by omega));refine aS Tryz.func150 rfl Tryz.ntmps150 (aT (k:=?_));refine bL.weak (aE (tm:=(j4 (jk::.one (.ptr 5 0 0 0)::.one (.ptr 6 0 0 0)::.one (.ptr 7 0 0 0)::.one (.ptr 8 0 0 0)::.one (.ptr 9 0 0 0)::.one (.ptr 10 0 0 0)::j16 (jk::[])))) (l:=[(5,qx a),(6,qx b),(7,qx c),(8,qx d),(9,qx e),(10,tn)]) ⟨rfl,rfl,rfl,rfl,rfl,rfl,trivial⟩ (by simp[wk])) ?_;refine df [⟨2,_,_,_,h1⟩,⟨5,_,_,_,h2⟩,⟨6,_,_,_,h3⟩,⟨8,_,_,_,h4⟩] (k:=aK (k:=aV @Tryz.results150))
abbrev vf (M:List (List Int)):List PV:=[.sl (ls (fR fZ) M)]
theorem TR {n:Nat} {f:FF} {i j:Nat} (hi:i<n) (hj:j<n) (hn:n<=16) (hf:Bg (f i j)):
  CallC Tryz.prog 147 [.raw (.int .i64 (i:Int)),.raw (.int .i64 (j:Int)),.one (.p (.ptr (vf (bi n n f))))] ⟨[],tZ (f i j)⟩:=by
 have hr:=bx n f hi;have hjr:=aQ (f i) hj;have hS:=zG (f i j) hf;refine aS Tryz.func147 rfl Tryz.ntmps147 (aT (k:=dr [⟨7,_,_,_,hS⟩] (aP hr hjr) (k:=aV @Tryz.results147)))
theorem TS (b:Nat) {m:Nat} {g:FF} {last:Int} {i j:Nat} (hi:i+1<m) (hj:j+1<m) (hm:m<=16) (s:Nat) (hs:s<=67174400) (hg: ∀i j,i<m->j<m->Sz (g i j) s) (hl:Sz last s) (hl0:last≠0):
  CallT Tryz.prog b 32 149 [.raw (.int .i64 (i:Int)),.raw (.int .i64 (j:Int)),.one (.p (.ptr (vf (bi m m g)))),.raw (.pointer (some ⟨b,0,none⟩))] (fZ last)
   ⟨[],tZ ((g 0 0*g (i+1) (j+1)-g (i+1) 0*g 0 (j+1))/last)⟩ (fZ last):=by
 have r0:=bx m g (show 0<m by omega);have r1:=bx m g hi;have c00:=aQ (g 0) (show 0<m by omega);have c0j:=aQ (g 0) hj;have ci0:=aQ (g (i+1)) (show 0<m by omega);have cij:=aQ (g (i+1)) hj;have e1:((i:Int)+1).toNat=i+1:=by omega
 have e2:((j:Int)+1).toNat=j+1:=by omega
 have hC:=Pb (g 0 0) (g (i+1) 0) (g 0 (j+1)) (g (i+1) (j+1)) last s hs (hg _ _ (by omega) (by omega)) (hg _ _ hi (by omega)) (hg _ _ (by omega) hj) (hg _ _ hi hj) hl hl0;refine nt Tryz.func149 rfl (by kernel_rfl) ?_;rw[Tryz.ntmps149];refine KC 3 900 rfl rfl ?_;refine eR.weak (aE (tm:=(.raw (.int .i64 (i:Int))::rN j::.one (.p (.ptr (vf (bi m m g))))::.one (.ptr 900 0 0 0)::j16 (j16 (jk::[])))) (l:=[(900,qx last)]) ⟨rfl,trivial⟩ (by simp[wk,KP,zg,ae])) ?_;refine eg (k:=y5 [⟨29,_,_,_,hC⟩] (aP r0 (aP c00 (aP e1 (aP r1 (aP ci0 (aP e2 (aP c0j cij))))))) (k:=?_));refine iX ⟨fZ last,rfl,rfl,.inr rfl,rfl,cd rfl ?_ rfl⟩;simp(disch:=omega) only[kd,Tryz.results149,vT,lK,ab,aa,tZ]
def elF (f:FF) (k:Nat):Nat->Nat->Int:=fun i j=>bk f k (k+i) (k+j)
abbrev Lr (n:Nat) (f:FF) (k:Nat):List (List Int):=bi (n-k) (n-k) (elF f k)
def Dt (n:Nat) (f:FF) (k:Nat):List (List (List Int)):=(List.range k).map (Lr n f)
theorem NE (n:Nat) (f:FF) (k:Nat):Dt n f k++[Lr n f k]=Dt n f (k+1):=by simp[Dt,List.range_succ]
theorem AG (n:Nat) (f:FF) (k:Nat):(Dt n f k).length=k:=by simp[Dt]
theorem Ls (n:Nat) (f:FF):bi n n f=Lr n f 0:=ig fun i j _ _=>by
 show f i j=bk f 0 (0+i) (0+j);rw[dz,Nat.zero_add,Nat.zero_add]
theorem vy {f:FF} {k:Nat} (hd: ∀t,t<k->dk f (t+1)≠0) (i j:Nat):
  (elF f k 0 0*elF f k (i+1) (j+1)-elF f k (i+1) 0*elF f k 0 (j+1))/dk f k=elF f (k+1) i j:=by
 have h0:dk f k≠0:=by
  cases k with
  |zero=>rw[da];decide
  |succ k=>exact hd k (Nat.lt_succ_self k)
 have h:=sylv f k hd (k+1+i) (k+1+j);have e:elF f k 0 0*elF f k (i+1) (j+1)-elF f k (i+1) 0*elF f k 0 (j+1)=dk f k*elF f (k+1) i j:=by
  unfold elF;rw[Nat.add_zero,<- ca,show k+(i+1)=k+1+i by omega,show k+(j+1)=k+1+j by omega,h]
 rw[e,Int.mul_ediv_cancel_left _ h0]
theorem nw (f:FF) (k:Nat):elF f k 0 0=dk f (k+1):=by
 unfold elF;rw[Nat.add_zero,ca]
def fM (M:List (List Int)):List PV:=[.sl (ls (fR fZ) M)]
theorem L3 (l:List (List (List Int))) (M:List (List Int)):lc fM l++[[.p (.sl (ls (fR fZ) M))]]=lc fM (l++[M]):=by simp[lc,fM]
def Ub (n:Nat) (f:FF):Prop:= ∀t,t+1<n->dk f (t+1)≠0
open Classical in
noncomputable def TT (n:Nat) (f:FF):TV:=if Ub n f then .tup [(false,[.p (.sl (ls fM (Dt n f n)))]),(false,[.p (.raw (.bool true))])]else .tup [(false,[.p (.raw (.slice none 0 0))]),(false,[.p (.raw (.bool false))])]
theorem C7 {n:Nat} {f:FF} (h:Ub n f):TT n f= .tup [(false,[.p (.sl (ls fM (Dt n f n)))]),(false,[.p (.raw (.bool true))])]:=if_pos h
theorem Hn {n:Nat} {f:FF} (h: ¬Ub n f):TT n f= .tup [(false,[.p (.raw (.slice none 0 0))]),(false,[.p (.raw (.bool false))])]:=if_neg h
structure Wz (n:Nat) (f:FF) where
 k:Nat
 s:Nat
 hk:k<n
 nz: ∀t,t<k->dk f (t+1)≠0
 hs:s+1<=1025*2^k
 sz: ∀i j,i<n-k->j<n-k->Sz (elF f k i j) s
 sl:Sz (dk f k) s
theorem Kq (n:Nat) (f:FF) (hn1:1<=n) (hn:n<=16) (hf: ∀i j,i<n->j<n->Sz (f i j) 1024):CallC Tryz.prog 132 [dV (bi n n f)] ⟨[],TT n f⟩:=by
 have hQ:=yq n f hn1 hn;have h1:=BO 1 (by omega) (by omega);have hT:=QO 147 (vf (bi n n f)) n n f hn1 hn hn1 hn (fun i j hi hj=>TR hi hj hn ((hf i j hi hj).mono (by omega)));refine aS Tryz.func132 rfl Tryz.ntmps132 (aT (k:=Ic (cb [⟨1,_,_,_,hQ⟩] (k:=aF (bC (k:=aJ rfl (aH ?_)))))));refine bL.weak ((nf 1 1 (cs:=vf (bi n n f)) rfl rfl).trans (aE (tm:=(jk::.one (.p (.ptr (vf (bi n n f))))::.raw (.slice none 0 0)::.raw (.bool false)::rN n::j16 (j16 (j16 (j4 (j4 (jk::[]))))))) (l:=[]) trivial (by simp[wk,gX,fX]))) ?_;refine fw [⟨3,_,_,_,hT⟩] @ke.eq_def (k:=bN [⟨0,_,_,_,h1⟩] (k:=bC (k:=aF (Ib (aF (bC (k:=?_)))))));refine aO (G:=Wz n f) (fun g=>⟨(jk::jk::.raw (.slice none 0 0)::.raw (.bool false)::rN n::jk::dV (Lr n f g.k)::.one (.ptr 7 0 0 0)::.one (.sl 30 0 0 g.k)::j4 (j4 (j4 (jk::jk::rN n::rN g.k::j16 (j16 (j4 (jk::[]))))))),Hm [(7,qx (dk f g.k)),(30,[⟨37,1,lc fM (Dt n f g.k)⟩])]⟩) (fun g=>n-g.k) ⟨0,1024,by omega,fun t ht=>by omega,by omega,fun i j hi hj=>?_,?_⟩ ?_ ?_
 ·show Sz (bk f 0 (0+i) (0+j)) 1024;rw[dz,Nat.zero_add,Nat.zero_add];exact hf i j (by omega) (by omega)
 ·show Sz (dk f 0) 1024;rw[da];exact mJ (by omega)
 ·refine(dx (k:=8) (d:=30) 37 1 (by omega) rfl rfl).trans (aE ⟨?_,rfl,trivial⟩ ?_)
  ·rw[da];rfl
  simp[wk];exact congrArg _ (Ls n f).symm
 rintro⟨k,s,hk,nz,hs,sz,sl⟩;simp only;have h2k:=jU (k:=k) (by omega);have hsb:s<=67174400:=by omega
 have q1:=bx (n-k) (elF f k) (show 0<n-k by omega);have q2:=aQ (elF f k 0) (show 0<n-k by omega);have hSg:=t8 (elF f k 0 0) ((sz 0 0 (by omega) (by omega)).mono (by omega));have hsn:=NE n f k;have hln:=AG n f k;refine aK (k:=bv rfl (aF (aG (bC (k:=aX (aP hln (aP @L3 hsn)) (k:=aF (aG ?_)))))));by_cases hkn:k=n-1
 ·have hnz:Ub n f:=fun t ht=>nz t (by omega)
  rw[C7 hnz];refine aK (k:=aR rfl (bz ?_));show bL _ _ _ _;have hk1:k+1=n:=by omega
  rw[hk1];have hlen:=AG n f n;refine bC (k:=?_);refine bA ⟨.inr rfl,fo 30 (bQ rfl) ?_ rfl⟩;have eT:List.take n (Dt n f n)=Dt n f n:=List.take_of_length_le (by rw[hlen];exact ac _);simp(disch:=omega) only[kd,Tryz.results132,ab,eT]
 refine aK (k:=aJ rfl ?_);by_cases hz:dk f (k+1)=0
 ·have hno: ¬Ub n f:=fun h=>h k (by omega) hz
  rw[Hn hno];rw[nw,hz]at hSg;refine dr [⟨5,_,_,_,hSg⟩] (aP @uw (aP q1 (aP q2 (aP @nw hz)))) (k:=aR rfl (bC (k:=aV @Tryz.results132)))
 have hs0:=CY hz;rw[nw]at hSg q2;refine dr [⟨5,_,_,_,hSg⟩] (aP q1 q2) (k:=aJ rfl (aH (aK (k:=?_))));refine bL.weak ((nf 10 10 (cs:=vf (Lr n f k)) rfl rfl).trans (aE (tm:=(jk::jk::.raw (.slice none 0 0)::.raw (.bool false)::rN n::jk::jk::.one (.ptr 7 0 0 0)::.one (.sl 30 0 0 (k+1))::rN k::.one (.p (.ptr (vf (Lr n f k))))::j4 (j4 (j4 (.raw (.int .i64 (n:Int))::rN k::j16 (j16 (j4 (jk::[])))))))) (l:=[(7,qx (dk f k)),(30,[⟨37,1,lc fM (Dt n f (k+1))⟩])]) ⟨rfl,rfl,trivial⟩ (by simp[wk,gX,fX]))) ?_;refine aF (DD 7 (cs:=fZ (dk f k)) rfl fun b=>?_);refine fb.weak (aE (tm:=(jk::jk::.raw (.slice none 0 0)::.raw (.bool false)::rN n::jk::jk::dI b::.one (.sl 30 0 0 (k+1))::rN k::.one (.p (.ptr (vf (Lr n f k))))::j4 (j4 (j4 (.raw (.int .i64 (n:Int))::rN k::j16 (j16 (j4 (jk::[])))))))) (l:=[(30,[⟨37,1,lc fM (Dt n f (k+1))⟩])]) ⟨rfl,trivial⟩ (by simp[wk,vT,lK])) ?_;have hd0:dk f k≠0:=by
  cases k with
  |zero=>rw[da];decide
  |succ k=>exact nz k (by omega)
 have hT2:=QP 149 (vf (Lr n f k)) b 32 (fZ (dk f k)) (n-(k+1)) (n-(k+1)) (fun i j=>(elF f k 0 0*elF f k (i+1) (j+1)-elF f k (i+1) 0*elF f k 0 (j+1))/dk f k) (by omega) (by omega) (by omega) (by omega)
  (fun i j hi hj=>TS b (by omega) (by omega) (by omega) s hsb sz sl hd0)
 rw[ig fun i j _ _=>vy (f:=f) (k:=k) nz i j]at hT2;have en:((n-(k+1):Nat):Int)=(n:Int)-(k:Int)-1:=by omega
 rw[en]at hT2;refine iM 9 hT2 [] [] (by kernel_rfl) (by rfl) (by rfl) fun _ K=>?_;simp(disch:=omega) only[kd,dV,aa,dI,bu,ke];apply K
 refine⟨rfl,?_⟩;show bL _ _ _ _;refine bL.weak (aE (tm:=(jk::jk::.raw (.slice none 0 0)::.raw (.bool false)::rN n::jk::dV (Lr n f (k+1))::.one (.ptr 7 0 0 0)::.one (.sl 30 0 0 (k+1))::jk::.one (.p (.ptr (vf (Lr n f k))))::j4 (j4 (j4 (.raw (.int .i64 (n:Int))::rN k::j16 (j16 (j4 (jk::[])))))))) (l:=[(7,qx (dk f k)),(30,[⟨37,1,lc fM (Dt n f (k+1))⟩])]) ⟨rfl,rfl,trivial⟩ (by simp[wk,KP,zg])) ?_;refine fc (aP q1 q2) (k:=bW (k:=?_));have nz': ∀t,t<k+1->dk f (t+1)≠0:=fun t ht=>by
  by_cases e:t=k
  ·subst e;exact hz
  exact nz t (by omega)
 refine⟨⟨k+1,2*s+1,by omega,nz',by rw[Nat.pow_succ];omega,fun i j hi hj=>?_,?_⟩,by simp only;omega,aE ⟨rfl,rfl,trivial⟩ ?_⟩
 ·rw[<- vy nz];exact((((sz 0 0 (by omega) (by omega)).mul (sz (i+1) (j+1) (by omega) (by omega))).sub ((sz (i+1) 0 (by omega) (by omega)).mul (sz 0 (j+1) (by omega) (by omega)))).ediv _).mono (by omega)
 ·rw[<- nw];exact(sz 0 0 (by omega) (by omega)).mono (by omega)
 simp[wk]
abbrev pH (M:List (List Int)):AV:= .p (.ptr [.sl (ls (fR fI) M)])
theorem UN {n c:Nat} {f:FF} {i j:Nat} (hi:i<n) (hj:j<c) (hc:c<=16) (hn:n<=16) (hf: -9223372036854775808<=f i j/\f i j<=9223372036854775807):
  CallC Tryz.prog 128 [.raw (.int .i64 (i:Int)),.raw (.int .i64 (j:Int)),.one (pH (bi n c f))] ⟨[],tZ (f i j)⟩:=by
 have hml:=aW n c f;have hr:=bx c f hi;have hjr:=aQ (f i) hj;have hS:=BO (f i j) hf.1 hf.2;refine aS Tryz.func128 rfl Tryz.ntmps128 (pC @pH.eq_1 (k:=dr [⟨7,_,_,_,hS⟩] (aP hr hjr) (k:=aV @Tryz.results128)))
def J9 (d n c i:Nat) (g:FF):List OObj:=⟨61,1,gL d (ae i c)++ae (n-i) [.p (.sl [])]⟩::(bi i c g).map n7
theorem Ip (d n c:Nat) (g:FF):([⟨61,1,ae n [.raw (.slice none 0 0)]⟩]:List OObj).map zO=J9 d n c 0 g:=by
 simp[J9,bi,zO,gL,Dm,Dv]
theorem KR (d n c:Nat) (g:FF):J9 d n c n g=gp d n c g:=by
 simp[J9]
theorem KS {d n c i:Nat} (g:FF) (hi:i<n) (hz: ∀b,b<c->g i b=0):
  ((⟨61,1,(gL d (ae i c)++ae (n-i) [AV.p (PV.sl [])]).set i [.sl d (i+1) 0 c]⟩::(bi i c g).map n7++[⟨32,2,ae c [.raw (.bool false),.raw (.slice none 0 0)]⟩]:List OObj)).map zO=J9 d n c (i+1) g:=by
 have e1:(gL d (ae i c)++ae (n-i) [AV.p (PV.sl [])]).set i [.sl d (i+1) 0 c]=gL d (ae (i+1) c)++ae (n-(i+1)) [AV.p (PV.sl [])]:=by
  rw[List.set_append_right _ _ (by simp[cf]),cf,List.length_replicate,Nat.sub_self,List.replicate_succ' (n:=i),og,List.length_replicate,List.append_assoc]
  congr 1
  rw[show n-i=n-(i+1)+1 by omega,List.replicate_succ];rfl
 have e2:bj c (g i)=ae c 0:=by
  apply List.ext_getElem?;intro b;by_cases hb:b<c
  ·rw[aQ _ hb,List.getElem?_replicate,if_pos hb,hz b hb]
  rw[List.getElem?_eq_none (by rw[bf];omega),List.getElem?_eq_none (by simp;omega)]
 have e3:bi (i+1) c g=bi i c g++[bj c (g i)]:=by simp[bi,List.range_succ]
 rw[e1];simp only[List.cons_append,List.map_cons,List.map_append,J9,e3,List.map_map]
 congr 1
 ·simp[zO,RM,Dm,Dv]
 congr 1
 ·refine List.map_congr_left fun r _=>?_
  simp[zO,n7,UZ]
 simp[e2,zO,n7,lc,fZ,Dm,Dv,cx,ls]
theorem OU {d n c i k:Nat} (h:k<i):(gL d (ae i c)++ae (n-i) [AV.p (PV.sl [])])[k]?=some [.sl d (k+1) 0 c]:=by
 rw[List.getElem?_append_left (by simp[cf];exact h),bJ d c h]
theorem OV {d n c i:Nat} (h:i<=n):(gL d (ae i c)++ae (n-i) [AV.p (PV.sl [])]).length=n:=by simp[cf];omega
theorem OW (n c:Nat) (f:FF) (hn1:1<=n) (hn:n<=16) (hc1:1<=c) (hc:c<=16) (hf: ∀i j,i<n->j<c-> -9223372036854775808<=f i j/\f i j<=9223372036854775807):
  CallC Tryz.prog 127 [.raw (.int .i64 (n:Int)),.raw (.int .i64 (c:Int)),.fn 128 [pH (bi n c f)]] ⟨gp 0 n c f,.one (.sl 0 0 0 n)⟩:=by
 refine aS Tryz.func127 rfl Tryz.ntmps127 (pC @pH.eq_1 (k:=aK (k:=aF (bC (k:=?_)))));refine aO (G:=iJ n) (fun g=>⟨(jk::rN c::.fn 128 [pH (bi n c f)]::j4 (.one (.sl 11 0 0 n)::j4 (jk::rN n::rN g.i::j16 (j4 (j4 (j4 ([]))))))),Hm [(11,J9 11 n c g.i (part f g.i 0))]⟩) (fun g=>n-g.i) ⟨0,by omega⟩ ?_ ?_
 ·refine(gR 11).trans (aE ⟨Ip 11 n c _,trivial⟩ ?_);simp[wk]
 rintro⟨i,hi⟩;simp only;by_cases hm:i<n
 ·have hg:=Hz (d:=11) (c:=c) hm;refine aX @pH.eq_1 (k:=bv rfl (aF (aG (bC (k:=?_)))));simp only[J9];refine aX (aP hg (aP @List.length_replicate.{0} (aP @List.all_replicate.{0} @aW))) (k:=?_);refine bL.weak ((gR 11).trans (aE (tm:=(jk::rN c::.fn 128 [pH (bi n c f)]::j4 (.one (.sl 11 0 0 n)::rN i::j4 (.raw (.int .i64 (n:Int))::rN i::j16 (j4 (j4 (j4 ([])))))))) (l:=[(11,J9 11 n c (i+1) (part f i 0))]) ⟨KS (part f i 0) hm (fun b _=>by simp[part]),trivial⟩ (by simp[wk]))) ?_;have a1:=OU (d:=11) (n:=n) (c:=c) (show i<i+1 by omega);have a2:=OV (d:=11) (n:=n) (c:=c) (show i+1<=n by omega);have a3:=dU (n:=i+1) c (part f i 0) (show i<i+1 by omega);simp only[J9];refine aX (aP @pH.eq_1 a1) (k:=?_);refine aO (G:=iJ c) (fun g=>⟨(jk::rN c::.fn 128 [pH (bi n c f)]::j4 (.one (.sl 11 0 0 n)::rN i::j4 (.raw (.int .i64 (n:Int))::rN i::j4 (j4 (jk::jk::jk::rN c::rN g.i::j4 (j4 (j4 (jk::jk::jk::[])))))))),Hm [(11,J9 11 n c (i+1) (part f i g.i))]⟩) (fun g=>c-g.i) ⟨0,by omega⟩ ?_ ?_
  ·refine aE ⟨rfl,trivial⟩ ?_;simp[wk]
  rintro⟨j,hj⟩;simp only;by_cases hm2:j<c
  ·have hS:=UN (n:=n) (c:=c) (f:=f) hm hm2 hc hn (hf i j hm hm2);have g2:=dU (n:=i+1) c (part f i j) (show i<i+1 by omega);have g3:=aQ (part f i j i) hm2;refine aX @pH.eq_1 (k:=bv rfl (aF (aG (bC (k:=?_)))));simp only[J9];refine f5 [⟨8,_,_,_,hS⟩] (aP @pH.eq_1 (aP a1 (aP g2 (aP g3 @iB)))) (k:=bW (k:=?_));refine⟨⟨j+1,by omega⟩,by simp only;omega,aE ⟨?_,trivial⟩ ?_⟩
   ·show _::_=_::_;rw[b7 fun a b _ _=>iR f i j a b]
   simp[wk]
  have hjc:j=c:=by omega
  subst hjc;refine aX @pH.eq_1 (k:=bE rfl (bW (k:=?_)));refine⟨⟨i+1,by omega⟩,by simp only;omega,aE ⟨?_,trivial⟩ ?_⟩
  ·show _::_=_::_;rw[b7 fun a b _ hb=>ko f i a b hb]
  simp[wk]
 have hin:i=n:=by omega
 subst hin;rw[KR];refine aX @pH.eq_1 (k:=bE rfl (bC (k:=?_)));refine bA ⟨.inr rfl,_,ci.refl _,?_⟩;refine⟨.one (.sl 11 0 0 i),11,?_,rfl,?_,rfl⟩
 ·simp(disch:=omega) only[kd,Tryz.results127]
 show gp 0 i c f=(gp 11 i c (part f i 0)).map (renO 0);rw[fE 11 0];show _::_=_::_;rw[b7 fun a b ha _=>kn f a b ha]
theorem Ct (n c:Nat) (f:FF) (hn1:1<=n) (hn:n<=16) (hc1:1<=c) (hc:c<=16) (hf: ∀i j,i<n->j<c-> -9223372036854775808<=f i j/\f i j<=9223372036854775807):
  CallC Tryz.prog 98 [dj (bi n c f)] ⟨[],Po (bi n c f)⟩:=by
 have hml:=aW n c f;have h0:=je (M:=bi n c f) (by omega);have h1:=bx (n:=n) c f (i:=0) (by omega);have hhd:(bi n c f).headD []=bj c (f 0):=by rw[h1]at h0;injection h0 with h0;exact h0.symm
 have hsh:Dp (bi n c f):=⟨by omega,by omega,fun r hr=>by
  obtain⟨i,_,rfl⟩:=List.mem_map.1 hr;rw[hhd];simp[rOk,bf];omega⟩
 have hS:=Nx (bi n c f);rw[iE hsh,hml,hhd,bf]at hS;have hB:=OW n c f hn1 hn hc1 hc hf;unfold Po;refine aS Tryz.func98 rfl Tryz.ntmps98 (aT (k:=cb [⟨1,_,_,_,hS⟩] (k:=aF (bC (k:=aJ rfl (aH ?_))))));refine bL.weak ((nf 1 1 (cs:=[.sl (ls (fR fI) (bi n c f))]) rfl rfl).trans (aE (tm:=(jk::.one (pH (bi n c f))::jk::jk::rN n::rN c::j4 (j4 (j4 (jk::[]))))) (l:=[]) trivial (by simp[wk,gX,fX,be,Hm]))) ?_;refine fw [⟨3,_,_,_,hB⟩] (aP @pH.eq_1 @ke.eq_def) (k:=?_);refine bL.weak (aE (tm:=(jk::jk::.one (.sl 18 0 0 n)::.raw (.bool true)::j4 (j4 (j4 (jk::jk::jk::[]))))) (l:=[(18,gp 18 n c f)]) ⟨fE 0 18 n c f,trivial⟩ (by simp[wk])) ?_;refine bL.weak ((bT 18 (iv rfl)).trans (aE (tm:=(jk::jk::dV (bi n c f)::.raw (.bool true)::j4 (j4 (j4 (jk::jk::jk::[]))))) (l:=[]) trivial (by simp[wk];exact⟨(LA (H:=Hm [(18,gp 18 n c f)]) (d:=18) (n:=n) (c:=c) (f:=f) rfl).symm,rfl⟩))) ?_
 (refine bA ⟨.inr rfl,cd rfl ?_ rfl⟩;simp(disch:=omega) only[kd,Tryz.results98,dV])
section
def PD (f:FF) (n:Nat):Prop:=SymF f n/\ ∀k,k<n->0<dk f (k+1)
theorem RedR.pd {f:FF} {n:Nat} (h:RedR f n):PD f n:=⟨h.1,h.2.1⟩
theorem PD.det {f:FF} {n:Nat} (h:PD f n):0<dk f n:=by
 cases n with
 |zero=>rw[da];omega
 |succ n=>exact h.2 n (by omega)
variable {n:Nat}
theorem jE {f:FF} {x y:Nat->Int} (h0: ∀i,i<n->x i=0):BF n f x y=0:=by
 unfold BF;rw[aI n (G:=fun _=>0) (fun i hi=>by rw[h0 i hi,Int.zero_mul]),cX]
theorem PD.pos {f:FF} (hr:PD f n) (x:Nat->Int):0<=BF n f x x/\(BF n f x x=0↔ ∀i,i<n->x i=0):=by
 have h:=pe hr.1 hr.2 x n 0 rfl;have e:BF n (bk f 0) x x=BF n f x x:=dY (fun i j _ _=>dz f i j) (fun _ _=>rfl) (fun _ _=>rfl);rw[e]at h;exact⟨h.1,fun hz i hi=>h.2 hz i (by omega) hi,fun h0=>jE h0⟩
theorem PD.schwarz {f:FF} (hr:PD f n) (x y:Nat->Int):BF n f x y*BF n f x y<=BF n f x x*BF n f y y:=by
 have hs:=pr hr.1 x y;obtain⟨h1,h2⟩:=hr.pos y;obtain⟨q,hq⟩: ∃q,q=BF n f x y:=⟨_,rfl⟩;obtain⟨o,ho⟩: ∃o,o=BF n f y y:=⟨_,rfl⟩;obtain⟨N,hN⟩: ∃N,N=BF n f x x:=⟨_,rfl⟩;have hpos:=(hr.pos (fun i=>(0+o*x i)+(-q)*y i)).1;have e:BF n f (fun i=>(0+o*x i)+(-q)*y i) (fun i=>(0+o*x i)+(-q)*y i)=o*(o*N-q*q):=by
  have ez: ∀u,BF n f (fun _=>0) u=0:=fun u=>jE fun _ _=>rfl
  have ez': ∀u,BF n f u (fun _=>0)=0:=fun u=>by rw[pr hr.1,ez]
  rw[iW f (fun i=>0+o*x i) y,gP f (fun i=>0+o*x i) (fun i=>0+o*x i) y,gP f y (fun i=>0+o*x i) y,
   iW f (fun _=>0) x,iW f (fun _=>0) x,gP f x (fun _=>0) x,gP f y (fun _=>0) x,ez,ez,ez',ez',<- hs,<- hq,<- ho,<- hN]
  grind
 rw[e]at hpos;rw[<- hq,<- ho,<- hN];rw[<- ho]at h1 h2;rcases Int.lt_or_le 0 o with h|h
 ·rcases Int.lt_or_le (o*N-q*q) 0 with hl|hl
  ·have:=Int.mul_neg_of_pos_of_neg h hl;omega
  have e2:N*o=o*N:=Int.mul_comm _ _;omega
 have ho0:o=0:=by omega
 have hy:=h2.1 ho0;have hq0:q=0:=by rw[hq,hs];exact jE hy
 rw[hq0,ho0];simp
/-! The column of cofactors. -/
def eC (i:Nat):Nat->Int:=fun r=>if r=i then 1 else 0
def i9 (f:FF) (n j:Nat):Nat->Int:=fun i=>dk (dH f j (eC i)) n
theorem TK (S:Nat->Int) (m r:Nat):smF (fun i=>S i*eC i r) m=if r<m then S r else 0:=by
 induction m with
 |zero=>simp[smF]
 |succ m ih=>
  rw[smF,ih];unfold eC;by_cases h:r=m
  ·subst h;simp
  have:r<m+1↔r<m:=by omega
  simp[h,this]
theorem tu {f:FF} {j:Nat} (hj:j<n) (S:Nat->Int): ∀m,dk (dH f j (fun r=>smF (fun i=>S i*eC i r) m)) n=smF (fun i=>S i*i9 f n j i) m
 |0=>Gm hj fun i _=>rfl
 |m+1=>by
  have h:=r6 (R:=f) hj 1 (S m) (fun r=>smF (fun i=>S i*eC i r) m) (eC m);rw[tu hj S m]at h;have e:(fun r=>smF (fun i=>S i*eC i r) (m+1))=fun r=>1*smF (fun i=>S i*eC i r) m+S m*eC m r:=by
   funext r;rw[smF,Int.one_mul]
  rw[e,h,smF,Int.one_mul];rfl
theorem Pk {f:FF} {j:Nat} (hj:j<n) (S:Nat->Int):dk (dH f j S) n=smF (fun i=>S i*i9 f n j i) n:=by
 rw[<- tu hj S n];refine iu fun r c hr _=>?_
 unfold dH;split
 ·show S r=smF (fun i=>S i*eC i r) n;rw[TK,if_pos hr]
 rfl
theorem FS {f:FF} {j k:Nat} (hj:j<n) (hk:k<n):smF (fun i=>f i k*i9 f n j i) n=if k=j then dk f n else 0:=by
 rw[<- Pk hj fun i=>f i k];split
 ·rename_i h;subst h;rw[oF]
 rename_i h;exact vp hj hk (Ne.symm h)
theorem yN {f:FF} (hs:SymF f n) {j:Nat} (hj:j<n) (x:Nat->Int):BF n f x (i9 f n j)=x j*dk f n:=by
 unfold BF;rw[aI n (G:=fun i=>x i*(if i=j then dk f n else 0)) (fun i hi=>by
  rw[<- FS hj hi]
  congr 1
  exact aI n fun l hl=>by rw[hs i hi l hl])]
 rw[gU hj (fun p _ hne=>by rw[if_neg hne,Int.mul_zero]),if_pos rfl]
def zo (f:FF) (j m:Nat):Nat->Nat->Int:=fun i l=>if l=j then eC j i else if i=j/\l<m then 0 else f i l
theorem D6 {f:FF} {j:Nat} (hj:j<n): ∀m,m<=n->dk (zo f j m) n=i9 f n j j
 |0,_=>by
  unfold i9
  congr 1
  funext i l;unfold zo dH;split
  ·rfl
  rw[if_neg (by omega)]
 |m+1,hm=>by
  rw[<- D6 hj m (by omega)];by_cases h:m=j
  ·congr 1
   funext i l;unfold zo;by_cases hl:l=j
   ·rw[if_pos hl,if_pos hl]
   rw[if_neg hl,if_neg hl];have:(i=j/\l<m+1)↔(i=j/\l<m):=by omega
   simp only[this]
  have h1:=oH (R:=zo f j m) (n:=n) (a:=m) (b:=j) (by omega) hj h (-(zo f j m j m));rw[<- h1]
  congr 1
  funext i l;unfold dH;by_cases hl:l=m
  ·subst hl;rw[if_pos rfl];unfold zo eC;by_cases hi:i=j
   ·subst hi;simp[h]<;>omega
   simp[h,hi]
  rw[if_neg hl];unfold zo;split
  ·rfl
  have:(i=j/\l<m+1)↔(i=j/\l<m):=by omega
  simp only[this]
theorem Bp (f:FF) (k:Nat):i9 f (k+1) k k=dk f k:=by
 rw[<- D6 (by omega) (k+1) (ac _),ca,bk,dR,oK (jB k) _ (fun c hc=>by
  have:=jv hc;unfold zo;rw[if_neg (by omega),if_pos ⟨rfl,by omega⟩])]
 have e:om (zo f k (k+1)) k (jB k)=dk f k:=oW fun i hi c hc=>by
  have:=jv hc;unfold zo;rw[if_neg (by omega),if_neg (by omega)]
 rw[e];unfold zo eC
 simp
theorem Jw {f:FF} (hs:SymF f n) (hp: ∀x:Nat->Int,(∃i,i<n/\x i≠0)->0<BF n f x x):PD f n:=by
 refine⟨hs,fun k hk=>?_⟩;have go: ∀k,k<=n->0<dk f k:=fun k=>by
  induction k with
  |zero=>intro _;rw[da];omega
  |succ k ih=>
   intro hk;have h0:=ih (by omega);have hsk:SymF f (k+1):=fun i hi j hj=>hs i (by omega) j (by omega)
   have h1:=yN (n:=k+1) hsk (j:=k) (by omega) (i9 f (k+1) k);rw[Bp]at h1;have h2:=hp (fun i=>if i<k+1 then i9 f (k+1) k i else 0) ⟨k,by omega,by simp[Bp];omega⟩;have e:BF n f (fun i=>if i<k+1 then i9 f (k+1) k i else 0) (fun i=>if i<k+1 then i9 f (k+1) k i else 0)=BF (k+1) f (i9 f (k+1) k) (i9 f (k+1) k):=by
    have ext: ∀(F:Nat->Int) (m:Nat),smF (fun i=>if i<k+1 then F i else 0) (k+1+m)=smF F (k+1):=fun F m=>by
     induction m with
     |zero=>exact aI _ fun p hp=>if_pos hp
     |succ m ihm=>rw[<- Nat.add_assoc,smF,ihm,if_neg (by omega)];omega
    obtain⟨m,rfl⟩: ∃m,n=k+1+m:=⟨n-(k+1),by omega⟩;unfold BF;rw[<- ext (fun i=>i9 f (k+1) k i*smF (fun j=>f i j*i9 f (k+1) k j) (k+1)) m];refine aI _ fun i _=>?_
    show(if i<k+1 then i9 f (k+1) k i else 0)*smF (fun j=>f i j*(if j<k+1 then i9 f (k+1) k j else 0)) _=_;by_cases hi:i<k+1
    ·rw[if_pos hi,if_pos hi,<- ext (fun j=>f i j*i9 f (k+1) k j) m]
     congr 1
     exact aI _ fun j _=>by
      by_cases hj:j<k+1
      ·rw[if_pos hj,if_pos hj]
      rw[if_neg hj,if_neg hj,Int.mul_zero]
    rw[if_neg hi,if_neg hi,Int.zero_mul]
   rw[e,h1]at h2;rcases Int.lt_or_le 0 (dk f (k+1))with h|h
   ·exact h
   have:=Int.mul_nonpos_of_nonneg_of_nonpos (Int.le_of_lt h0) h;omega
 exact go (k+1) (by omega)
theorem vF {t:FF} (hd:dk t n≠0) {x:Nat->Int} (h: ∀i,i<n->smF (fun j=>t i j*x j) n=0): ∀j,j<n->x j=0:=fun j hj=>by
 have h1:smF (fun i=>smF (fun l=>t i l*x l) n*i9 t n j i) n=0:=by
  rw[aI n (G:=fun _=>0) (fun i hi=>by rw[h i hi,Int.zero_mul]),cX]
 have h2:smF (fun i=>smF (fun l=>t i l*x l) n*i9 t n j i) n=smF (fun l=>smF (fun i=>t i l*x l*i9 t n j i) n) n:=by
  rw[<- eQ];exact aI n fun i _=>by rw[<- jr]
 have h3:smF (fun l=>smF (fun i=>t i l*x l*i9 t n j i) n) n=smF (fun l=>x l*(if l=j then dk t n else 0)) n:=
  aI n fun l hl=>by
   rw[<- FS hj hl,<- bH];exact aI n fun i _=>by grind
 rw[h2,h3,gU hj (fun p _ hne=>by rw[if_neg hne,Int.mul_zero]),if_pos rfl]at h1;rcases Int.mul_eq_zero.1 h1 with h|h
 ·exact h
 exact absurd h hd
/-! Bounds. -/
def AP (r:Nat->Int):List Nat->Nat
 |[]=>0
 |c::cs=>(r c).natAbs+AP r cs
theorem BY {r:Nat->Int} {B:Nat}: ∀(cs:List Nat) (F:List Nat->Int),(∀l,l.Sublist cs->(F l).natAbs<=B)->(dR r F cs).natAbs<=AP r cs*B
 |[],_,_=>by simp[dR]
 |c::cs,F,h=>by
  rw[dR,AP,Nat.add_mul];have h1:=Int.natAbs_sub_le (r c*F cs) (dR r (fun l=>F (c::l)) cs);have h2:=BY (r:=r) cs (fun l=>F (c::l)) (fun l hl=>h (c::l) (List.Sublist.cons_cons c hl));rw[Int.natAbs_mul]at h1;have h3:=Nat.mul_le_mul_left (r c).natAbs (h cs (List.sublist_cons_self c cs));omega
theorem Qn {r:Nat->Int} {l m:List Nat} (h:l.Sublist m):AP r l<=AP r m:=by
 induction h with
 |slnil=>exact ac _
 |cons a _ ih=>rw[AP];omega
 |cons_cons a _ ih=>rw[AP,AP];omega
def RI (R:FF) (cs:List Nat):Nat->Nat
 |0=>1
 |k+1=>AP (R k) cs*RI R cs k
theorem GW (R:FF) (cs:List Nat): ∀k (l:List Nat),l.Sublist cs->(om R k l).natAbs<=RI R cs k
 |0,l,_=>by simp[om,RI]
 |k+1,l,hl=>by
  rw[om,RI];have h:=BY (r:=R k) (B:=RI R cs k) l (om R k) (fun m hm=>GW R cs k m (hm.trans hl));exact aA h (Nat.mul_le_mul_right _ (Qn hl))
theorem ME {R:FF} {cs:List Nat} {j A:Nat} (hr: ∀i,i<n->i≠j->AP (R i) cs<=A) (h1:AP (R j) cs<=1): ∀k,k<=n->RI R cs k<=if j<k then A^(k-1)else A^k
 |0,_=>by simp[RI]
 |k+1,hkn=>by
  have ih:=ME hr h1 k (by omega);rw[RI];by_cases h:k=j
  ·subst h;rw[if_neg (by omega)]at ih;rw[if_pos (by omega),Nat.add_sub_cancel];exact aA (Nat.mul_le_mul h1 ih) (by omega)
  have h2:=hr k (by omega) h;by_cases hk:j<k
  ·rw[if_pos hk]at ih;rw[if_pos (by omega),Nat.add_sub_cancel];obtain⟨m,rfl⟩: ∃m,k=m+1:=⟨k-1,by omega⟩;rw[Nat.add_sub_cancel]at ih;rw[Nat.pow_succ,Nat.mul_comm (A^m)];exact Nat.mul_le_mul h2 ih
  rw[if_neg hk]at ih;rw[if_neg (by omega),Nat.pow_succ,Nat.mul_comm (A^k)];exact Nat.mul_le_mul h2 ih
theorem M6 {r:Nat->Int} {B j:Nat} (h0:r j=0): ∀m,(∀c,c<m->(r c).natAbs<=B)->AP r (jB m)<=if j<m then(m-1)*B else m*B
 |0,_=>by simp[jB,AP]
 |m+1,h=>by
  have ih:=M6 h0 m (fun c hc=>h c (by omega));rw[jB,AP];by_cases e:m=j
  ·subst e;rw[if_neg (by omega)]at ih;rw[if_pos (by omega),h0,Nat.add_sub_cancel];simpa using ih
  have h2:=h m (by omega);by_cases hk:j<m
  ·rw[if_pos hk]at ih;rw[if_pos (by omega),Nat.add_sub_cancel];have:m*B=(m-1)*B+B:=by
    obtain⟨q,rfl⟩: ∃q,m=q+1:=⟨m-1,by omega⟩;rw[Nat.add_sub_cancel,Nat.add_mul,Nat.one_mul]
   omega
  rw[if_neg hk]at ih;rw[if_neg (by omega),Nat.add_mul,Nat.one_mul];omega
theorem CO {r:Nat->Int} {j:Nat} (h1:r j=1): ∀m,(∀c,c<m->c≠j->r c=0)->AP r (jB m)<=if j<m then 1 else 0
 |0,_=>by simp[jB,AP]
 |m+1,h0=>by
  have ih:=CO h1 m (fun c hc=>h0 c (by omega));rw[jB,AP];by_cases e:m=j
  ·subst e;rw[if_neg (by omega)]at ih;rw[if_pos (by omega),h1];have:(1:Int).natAbs=1:=rfl;omega
  rw[h0 m (by omega) e];by_cases hk:j<m
  ·rw[if_pos hk]at ih;rw[if_pos (by omega)];simpa using ih
  rw[if_neg hk]at ih;rw[if_neg (by omega)];simpa using ih
theorem So {f:FF} {j B:Nat} (hj:j<n) (hf: ∀a b,a<n->b<n->(f a b).natAbs<=B):(i9 f n j j).natAbs<=(n*B)^(n-1):=by
 rw[<- D6 hj n (ac _)];have h1:=GW (zo f j n) (jB n) n (jB n) (List.Sublist.refl _);have hrow: ∀i,i<n->i≠j->AP (zo f j n i) (jB n)<=n*B:=fun i hi hij=>by
  have:=M6 (r:=zo f j n i) (B:=B) (j:=j) (by unfold zo eC;simp[hij]) n (fun c hc=>by
   unfold zo eC;split
   ·simp[hij]
   rw[if_neg (fun h=>hij h.1)];exact hf i c hi hc)
  rw[if_pos hj]at this;exact aA this (Nat.mul_le_mul_right _ (by omega))
 have hu:=CO (r:=zo f j n j) (j:=j) (by unfold zo eC;simp) n (fun c hc hne=>by
  unfold zo;rw[if_neg hne,if_pos ⟨rfl,hc⟩])
 rw[if_pos hj]at hu;have h2:=ME (n:=n) hrow hu n (ac _);rw[if_pos hj]at h2;exact aA h1 h2
theorem K8 {f:FF} {j B:Nat} (hr:PD f n) (hj:j<n) (hf: ∀a b,a<n->b<n->(f a b).natAbs<=B) (x:Nat->Int) {N:Int} (hN:BF n f x x<=N):x j*x j<=N*((n*B)^(n-1):Nat):=by
 have h1:=hr.schwarz x (i9 f n j);rw[yN hr.1 hj,yN hr.1 hj]at h1;have hd:=hr.det;have h2:=So hj hf;have hx0:=(hr.pos x).1;have hy0:=(hr.pos (i9 f n j)).1;rw[yN hr.1 hj]at hy0;generalize i9 f n j j=a at*
 generalize dk f n=d at*
 generalize BF n f x x=M at*
 generalize(n*B)^(n-1)=A at*
 have ha:0<=a:=by
  rcases Int.lt_or_le a 0 with h|h
  ·have:=Int.mul_neg_of_neg_of_pos h hd;omega
  exact h
 have e1:x j*d*(x j*d)=(x j*x j*d)*d:=by grind
 have e2:M*(a*d)=(M*a)*d:=by grind
 rw[e1,e2]at h1;have h3:=Int.le_of_mul_le_mul_right h1 hd;have hsq:0<=x j*x j:=by
  rcases Int.le_total 0 (x j)with h|h
  ·exact Int.mul_nonneg h h
  exact Int.mul_nonneg_of_nonpos_of_nonpos h h
 have h4:x j*x j*1<=x j*x j*d:=Int.mul_le_mul_of_nonneg_left hd hsq;have h5:M*a<=N*a:=Int.mul_le_mul_of_nonneg_right hN ha;have h6:N*a<=N*(A:Int):=Int.mul_le_mul_of_nonneg_left (by omega) (by omega);omega
end
def dg (code j:Nat):Int:=((code/3^j%3:Nat):Int)-1
theorem Lg (code j:Nat): -1<=dg code j/\dg code j<=1:=by
 have:=Nat.mod_lt (code/3^j) (show 0<3 by omega);unfold dg;omega
def mY (i code:Nat):Nat->Int:=fun j=>if j<i then dg code j else if j=i then 1 else 0
def nrm (n:Nat) (f:FF) (x:Nat->Int):Int:=BF n f x x
theorem fm {n:Nat} {f:FF} {x y:Nat->Int} (h: ∀i,i<n->x i=y i):nrm n f x=nrm n f y:=dY (fun _ _ _ _=>rfl) h h
theorem km {n:Nat} {f:FF} {i:Nat} (hi:i<n):nrm n f (eC i)=f i i:=by
 have e: ∀F:Nat->Int,smF (fun j=>F j*eC i j) n=F i:=fun F=>by
  rw[gU hi (fun p _ hne=>by unfold eC;rw[if_neg hne,Int.mul_zero])];unfold eC;rw[if_pos rfl,Int.mul_one]
 unfold nrm BF;rw[aI n (G:=fun k=>f k i*eC i k) (fun k _=>by rw[e (f k)];exact Int.mul_comm _ _),e fun k=>f k i]
def lB (n:Nat) (f:FF) (i:Nat):Nat->Nat->Int
 |0=>eC i
 |k+1=>if nrm n f (mY i k)<nrm n f (lB n f i k)then mY i k else lB n f i k
theorem Nw {n:Nat} {f:FF} {i:Nat} (hi:i<n): ∀k,nrm n f (lB n f i k)<=f i i/\ ∀c,c<k->nrm n f (lB n f i k)<=nrm n f (mY i c)
 |0=>⟨by rw[lB,km hi];omega,fun c hc=>by omega⟩
 |k+1=>by
  obtain⟨h1,h2⟩:=Nw (f:=f) hi k;by_cases h:nrm n f (mY i k)<nrm n f (lB n f i k)
  ·rw[show lB n f i (k+1)=mY i k from if_pos h];refine⟨by omega,fun c hc=>?_⟩;by_cases e:c=k
   ·subst e;omega
   have:=h2 c (by omega);omega
  rw[show lB n f i (k+1)=lB n f i k from if_neg h];refine⟨h1,fun c hc=>?_⟩;by_cases e:c=k
  ·subst e;omega
  exact h2 c (by omega)
def VioP (n:Nat) (f:FF) (i:Nat):Prop:= ∃c,c<3^i/\nrm n f (mY i c)<f i i
theorem C1 {n:Nat} {f:FF} {i:Nat} (hi:i<n): ∀k,(∀c,c<k->f i i<=nrm n f (mY i c))->lB n f i k=eC i
 |0,_=>rfl
 |k+1,h=>by
  have ih:=C1 hi k fun c hc=>h c (by omega)
  have:=h k (by omega);rw[lB,ih,km hi,if_neg (by omega)]
theorem E8 {n:Nat} {f:FF} {i:Nat} (hi:i<n) (h:VioP n f i):nrm n f (lB n f i (3^i))<f i i:=by
 obtain⟨c,h1,h2⟩:=h;have:=(Nw (f:=f) hi (3^i)).2 c h1;omega
theorem QC {n:Nat} {f:FF} {i:Nat} (hi:i<n):(∀j,j<n->lB n f i (3^i) j=eC i j)↔ ¬VioP n f i:=by
 constructor
 ·intro h hv;have h1:=E8 hi hv;rw[fm h,km hi]at h1;omega
 intro h j _;rw[C1 hi (3^i) fun c hc=>by
  rcases Int.lt_or_le (nrm n f (mY i c)) (f i i)with hl|hl
  ·exact absurd ⟨c,hc,hl⟩ h
  exact hl]
theorem He (n:Nat) (f:FF) (i:Nat): ∀k,lB n f i k=eC i\/ ∃c,c<k/\lB n f i k=mY i c
 |0=> .inl rfl
 |k+1=>by
  rw[lB];split
  ·exact .inr ⟨k,by omega,rfl⟩
  rcases He n f i k with h|⟨c,hc,h⟩
  ·exact .inl h
  exact .inr ⟨c,by omega,h⟩
theorem wP (n:Nat) (f:FF) (i k:Nat):lB n f i k i=1/\(∀j,i<j->lB n f i k j=0)/\ ∀j,-1<=lB n f i k j/\lB n f i k j<=1:=by
 rcases He n f i k with h|⟨c,_,h⟩<;>rw[h]
 ·refine⟨by simp[eC],fun j hj=>by unfold eC;rw[if_neg (by omega)],fun j=>by unfold eC;split<;>omega⟩
 refine⟨by simp[mY],fun j hj=>by unfold mY;rw[if_neg (by omega),if_neg (by omega)],fun j=>?_⟩;unfold mY;split
 ·exact Lg c j
 split<;>omega
def MinkP (f:FF) (n:Nat):Prop:=(∀i,i+1<n->f i i<=f (i+1) (i+1)/\0<=f i (i+1))/\ ∀i,i<n-> ¬VioP n f i
theorem F9 {d:Nat->Int} (h: ∀j,-1<=d j/\d j<=1): ∀i,∃c,c<3^i/\ ∀j,j<i->dg c j=d j
 |0=>⟨0,by simp,fun j hj=>by omega⟩
 |i+1=>by
  obtain⟨c,h1,h2⟩:=F9 h i;have hd:=h i;refine⟨c+3^i*(d i+1).toNat,?_,fun j hj=>?_⟩
  ·have:(d i+1).toNat<=2:=by omega
   have:=Nat.mul_le_mul_left (3^i) this;rw[Nat.pow_succ];omega
  by_cases e:j=i
  ·subst e;unfold dg;rw[Nat.add_mul_div_left _ _ (Nat.pow_pos (by omega)),Nat.div_eq_of_lt h1,Nat.zero_add,Nat.mod_eq_of_lt (by omega)];omega
  rw[<- h2 j (by omega)];unfold dg
  congr 2
  obtain⟨m,hm⟩: ∃m,i=j+1+m:=⟨i-(j+1),by omega⟩;have e1:3^i*(d i+1).toNat=3^j*(3*(3^m*(d i+1).toNat)):=by
   rw[hm,Nat.pow_add,Nat.pow_succ];simp[Nat.mul_assoc]
  rw[e1,Nat.add_mul_div_left _ _ (Nat.pow_pos (by omega)),Nat.add_mul_mod_self_left]
theorem Of {n:Nat} {f:FF} {i:Nat} (hi:i<n) {x:Nat->Int} (hb: ∀j,j<i-> -1<=x j/\x j<=1) (h1:x i=1) (h0: ∀j,i<j->j<n->x j=0) (hl:nrm n f x<f i i):VioP n f i:=by
 obtain⟨c,hc,hd⟩:=F9 (d:=fun j=>if j<i then x j else 0) (fun j=>by
  split
  ·rename_i h;exact hb j h
  omega) i
 refine⟨c,hc,?_⟩;rw[fm (y:=x)]
 ·exact hl
 intro j hj;unfold mY;split
 ·rename_i h;rw[hd j h,if_pos h]
 split
 ·rename_i h;rw[h,h1]
 rw[h0 j (by omega) hj]
def Ow (s:Nat->Int) (f:FF):Nat->Nat->Int:=fun i j=>s i*s j*f i j
theorem PS {n:Nat} {s:Nat->Int} {f:FF} (x:Nat->Int):nrm n (Ow s f) x=nrm n f (fun i=>s i*x i):=by
 unfold nrm BF Ow;refine aI n fun i _=>?_
 rw[<- bH,<- bH];exact aI n fun j _=>by grind
theorem Rg {n:Nat} {s:Nat->Int} {f:FF} (hs: ∀i,s i=1\/s i= -1) {i:Nat} (hi:i<n) (h:VioP n (Ow s f) i):VioP n f i:=by
 obtain⟨c,hc,hl⟩:=h;rw[PS]at hl;have hii:Ow s f i i=f i i:=by unfold Ow;rcases hs i with e|e<;>rw[e]<;>omega
 rw[hii]at hl;have hneg: ∀y:Nat->Int,nrm n f (fun j=>s i*y j)=nrm n f y:=fun y=>by
  rcases hs i with e|e
  ·exact fm fun j _=>by simp only[e];omega
  unfold nrm BF;refine aI n fun k _=>?_
  simp only[e];rw[<- bH,<- bH];exact aI n fun j _=>by grind
 rw[<- hneg]at hl;refine Of hi (x:=fun j=>s i*(s j*mY i c j)) (fun j hj=>?_) ?_ (fun j hj _=>?_) hl
 ·have:=Lg c j;simp only[mY,if_pos hj];rcases hs i with e|e<;>rcases hs j with e'|e'<;>rw[e,e']<;>omega
 ·simp only[mY,Nat.lt_irrefl,if_false,if_true];rcases hs i with e|e<;>rw[e]<;>omega
 simp only[mY];rw[if_neg (by omega),if_neg (by omega)];simp
end Go.Proofs.YtiollbhgpiiodaaGreatDoor
