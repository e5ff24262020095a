/-
  Part 21 of a proof (walks and plain facts).
-/
import Derived.Test.YtalmoejhjceflaaGreatR19
set_option linter.all false
set_option maxRecDepth 100000
set_option maxHeartbeats 64000000
open Nat renaming reduceAdd → aa
open Nat renaming reduceEqDiff → ab
open List renaming replicate → ae
namespace Go.Proofs.YtalmoejhjceflaaGreat
open Go.RowKit Go.Proofs.Tryz
variable {n m:Nat} {b:List Int} {x:Int} {c:FF} {e:Nat->Int}
theorem K4 (a b:Nat) (F:0<b) (la:(au a).length<=268435456) (lb:(au b).length<=268435456):CallC prog 169 [cK (au a),cK (au b)] ⟨[],Dj a b⟩:=by
 have y:=xl (au a) (au b) (aE _) (aE _) (b7 _) (b7 _) (by omega) (by omega);rw[az,az]at y;by_cases B:a<b
 ·rw[oN B]at y;have z:=DC (au a) (by omega);unfold Dj;rw[acK B,abP B,ce];refine ay func169 rfl ntmps169 (aA (k:=ai (am (bK [⟨2,_,_,_,y⟩] (k:=aC rfl (bM [⟨1,_,_,_,z⟩] (k:=?_)))))));refine aW ⟨.inr rfl,PT 4 rfl rfl ?_ rfl⟩;simp(disch:=omega) only[kd,results169]
 obtain⟨c,H,a3⟩: ∃c,c=gX a b/\0<=c:=⟨_,rfl,IM (by omega)⟩;rw[<- H]at y;clear H;by_cases hs:(au a).length<=2
 ·have sb:(au b).length<=2:=aaj (pV (show b<=a by omega)) hs;have ua:=im hs;have ub:=im sb;have T:=qU (au a) (aE _) hs;have U:=qU (au b) (aE _) sb;rw[az]at T U;have hq:a/b<=a:=acx _ _;have hr:a%b<b:=aaQ _ F;have h3:=jB (a/b) (by omega);have h4:=jB (a%b) (by omega);have ae:(b:Int)≠0:=by omega
  have C:IntKind.u64.wrap (Int.tdiv (a:Int) (b:Int))=((a/b:Nat):Int):=by
   grind [IntKind.wrap_u64]
  have Q:Int.tmod (a:Int) (b:Int)=((a%b:Nat):Int):=by
   rfl
  unfold Dj;generalize a/b=q at*
  generalize a%b=r at*
  refine ay func169 rfl ntmps169 (aA (k:=ai (am (bK [⟨2,_,_,_,y⟩] (k:=aq rfl (ar (k:=aC rfl (bM [⟨1,_,_,_,T⟩,⟨3,_,_,_,U⟩] (k:=gh [⟨3,_,_,_,h3⟩,⟨7,_,_,_,h4⟩] (aH (@ne_eq.{1}) (aH ae (aH @not_false_eq_true (aH C Q)))) (k:=aG @results169))))))))))
 by_cases T:(au b).length=1
 ·obtain⟨g0,X⟩:=Lb T;have z:=K2 (au a) (by omega) (by omega);have hw:=uR (au a) b (aE _) F X (by omega) (by omega);rw[az]at hw;have hq:a/b<4294967296^(au a).length:=abZ (acx _ _) (DO a);have hr:a%b<b:=aaQ _ F;have ht:=eH (bO (au a).length (a/b)) (by rw[bS];omega);rw[tN hq]at ht;have hf:=jB (a%b) (by omega);have ah:=bS (au a).length (a/b);unfold Dj;generalize a%b=r at*
  generalize bO (au a).length (a/b)=R at*
  generalize a/b=q at*
  have C:IntKind.u64.wrap (r:Int)=(r:Int):=by rw[abb];omega
  refine ay func169 rfl ntmps169 (aA (k:=ai (am (bK [⟨2,_,_,_,y⟩] (k:=aq rfl (ar (k:=aq rfl (ar (k:=aC rfl (bM [⟨1,_,_,_,z⟩] (k:=?_)))))))))))
  (refine wh 4 hw 41 0 [] [] (by simp[wk]) (by omega) (qb rfl) (ez _ _) (by simp[wk]) (by decide) fun K f=>?_;simp(disch:=omega) only[kd,aa,Int.reduceToNat,g0];apply f;refine⟨⟨rfl,rfl⟩,by simp,?_⟩;intro K f;simp only[kd,aa,Ws,cwD];apply f)
  refine bo.weak ((bH 41 (bG rfl)).trans (aj (tm:=(j4 (cK R::jk::jk::jk::.raw (.int .u32 (r:Int))::j16 (j16 (j16 (j16 (j16 (j4 (j4 (j4 (jk::jk::jk::[]))))))))))) (l:=[]) trivial (by simp[wk,fc,dN,aw,Hm,gR,fT,aar,ah]))) ?_;refine fj [⟨1,_,_,_,ht⟩,⟨4,_,_,_,hf⟩] C (k:=aG @results169)
 obtain⟨n,u⟩: ∃n,(au b).length=n+2:=⟨(au b).length-2,by grind [fW]⟩;obtain⟨m,W⟩: ∃m,(au a).length=n+2+m:=⟨(au a).length-(n+2),by have:=pV (show b<=a by omega);omega⟩;obtain⟨x,hx,av,v,af⟩:=EN (n:=n+1) u;have hz:=YR x v;obtain⟨P,z2,z3⟩:=S6 av v;obtain⟨s,L⟩: ∃s,s=lz x:=⟨_,rfl⟩;rw[<- L]at hz P z2 z3;clear L;obtain⟨V1,V2⟩:=TZ u hx ⟨z2,z3⟩ P;have o:=adm s;have hV:0<b*2^s:=adI F o;have kE:=qT (au b) s (aE _) P (by omega);have O:=qT (au a) s (aE _) P (by omega);rw[az,u]at kE;rw[az,W]at O;have w:=DO a;rw[W]at w;obtain⟨a6,a7⟩:=LO (s:=s) w af;have hA:a*2^s<b*2^s*4294967296^(m+1):=by
  have U:4294967296^(n+2+m)<=b*4294967296^(m+1):=by
   have e:4294967296^(n+2+m)=4294967296^(n+1)*4294967296^(m+1):=by grind
   simp_all[aat]
  rw[aet];exact aco (aas w U) o
 obtain⟨ac,ad⟩:=TK (a:=a) (b:=b) (s:=s);have C:((n+2:Nat):Int)-1=((n+1:Nat):Int):=by omega
 have Q:((n+2+m:Nat):Int)-((n+2:Nat):Int)=(m:Int):=by omega
 have e3:(m:Int)+1=((m+1:Nat):Int):=by omega
 have tk:=LF (x:=b*2^s) (show n+2<=n+2+1 by omega);have a0:=fun k=>WM (A:=a*2^s) (k:=k) V1 V2
 have hQ: ∀k,k<=m+1->mi (a*2^s) (b*2^s) k<4294967296^(m+1):=fun k t=>W7 hA t
 have p:a%b*2^s<4294967296^(n+2+m+1):=by
  have h3:a%b<b:=aaQ _ F;have h4:a%b*2^s<=b*2^s:=aat _ (acN h3);omega
 have J:a%b<4294967296^(n+2+m+1):=abZ (abK _ o) p;have ap:=fun k (t:k<=m)=>PX (A:=a*2^s) (V:=b*2^s) (k:=k) (nb:=n+2) (na:=n+2+m) hV (acN V1) (by omega)
 have an:=fun k (t:k<=m)=>TL (A:=a*2^s) (V:=b*2^s) (k:=k) (nb:=n+2) (na:=n+2+m) (by omega)
 have al:=fun k (t:k<=m)=>TA (A:=a*2^s) (V:=b*2^s) (k:=k) (m:=m+1) hV (by omega) (hQ _ (by omega))
 have I:a/b<4294967296^(m+1):=by have:=hQ 0 (by omega);omega
 have sr:=yP (bO (n+2+m+1) (a%b*2^s)) s (og _ _) P (by rw[bS];omega) (by rw[bS];omega);rw[iK p,bS,adz _ o]at sr;have M:=eH (bO (m+1) (a/b)) (by rw[bS];omega);rw[tN I]at M;have N:=eH (bO (n+2+m+1) (a%b)) (by rw[bS];omega);rw[tN J]at N;have a4:=bS (n+2) (b*2^s);refine ay func169 rfl ntmps169 (aA (k:=?_));refine ai (oJ (S:=⟨(cK (au a)::cK (au b)::j16 (j16 (j16 (j16 (j16 (j16 (j4 (jk::jk::[])))))))),Hm []⟩) (am ?_) ?_)
 ·refine bK [⟨2,_,_,_,y⟩] (k:=aq rfl (ar (k:=aq rfl (ar (k:=?_)))));refine aZ rfl (fun h=>by simp at h<;>omega) (fun _=>ak (aj trivial ?_));simp[wk]
 refine cn [⟨6,_,_,_,hz⟩] (aH u (aH C hx)) (k:=cn [⟨2,_,_,_,kE⟩] u (k:=?_));refine bo.weak ((bH 61 (bG rfl)).trans (aj (tm:=(cK (au a)::cK (au b)::j4 (jk::jk::jk::rN s::cK (bO (n+2) (b*2^s))::j16 (j16 (j16 (j16 (j16 (j4 (j4 (j4 (jk::[]))))))))))) (l:=[]) trivial (by simp[wk,fc,dN,aw,Hm,gR,fT,tk]))) ?_;generalize a5:bO (n+2) (b*2^s)=vv at*
 refine bM [⟨2,_,_,_,O⟩] (k:=aK (aH W (aH u (aH Q (aH e3 @kX)))) (k:=ai (aK (aH W (aH u Q)) (k:=?_))));generalize a1:a*2^s=A at*
 generalize a2:b*2^s=V at*
 refine aF (G:=jo (m+1)) (fun g=>⟨(jk::cK (au b)::jk::jk::.one (.sl 74 0 0 (m+1))::j4 (.raw (.int .i64 (s:Int))::cK vv::.one (.sl 67 0 0 (n+2+m+1))::.raw (.int .i64 ((g.i:Int)-1))::j16 (j16 (j16 (j16 (j16 (j4 (j4 (jk::jk::jk::[]))))))))),Hm [(67,[⟨165,1,lc fU (bO (n+2+m+1) (eQ A V g.i))⟩]),(74,[⟨165,1,lc fU (bO (m+1) (mi A V g.i))⟩])]⟩) (fun g=>g.i) ⟨m+1,by omega⟩ ?_ ?_
 ·refine aj ⟨?_,?_,trivial⟩ ?_
  ·simp_all[aw]
  ·simp_all[aw,Ak]
  simp[wk]
 rintro⟨i,hi⟩;simp only;by_cases h0:0<i
 ·obtain⟨k,rfl⟩: ∃k,i=k+1:=⟨i-1,by omega⟩;have t:k<=m:=by omega
  have ek:((k+1:Nat):Int)-1=(k:Int):=by omega
  have Y:(k:Int)+((n+2:Nat):Int)+1=((k+n+3:Nat):Int):=by omega
  have Z:k+n+3-k=n+3:=by omega
  obtain⟨v1,v2,u2,u1,u0,K,nU,nV⟩:=a0 k;have w1:=ap k t;have w2:=an k t;rw[show n+2+1=n+3 from rfl]at w1 w2;have w3:=al k t;have gq:=iL (x:=mi A V (k+1)) (show k<m+1 by omega);have j:=yO (bO k (eQ A V (k+1))) _ (bO (n+2+m-(k+(n+2))) (eQ A V (k+1)/4294967296^(k+(n+2)+1))) _ k n v1 v2 u2 u1 u0 (bS _ _) K (by grind [bS]);rw[nU,nV]at j;rw[w1,<- w2]at j;have qd:=rB (A:=A) (k:=k) hV;have l1:=bS (m+1) (mi A V (k+1));have l2:=bS (n+2+m+1) (eQ A V (k+1));obtain⟨R',E⟩: ∃R',R'=bO (n+2+m+1) (eQ A V k):=⟨_,rfl⟩;obtain⟨Q',D⟩: ∃Q',Q'=bO (m+1) (mi A V k):=⟨_,rfl⟩;rw[<- E]at j;rw[<- D]at w3;clear w1 w2 K nU nV;generalize eQ A V (k+1)/4294967296^k/V=d at*
  generalize mi A V (k+1)/4294967296^k%4294967296=od at*
  generalize bO (m+1) (mi A V (k+1))=Q0 at*
  generalize bO (n+2+m+1) (eQ A V (k+1))=R0 at*
  refine ai (aK ek (k:=aC rfl (ak (ai (am ?_)))))
  ((refine Fo 11 j 67 0 [] [] (by simp[wk]) (by omega) (qb rfl) (ez _ _) (by simp[wk]) (by decide) fun K f=>?_);simp(disch:=omega) only[kd,aa,u,aR,Y,ab,Nat.reduceLeDiff,Z];apply f;refine⟨⟨rfl,rfl⟩,by simp,?_⟩;intro K f;simp(disch:=omega) only[kd,aa,Ws,cwD,ab,gq,cU,w3];apply f)
  show bo _ _ _ _;refine bL (k:=?_);refine⟨⟨k,by omega⟩,by simp,aj ⟨?_,?_,trivial⟩ ?_⟩
  ·simp[aw,Hm,E]
  ·simp[aw,Hm,D]
  simp[wk]
 have ag:i=0:=by omega
 subst ag;rw[ac,ad];generalize bO (n+2+m+1) (a%b*2^s)=R0 at*
 unfold Dj;have l1:=bS (m+1) (a/b);have l2:=bS (n+2+m+1) (a%b);generalize bO (n+2+m+1) (a%b)=R1 at*
 generalize bO (m+1) (a/b)=Q1 at*
 generalize a/b=q at*
 generalize a%b=r at*
 refine ai (ar (k:=aq rfl (aY ?_)));show bo _ _ _ _
 (refine wh 2 sr 67 0 [] [] (by simp[wk]) (by omega) (qb rfl) (ez _ _) (by simp[wk]) (by decide) fun K f=>?_;simp only[kd];apply f;refine⟨⟨rfl,rfl⟩,by simp,?_⟩;intro K f;simp only[kd,aa,Ws,cwD,ab];apply f)
 refine bo.weak ((bH 67 (bG rfl)).trans ((bH 74 (bG rfl)).trans (aj (tm:=(j4 (cK Q1::j4 (jk::jk::cK R1::j16 (j16 (j16 (j16 (j16 (j4 (j4 (j4 ([])))))))))))) (l:=[]) trivial (by simp[wk,fc,dN,aw,Hm,gR,fT,aar,l1,l2])))) ?_;refine bM [⟨1,_,_,_,M⟩,⟨3,_,_,_,N⟩] (k:=aG @results169)
theorem Wy {a:Int} (g:x≠0) (f:0<=a):a/x=gI (decide (x<0)) (a.natAbs/x.natAbs)/\a%x=gI false (a.natAbs%x.natAbs):=by
 have c:tr a x=gI false (a.natAbs%x.natAbs):=by grind [tr]
 have e:tq a x=gI (decide (x<0)) (a.natAbs/x.natAbs):=by grind [tq]
 grind [F8,gI]
theorem SH {a:Int} (g:x≠0) (f:a<0) (h:a.natAbs%x.natAbs=0):a/x=gI (!decide (x<0)) (a.natAbs/x.natAbs)/\a%x=gI false (a.natAbs%x.natAbs):=by
 have c:tr a x=gI false (a.natAbs%x.natAbs):=by grind [tr,gI]
 have e:tq a x=gI (!decide (x<0)) (a.natAbs/x.natAbs):=by grind [tq]
 grind [F8,gI]
theorem Wx {a:Int} (m:x≠0) (e:a<0) (h:a.natAbs%x.natAbs≠0):a/x=gI (!decide (x<0)) (a.natAbs/x.natAbs+1)/\a%x=gI false (x.natAbs-a.natAbs%x.natAbs):=by
 have l:tr a x= -((a.natAbs%x.natAbs:Nat):Int):=by unfold tr;rw[decide_eq_true e];rfl
 have f:a.natAbs%x.natAbs<x.natAbs:=aaQ _ (by omega);by_cases c:x<0
 ·obtain⟨g,j⟩:=IZ (a:=a) c (by omega);grind [tq,gI]
 obtain⟨g,j⟩:=I0 (a:=a) (show 0<x by omega) (by omega);grind [tq,gI]
def Bd (z:Int):Prop:=Sz z 268435456
theorem K3 (a b:Int) (c:b≠0) (w:Bd a) (y:Bd b):CallC prog 120 [tZ a,tZ b] ⟨[],.tup [(true,cZ (a/b)),(true,cZ (a%b)),(false,[.p (.raw (.bool true))])]⟩:=by
 have B:(au a.natAbs).length<=268435456:=kh w;have C:(au b.natAbs).length<=268435456:=kh y;have t1:=eH (au a.natAbs) (by omega);have t2:=eH (au b.natAbs) (by omega);rw[iQ]at t1 t2;have A:(au b.natAbs).length≠0:=fun h=>c (by grind [fW])
 have o:=K4 a.natAbs b.natAbs (by omega) B C;unfold Dj at o;have m:=fW (n:=a.natAbs%b.natAbs);have t:a.natAbs%b.natAbs<b.natAbs:=aaQ _ (by omega);have G:=pV (show a.natAbs/b.natAbs<=a.natAbs from acx _ _);have D:=pV (acN t);by_cases l:a<0
 ·by_cases s:a.natAbs%b.natAbs=0
  ·obtain⟨g,j⟩:=SH c l s;have e:=eP (!decide (b<0)) (a.natAbs/b.natAbs);have f:=eP false (a.natAbs%b.natAbs);rw[<- g]at e;rw[<- j]at f;have z:(au (a.natAbs%b.natAbs)).length=0:=m.2 s;clear g j;generalize a.natAbs/b.natAbs=q at*
   generalize a.natAbs%b.natAbs=r at*
   generalize a/b=Q at*
   generalize a%b=R at*
   refine ay func120 rfl ntmps120 (aA (k:=bK [⟨2,_,_,_,t2⟩] (k:=ai (ar (k:=aq rfl (ak (bK [⟨2,_,_,_,t1⟩,⟨4,_,_,_,o⟩] (k:=ar (k:=ai (am (ai (am (ai (am (ai (ai (ar (k:=aq rfl (ak (ar (k:=aC rfl (aY (bz (k:=aY (bK [⟨2,_,_,_,e⟩,⟨4,_,_,_,f⟩] (k:=aG @results120))))))))))))))))))))))))))
  obtain⟨g,j⟩:=Wx c l s;have u:=zP (au (a.natAbs/b.natAbs)) [1] (aE _) (by intro x F;grind) (by omega) (by simp);rw[az,show natV [1]=1 from rfl,show cK [1]= .one (.p (.sl [[.raw (.int .u32 1)]]))from rfl]at u;have v:=ta (au b.natAbs) (au (a.natAbs%b.natAbs)) (aE _) (aE _) D (by grind [az]) (by omega);rw[az,az]at v;have e:=eP (!decide (b<0)) (a.natAbs/b.natAbs+1);have f:=eP false (b.natAbs-a.natAbs%b.natAbs);rw[<- g]at e;rw[<- j]at f;have z:(au (a.natAbs%b.natAbs)).length≠0:=fun h=>s (m.1 h)
  clear g j;generalize b.natAbs-a.natAbs%b.natAbs=E at*
  generalize a.natAbs/b.natAbs=q at*
  generalize a.natAbs%b.natAbs=r at*
  generalize a/b=Q at*
  generalize a%b=R at*
  refine ay func120 rfl ntmps120 (aA (k:=bK [⟨2,_,_,_,t2⟩] (k:=ai (ar (k:=aq rfl (ak (bK [⟨2,_,_,_,t1⟩,⟨4,_,_,_,o⟩] (k:=ar (k:=ai (am (ai (am (ai (am (ai (ai (ar (k:=aC rfl (aY (bK [⟨2,_,_,_,u⟩] (k:=Yw [⟨2,_,_,_,v⟩] (k:=bz (k:=aY (bK [⟨2,_,_,_,e⟩,⟨4,_,_,_,f⟩] (k:=aG @results120)))))))))))))))))))))))))
 obtain⟨g,j⟩:=Wy c (show 0<=a by omega);have e:=eP (decide (b<0)) (a.natAbs/b.natAbs);have f:=eP false (a.natAbs%b.natAbs);rw[<- g]at e;rw[<- j]at f;clear g j;generalize a.natAbs/b.natAbs=q at*
 generalize a.natAbs%b.natAbs=r at*
 generalize a/b=Q at*
 generalize a%b=R at*
 refine ay func120 rfl ntmps120 (aA (k:=bK [⟨2,_,_,_,t2⟩] (k:=ai (ar (k:=aq rfl (ak (bK [⟨2,_,_,_,t1⟩,⟨4,_,_,_,o⟩] (k:=ar (k:=ai (am (ai (am (ai (am (ai (ai (ar (k:=aq rfl (ak (ar (k:=aq rfl (ak (aY (bK [⟨2,_,_,_,e⟩,⟨4,_,_,_,f⟩] (k:=aG @results120)))))))))))))))))))))))))
structure Z2 (M:List (List Int)) where
 i:Nat
 hi:i<=M.length
 ok: ∀r∈M.take i,r.length=(M.headD []).length
theorem Qj (M:List (List Int)):CallC prog 230 [dn M] ⟨[],Xi M⟩:=by
 by_cases q:M.length<1
 ·rw[gJ (fun h=>by have:=h.1;omega)];refine ay func230 rfl ntmps230 (aA (k:=ai (ar (k:=aC rfl (bz (k:=aG @results230))))))
 by_cases s:16<M.length
 ·rw[gJ (fun h=>by have:=h.2.1;omega)];refine ay func230 rfl ntmps230 (aA (k:=ai (ar (k:=aC rfl (bz (k:=aG @results230))))))
 have f:=jA (M:=M) (by omega);have b:M.headD []∈M:=u5 f;by_cases n:(M.headD []).length<1
 ·rw[gJ (fun h=>by have:=(h.2.2 _ b).1;omega)];refine ay func230 rfl ntmps230 (aA (k:=ai (ar (k:=aq rfl (ak (aK f (k:=ai (ar (k:=aC rfl (bz (k:=aG @results230)))))))))))
 by_cases o:16<(M.headD []).length
 ·rw[gJ (fun h=>by have:=(h.2.2 _ b).2.1;omega)];refine ay func230 rfl ntmps230 (aA (k:=ai (ar (k:=aq rfl (ak (aK f (k:=ai (ar (k:=aC rfl (bz (k:=aG @results230)))))))))))
 refine ay func230 rfl ntmps230 (aA (k:=ai (ar (k:=aq rfl (ak (aK f (k:=ai (ar (k:=aq rfl (ak (ai (bz (k:=?_)))))))))))));refine aF (G:=Z2 M) (fun g=>⟨(dn M::j4 (.raw (.int .i64 ((M.headD []).length:Int))::j16 (j4 (dn M::rN M.length::rN g.i::j4 (j4 (jk::jk::jk::[])))))),Hm []⟩) (fun g=>M.length-g.i) ⟨0,by omega,fun r e=>by simp at e⟩ ?_ ?_
 ·refine aj trivial ?_;simp[wk]
 rintro⟨i,t,ok⟩;simp only;by_cases l:i<M.length
 ·obtain⟨r,e⟩:=getElem?_of_lt l;have c:r∈M:=u5 e;refine ar (k:=bi rfl (ai (am (aK e (k:=?_)))));by_cases p:r.length=(M.headD []).length
  ·refine ar (k:=aq rfl (ak (bL (k:=?_))));refine⟨⟨i+1,by omega,fun u m=>?_⟩,by simp only;omega,aj trivial ?_⟩
   ·grind [List.take_add_one]
   simp[wk]
  rw[gJ (fun h=>by have:=(h.2.2 r c).2.2;omega)];refine ar (k:=aC rfl (bz (k:=aG @results230)))
 have j:Fm M:=⟨by omega,by omega,fun r e=>by
  grind⟩
 rw[iN j];refine ar (k:=bv rfl (bz (k:=aG @results230)))
theorem Ex (M:List (List Int)):CallC prog 239 [dF M] ⟨[],Xi M⟩:=by
 by_cases q:M.length<1
 ·rw[gJ (fun h=>by have:=h.1;omega)];refine ay func239 rfl ntmps239 (aA (k:=ai (ar (k:=aC rfl (bz (k:=aG @results239))))))
 by_cases s:16<M.length
 ·rw[gJ (fun h=>by have:=h.2.1;omega)];refine ay func239 rfl ntmps239 (aA (k:=ai (ar (k:=aC rfl (bz (k:=aG @results239))))))
 have f:=jA (M:=M) (by omega);have b:M.headD []∈M:=u5 f;by_cases n:(M.headD []).length<1
 ·rw[gJ (fun h=>by have:=(h.2.2 _ b).1;omega)];refine ay func239 rfl ntmps239 (aA (k:=ai (ar (k:=aq rfl (ak (aK f (k:=ai (ar (k:=aC rfl (bz (k:=aG @results239)))))))))))
 by_cases o:16<(M.headD []).length
 ·rw[gJ (fun h=>by have:=(h.2.2 _ b).2.1;omega)];refine ay func239 rfl ntmps239 (aA (k:=ai (ar (k:=aq rfl (ak (aK f (k:=ai (ar (k:=aC rfl (bz (k:=aG @results239)))))))))))
 refine ay func239 rfl ntmps239 (aA (k:=ai (ar (k:=aq rfl (ak (aK f (k:=ai (ar (k:=aq rfl (ak (ai (bz (k:=?_)))))))))))));refine aF (G:=Z2 M) (fun g=>⟨(dF M::j4 (.raw (.int .i64 ((M.headD []).length:Int))::j16 (j4 (dF M::rN M.length::rN g.i::j4 (j4 (jk::jk::jk::[])))))),Hm []⟩) (fun g=>M.length-g.i) ⟨0,by omega,fun r e=>by simp at e⟩ ?_ ?_
 ·refine aj trivial ?_;simp[wk]
 rintro⟨i,t,ok⟩;simp only;by_cases l:i<M.length
 ·obtain⟨r,e⟩:=getElem?_of_lt l;have c:r∈M:=u5 e;refine ar (k:=bi rfl (ai (am (aK e (k:=?_)))));by_cases p:r.length=(M.headD []).length
  ·refine ar (k:=aq rfl (ak (bL (k:=?_))));refine⟨⟨i+1,by omega,fun u m=>?_⟩,by simp only;omega,aj trivial ?_⟩
   ·grind [List.take_add_one]
   simp[wk]
  rw[gJ (fun h=>by have:=(h.2.2 r c).2.2;omega)];refine ar (k:=aC rfl (bz (k:=aG @results239)))
 have j:Fm M:=⟨by omega,by omega,fun r e=>by
  grind⟩
 rw[iN j];refine ar (k:=bv rfl (bz (k:=aG @results239)))
theorem Py (n:Nat) (f:FF) (b:1<=n) (e:n<=16):CallC prog 252 [dF (mat n n f)] ⟨[],.tup [(false,[.p (.raw (.int .i64 (n:Int)))]),(false,[.p (.raw (.int .i64 (n:Int)))]),(false,[.p (.raw (.bool true))])]⟩:=by
 have c:=Ex (mat n n f);rw[iN (mQ f b e b e),aU,iI f b]at c;refine ay func252 rfl ntmps252 (aA (k:=bM [⟨1,_,_,_,c⟩] (k:=aG @results252)))
theorem LD (n:Nat) (f:FF) (b:1<=n) (e:n<=16):CallC prog 233 [dF (mat n n f)] ⟨[],.tup [(false,[.p (.raw (.int .i64 (n:Int)))]),(false,[.p (.raw (.bool true))])]⟩:=by
 have c:=Py n f b e;refine ay func233 rfl ntmps233 (aA (k:=bM [⟨1,_,_,_,c⟩] (k:=ar (k:=aG @results233))))
theorem Sy (a b c d e:Int) (s:Nat) (w:s<=67174400) (g:Sz a s) (h:Sz b s) (j:Sz c s) (m:Sz d s) (u:Sz e s) (f:e≠0):
  CallC prog 238 [tZ a,tZ b,tZ c,tZ d,tZ e] ⟨[],tZ ((a*d-b*c)/e)⟩:=by
 have n:=g.mul m;have o:=h.mul j;have v:=n.sub o;have p:=Ov a d (g.mono (by omega)) (m.mono (by omega));have q:=Ov b c (h.mono (by omega)) (j.mono (by omega));have r:=WI (a*d) (b*c) (n.mono (by omega)) (o.mono (by omega));have t:=K3 (a*d-b*c) e f (v.mono (by omega)) (u.mono (by omega));refine ay func238 rfl ntmps238 (aA (k:=?_));refine bo.weak (aj (tm:=(j4 (jk::.one (.ptr 5 0 0 0)::.one (.ptr 6 0 0 0)::.one (.ptr 7 0 0 0)::.one (.ptr 8 0 0 0)::.one (.ptr 9 0 0 0)::.one (.ptr 10 0 0 0)::j16 (jk::[])))) (l:=[(5,vd a),(6,vd b),(7,vd c),(8,vd d),(9,vd e),(10,ud)]) ⟨rfl,rfl,rfl,rfl,rfl,rfl,trivial⟩ (by simp[wk])) ?_;refine cQ [⟨2,_,_,_,p⟩,⟨5,_,_,_,q⟩,⟨6,_,_,_,r⟩,⟨8,_,_,_,t⟩] (k:=ar (k:=aG @results238))
abbrev lG (M:List (List Int)):List PV:=[.sl (ls (fR fZ) M)]
theorem Xv {i:Nat} (h:i<n) (l:m<n) (q:n<=16) (g:Bg (c i m)):
  CallC prog 235 [.raw (.int .i64 (i:Int)),.raw (.int .i64 (m:Int)),.one (.p (.ptr (lG (mat n n c))))] ⟨[],tZ (c i m)⟩:=by
 have o:=bE n c h;have b:=aB (c i) l;have e:=Bo (c i m) g;refine ay func235 rfl ntmps235 (aA (k:=cn [⟨7,_,_,_,e⟩] (aH o b) (k:=aG @results235)))
theorem Xw (b:Nat) {last:Int} {i:Nat} (t:i+1<n) (f:m+1<n) (C:n<=16) (s:Nat) (z:s<=67174400) (e: ∀i m,i<n->m<n->Sz (c i m) s) (y:Sz last s) (u:last≠0):
  CallT prog b 65 237 [.raw (.int .i64 (i:Int)),.raw (.int .i64 (m:Int)),.one (.p (.ptr (lG (mat n n c)))),.raw (.pointer (some ⟨b,0,none⟩))] (fZ last)
   ⟨[],tZ ((c 0 0*c (i+1) (m+1)-c (i+1) 0*c 0 (m+1))/last)⟩ (fZ last):=by
 have A:=bE n c (show 0<n by omega);have B:=bE n c t;have h:=aB (c 0) (show 0<n by omega);have o:=aB (c 0) f;have q:=aB (c (i+1)) (show 0<n by omega);have r:=aB (c (i+1)) f;have v:((i:Int)+1).toNat=i+1:=by omega
 have w:((m:Int)+1).toNat=m+1:=by omega
 have x:=Sy (c 0 0) (c (i+1) 0) (c 0 (m+1)) (c (i+1) (m+1)) last s z (e _ _ (by omega) (by omega)) (e _ _ t (by omega)) (e _ _ (by omega) f) (e _ _ t f) y u;refine kA func237 rfl (by kernel_rfl) ?_;rw[ntmps237];refine CZ 3 900 rfl rfl ?_;refine eY.weak (aj (tm:=(.raw (.int .i64 (i:Int))::rN m::.one (.p (.ptr (lG (mat n n c))))::.one (.ptr 900 0 0 0)::j16 (j16 (jk::[])))) (l:=[(900,vd last)]) ⟨rfl,trivial⟩ (by simp[wk,FR,wE,ae])) ?_;refine eF (k:=R8 [⟨29,_,_,_,x⟩] (aH A (aH h (aH v (aH B (aH q (aH w (aH o r))))))) (k:=?_));refine iB ⟨fZ last,rfl,rfl,.inr rfl,rfl,cd rfl ?_ rfl⟩;simp(disch:=omega) only[kd,results237,tj,jR,ab,aa,tZ]
def elF (f:FF) (k:Nat):Nat->Nat->Int:=fun i j=>bk f k (k+i) (k+j)
abbrev KW (n:Nat) (f:FF) (k:Nat):List (List Int):=mat (n-k) (n-k) (elF f k)
def uH (n:Nat) (f:FF) (k:Nat):List (List (List Int)):=(List.range k).map (KW n f)
theorem Qt (n:Nat) (f:FF) (k:Nat):uH n f k++[KW n f k]=uH n f (k+1):=by simp[uH,abi]
theorem rW (n:Nat) (f:FF) (k:Nat):(uH n f k).length=k:=by simp[uH]
theorem N5 (n:Nat) (f:FF):mat n n f=KW n f 0:=gu fun i j _ _=>by
 show f i j=bk f 0 (0+i) (0+j);grind [dr]
theorem Do {f:FF} {k:Nat} (c: ∀t,t<k->dk f (t+1)≠0) (i j:Nat):
  (elF f k 0 0*elF f k (i+1) (j+1)-elF f k (i+1) 0*elF f k 0 (j+1))/dk f k=elF f (k+1) i j:=by
 have b:dk f k≠0:=by
  cases k with
  |zero=>rw[cu];decide
  |succ k=>grind
 grind [sylv,elF,cb,Int.mul_ediv_cancel_left]
theorem l6 (f:FF) (k:Nat):elF f k 0 0=dk f (k+1):=by
 rfl
def fM (M:List (List Int)):List PV:=[.sl (ls (fR fZ) M)]
theorem OQ (l:List (List (List Int))) (M:List (List Int)):lc fM l++[[.p (.sl (ls (fR fZ) M))]]=lc fM (l++[M]):=by simp[lc,fM]
def NzP (n:Nat) (f:FF):Prop:= ∀t,t+1<n->dk f (t+1)≠0
open Classical in
noncomputable def Xx (n:Nat) (f:FF):TV:=if NzP n f then .tup [(false,[.p (.sl (ls fM (uH n f n)))]),(false,[.p (.raw (.bool true))])]else .tup [(false,[.p (.raw (.slice none 0 0))]),(false,[.p (.raw (.bool false))])]
theorem yu (h:NzP n c):Xx n c= .tup [(false,[.p (.sl (ls fM (uH n c n)))]),(false,[.p (.raw (.bool true))])]:=if_pos h
theorem T7 (h: ¬NzP n c):Xx n c= .tup [(false,[.p (.raw (.slice none 0 0))]),(false,[.p (.raw (.bool false))])]:=if_neg h
structure SgG (n:Nat) (f:FF) where
 k:Nat
 s:Nat
 hk:k<n
 nz: ∀t,t<k->dk f (t+1)≠0
 hs:s+1<=1025*2^k
 sz: ∀i j,i<n-k->j<n-k->Sz (elF f k i j) s
 sl:Sz (dk f k) s
theorem CI (n:Nat) (f:FF) (m:1<=n) (r:n<=16) (Q: ∀i j,i<n->j<n->Sz (f i j) 1024):CallC prog 202 [dF (mat n n f)] ⟨[],Xx n f⟩:=by
 have O:=LD n f m r;have M:=xm 1 (by omega) (by omega);have P:=Uc 235 (lG (mat n n f)) n n f m r m r (fun i j o q=>Xv o q r ((Q i j o q).mono (by omega)));refine ay func202 rfl ntmps202 (aA (k:=Kl (bM [⟨1,_,_,_,O⟩] (k:=ai (bz (k:=aq rfl (ak ?_)))))));refine bo.weak ((qx 1 1 (cs:=lG (mat n n f)) rfl rfl).trans (aj (tm:=(jk::.one (.p (.ptr (lG (mat n n f))))::.raw (.slice none 0 0)::.raw (.bool false)::rN n::j16 (j16 (j16 (j4 (j4 (jk::[]))))))) (l:=[]) trivial (by simp[wk,fc,dN]))) ?_;refine fj [⟨3,_,_,_,P⟩] @jv.eq_1 (k:=bK [⟨0,_,_,_,M⟩] (k:=bz (k:=ai (Kj (ai (bz (k:=?_)))))));refine aF (G:=SgG n f) (fun g=>⟨(jk::jk::.raw (.slice none 0 0)::.raw (.bool false)::rN n::jk::dF (KW n f g.k)::.one (.ptr 7 0 0 0)::.one (.sl 30 0 0 g.k)::j4 (j4 (j4 (jk::jk::rN n::rN g.k::j16 (j16 (j4 (jk::[]))))))),Hm [(7,vd (dk f g.k)),(30,[⟨42,1,lc fM (uH n f g.k)⟩])]⟩) (fun g=>n-g.k) ⟨0,1024,by omega,fun t I=>by omega,by omega,fun i j o q=>?_,?_⟩ ?_ ?_
 ·show Sz (bk f 0 (0+i) (0+j)) 1024;grind [dr]
 ·grind [cu,oG]
 ·refine(dB (k:=8) (d:=30) 42 1 (by omega) rfl rfl).trans (aj ⟨?_,rfl,trivial⟩ ?_)
  ·rfl
  simp[wk];grind [N5]
 rintro⟨k,s,U,D,V,sz,T⟩;simp only;have N:=o6 (k:=k) (by omega);have B:s<=67174400:=by omega
 have F:=bE (n-k) (elF f k) (show 0<n-k by omega);have v:=aB (elF f k 0) (show 0<n-k by omega);have c:=SM (elF f k 0 0) ((sz 0 0 (by omega) (by omega)).mono (by omega));have C:=Qt n f k;have y:=rW n f k;refine ar (k:=bi rfl (ai (am (bz (k:=aK (aH y (aH @OQ C)) (k:=ai (am ?_)))))));by_cases R:k=n-1
 ·have A:NzP n f:=fun t I=>D t (by omega)
  rw[yu A];refine ar (k:=aC rfl (aY ?_));show bo _ _ _ _;have x:k+1=n:=by omega
  rw[x];have H:=rW n f n;refine bz (k:=?_);refine aW ⟨.inr rfl,fF 30 (bG rfl) ?_ rfl⟩;have J:List.take n (uH n f n)=uH n f n:=aar (by omega);simp(disch:=omega) only[kd,results202,ab,J]
 refine ar (k:=aq rfl ?_);by_cases u:dk f (k+1)=0
 ·have z: ¬NzP n f:=fun h=>h k (by omega) u
  rw[T7 z];rw[l6,u]at c;refine cn [⟨5,_,_,_,c⟩] (aH @Cb (aH F (aH v (aH @l6 u)))) (k:=aC rfl (bz (k:=aG @results202)))
 have S:=JM u;rw[l6]at c v;refine cn [⟨5,_,_,_,c⟩] (aH F v) (k:=aq rfl (ak (ar (k:=?_))));refine bo.weak ((qx 10 10 (cs:=lG (KW n f k)) rfl rfl).trans (aj (tm:=(jk::jk::.raw (.slice none 0 0)::.raw (.bool false)::rN n::jk::jk::.one (.ptr 7 0 0 0)::.one (.sl 30 0 0 (k+1))::rN k::.one (.p (.ptr (lG (KW n f k))))::j4 (j4 (j4 (.raw (.int .i64 (n:Int))::rN k::j16 (j16 (j4 (jk::[])))))))) (l:=[(7,vd (dk f k)),(30,[⟨42,1,lc fM (uH n f (k+1))⟩])]) ⟨rfl,rfl,trivial⟩ (by simp[wk,fc,dN]))) ?_;refine ai (wg 7 (cs:=fZ (dk f k)) rfl fun b=>?_);refine dW.weak (aj (tm:=(jk::jk::.raw (.slice none 0 0)::.raw (.bool false)::rN n::jk::jk::df b::.one (.sl 30 0 0 (k+1))::rN k::.one (.p (.ptr (lG (KW n f k))))::j4 (j4 (j4 (.raw (.int .i64 (n:Int))::rN k::j16 (j16 (j4 (jk::[])))))))) (l:=[(30,[⟨42,1,lc fM (uH n f (k+1))⟩])]) ⟨rfl,trivial⟩ (by simp[wk,tj,jR])) ?_;have w:dk f k≠0:=by
  cases k with
  |zero=>rw[cu];decide
  |succ k=>grind
 have e:=Ud 237 (lG (KW n f k)) b 65 (fZ (dk f k)) (n-(k+1)) (n-(k+1)) (fun i j=>(elF f k 0 0*elF f k (i+1) (j+1)-elF f k (i+1) 0*elF f k 0 (j+1))/dk f k) (by omega) (by omega) (by omega) (by omega)
  (fun i j o q=>Xw b (by omega) (by omega) (by omega) s B sz T w)
 rw[gu fun i j _ _=>Do (f:=f) (k:=k) D i j]at e;have L:((n-(k+1):Nat):Int)=(n:Int)-(k:Int)-1:=by omega
 rw[L]at e;refine ij 9 e [] [] (by kernel_rfl) (by rfl) (by rfl) fun _ K=>?_;simp(disch:=omega) only[kd,dF,aa,df,aR,jv];apply K
 refine⟨rfl,?_⟩;show bo _ _ _ _;refine bo.weak (aj (tm:=(jk::jk::.raw (.slice none 0 0)::.raw (.bool false)::rN n::jk::dF (KW n f (k+1))::.one (.ptr 7 0 0 0)::.one (.sl 30 0 0 (k+1))::jk::.one (.p (.ptr (lG (KW n f k))))::j4 (j4 (j4 (.raw (.int .i64 (n:Int))::rN k::j16 (j16 (j4 (jk::[])))))))) (l:=[(7,vd (dk f k)),(30,[⟨42,1,lc fM (uH n f (k+1))⟩])]) ⟨rfl,rfl,trivial⟩ (by simp[wk,FR,wE])) ?_;refine dZ (aH F v) (k:=bL (k:=?_));have E: ∀t,t<k+1->dk f (t+1)≠0:=fun t I=>by
  grind
 refine⟨⟨k+1,2*s+1,by omega,E,by omega,fun i j o q=>?_,?_⟩,by simp only;omega,aj ⟨rfl,rfl,trivial⟩ ?_⟩
 ·rw[<- Do D];exact((((sz 0 0 (by omega) (by omega)).mul (sz (i+1) (j+1) (by omega) (by omega))).sub ((sz (i+1) 0 (by omega) (by omega)).mul (sz 0 (j+1) (by omega) (by omega)))).ediv _).mono (by omega)
 ·rw[<- l6];exact(sz 0 0 (by omega) (by omega)).mono (by omega)
 simp[wk]
abbrev pJ (M:List (List Int)):AV:= .p (.ptr [.sl (ls (fR fI) M)])
theorem YM {n c:Nat} {f:FF} {i:Nat} (h:i<n) (l:m<c) (q:c<=16) (r:n<=16) (e: -9223372036854775808<=f i m/\f i m<=9223372036854775807):
  CallC prog 232 [.raw (.int .i64 (i:Int)),.raw (.int .i64 (m:Int)),.one (pJ (mat n c f))] ⟨[],tZ (f i m)⟩:=by
 have o:=aU n c f;have p:=bE c f h;have b:=aB (f i) l;have g:=xm (f i m) e.1 e.2;refine ay func232 rfl ntmps232 (pC @pJ.eq_1 (k:=cn [⟨7,_,_,_,g⟩] (aH p b) (k:=aG @results232)))
def MF (d n c i:Nat) (g:FF):List OObj:=⟨85,1,kG d (ae i c)++ae (n-i) [.p (.sl [])]⟩::(mat i c g).map oD
theorem KE (d n c:Nat) (g:FF):([⟨85,1,ae n [.raw (.slice none 0 0)]⟩]:List OObj).map zO=MF d n c 0 g:=by
 simp[MF,mat,zO,kG,E6,Fe]
theorem Ny (d n c:Nat) (g:FF):MF d n c n g=iT d n c g:=by
 simp[MF]
theorem Nz {d i:Nat} (g:FF) (j:i<n) (l: ∀b,b<m->g i b=0):
  ((⟨85,1,(kG d (ae i m)++ae (n-i) [AV.p (PV.sl [])]).set i [.sl d (i+1) 0 m]⟩::(mat i m g).map oD++[⟨65,2,ae m [.raw (.bool false),.raw (.slice none 0 0)]⟩]:List OObj)).map zO=MF d n m (i+1) g:=by
 have e:(kG d (ae i m)++ae (n-i) [AV.p (PV.sl [])]).set i [.sl d (i+1) 0 m]=kG d (ae (i+1) m)++ae (n-(i+1)) [AV.p (PV.sl [])]:=by
  rw[abU _ _ (by simp[dj]),dj,aaX,abQ,acB (n:=i),rU,aaX,aaL]
  congr 1
  rw[show n-i=n-(i+1)+1 by omega,acG];rfl
 have f:aQ m (g i)=ae m 0:=by
  apply aay;grind [aB,aI]
 have h:mat (i+1) m g=mat i m g++[aQ m (g i)]:=by simp[mat,abi]
 rw[e];simp only[acq,aaC,aba,MF,h,abn]
 congr 1
 ·simp[zO,Vl,E6,Fe]
 congr 1
 ·grind [List.map_congr_left,zO,oD,Y2]
 simp[f,zO,oD,lc,fZ,E6,Fe,ce,ls]
theorem Se {d n c i k:Nat} (h:k<i):(kG d (ae i c)++ae (n-i) [AV.p (PV.sl [])])[k]?=some [.sl d (k+1) 0 c]:=by
 grind [dj,ch]
theorem Sf {d n c i:Nat} (h:i<=n):(kG d (ae i c)++ae (n-i) [AV.p (PV.sl [])]).length=n:=by grind [dj]
theorem Sg (n c:Nat) (f:FF) (y:1<=n) (x:n<=16) (u:1<=c) (t:c<=16) (v: ∀i j,i<n->j<c-> -9223372036854775808<=f i j/\f i j<=9223372036854775807):
  CallC prog 231 [.raw (.int .i64 (n:Int)),.raw (.int .i64 (c:Int)),.fn 232 [pJ (mat n c f)]] ⟨iT 0 n c f,.one (.sl 0 0 0 n)⟩:=by
 refine ay func231 rfl ntmps231 (pC @pJ.eq_1 (k:=ar (k:=ai (bz (k:=?_)))));refine aF (G:=jo n) (fun g=>⟨(jk::rN c::.fn 232 [pJ (mat n c f)]::j4 (.one (.sl 11 0 0 n)::j4 (jk::rN n::rN g.i::j16 (j4 (j4 (j4 ([]))))))),Hm [(11,MF 11 n c g.i (part f g.i 0))]⟩) (fun g=>n-g.i) ⟨0,by omega⟩ ?_ ?_
 ·refine(gQ 11).trans (aj ⟨KE 11 n c _,trivial⟩ ?_);simp[wk]
 rintro⟨i,B⟩;simp only;by_cases h:i<n
 ·have w:=J9 (d:=11) (c:=c) h;refine aK @pJ.eq_1 (k:=bi rfl (ai (am (bz (k:=?_)))));simp only[MF];refine aK (aH w (aH @aaX (aH @acr @aU))) (k:=?_);refine bo.weak ((gQ 11).trans (aj (tm:=(jk::rN c::.fn 232 [pJ (mat n c f)]::j4 (.one (.sl 11 0 0 n)::rN i::j4 (.raw (.int .i64 (n:Int))::rN i::j16 (j4 (j4 (j4 ([])))))))) (l:=[(11,MF 11 n c (i+1) (part f i 0))]) ⟨Nz (part f i 0) h (fun b _=>by simp[part]),trivial⟩ (by simp[wk]))) ?_;have p:=Se (d:=11) (n:=n) (c:=c) (show i<i+1 by omega);have z:=Sf (d:=11) (n:=n) (c:=c) (show i+1<=n by omega);have A:=fG (n:=i+1) c (part f i 0) (show i<i+1 by omega);simp only[MF];refine aK (aH @pJ.eq_1 p) (k:=?_);refine aF (G:=jo c) (fun g=>⟨(jk::rN c::.fn 232 [pJ (mat n c f)]::j4 (.one (.sl 11 0 0 n)::rN i::j4 (.raw (.int .i64 (n:Int))::rN i::j4 (j4 (jk::jk::jk::rN c::rN g.i::j4 (j4 (j4 (jk::jk::jk::[])))))))),Hm [(11,MF 11 n c (i+1) (part f i g.i))]⟩) (fun g=>c-g.i) ⟨0,by omega⟩ ?_ ?_
  ·refine aj ⟨rfl,trivial⟩ ?_;simp[wk]
  rintro⟨j,C⟩;simp only;by_cases e:j<c
  ·have s:=YM (n:=n) (c:=c) (f:=f) h e t x (v i j h e);have q:=fG (n:=i+1) c (part f i j) (show i<i+1 by omega);have r:=aB (part f i j i) e;refine aK @pJ.eq_1 (k:=bi rfl (ai (am (bz (k:=?_)))));simp only[MF];refine gf [⟨8,_,_,_,s⟩] (aH @pJ.eq_1 (aH p (aH q (aH r @k9)))) (k:=bL (k:=?_));refine⟨⟨j+1,by omega⟩,by grind,aj ⟨?_,trivial⟩ ?_⟩
   ·show _::_=_::_;simp_all[ca,io]
   simp[wk]
  have o:j=c:=by omega
  subst o;refine aK @pJ.eq_1 (k:=bv rfl (bL (k:=?_)));refine⟨⟨i+1,by omega⟩,by grind,aj ⟨?_,trivial⟩ ?_⟩
  ·show _::_=_::_;grind [ca,jK]
  simp[wk]
 have m:i=n:=by omega
 subst m;rw[Ny];refine aK @pJ.eq_1 (k:=bv rfl (bz (k:=?_)));refine aW ⟨.inr rfl,_,bD.refl _,?_⟩;refine⟨.one (.sl 11 0 0 i),11,?_,rfl,?_,rfl⟩
 ·simp(disch:=omega) only[kd,results231]
 show iT 0 i c f=(iT 11 i c (part f i 0)).map (renO 0);rw[gz 11 0];grind [ca,jJ]
theorem uz (n c:Nat) (f:FF) (h:1<=n) (t:n<=16) (b:1<=c) (q:c<=16) (s: ∀i j,i<n->j<c-> -9223372036854775808<=f i j/\f i j<=9223372036854775807):
  CallC prog 201 [dn (mat n c f)] ⟨[],Ry (mat n c f)⟩:=by
 have g:=aU n c f;have v:=jA (M:=mat n c f) (by omega);have w:=bE (n:=n) c f (i:=0) (by omega);have e:(mat n c f).headD []=aQ c (f 0):=by grind
 have m:Fm (mat n c f):=⟨by omega,by omega,fun r u=>by
  obtain⟨i,_,rfl⟩:=aai.1 u;grind [aI]⟩
 have o:=Qj (mat n c f);rw[iN m,g,e,aI]at o;have p:=Sg n c f h t b q s;unfold Ry;refine ay func201 rfl ntmps201 (aA (k:=bM [⟨1,_,_,_,o⟩] (k:=ai (bz (k:=aq rfl (ak ?_))))));refine bo.weak ((qx 1 1 (cs:=[.sl (ls (fR fI) (mat n c f))]) rfl rfl).trans (aj (tm:=(jk::.one (pJ (mat n c f))::jk::jk::rN n::rN c::j4 (j4 (j4 (jk::[]))))) (l:=[]) trivial (by simp[wk,fc,dN,aw,Hm]))) ?_;refine fj [⟨3,_,_,_,p⟩] (aH @pJ.eq_1 @jv.eq_1) (k:=?_);refine bo.weak (aj (tm:=(jk::jk::.one (.sl 18 0 0 n)::.raw (.bool true)::j4 (j4 (j4 (jk::jk::jk::[]))))) (l:=[(18,iT 18 n c f)]) ⟨gz 0 18 n c f,trivial⟩ (by simp[wk])) ?_;refine bo.weak ((bH 18 (j1 rfl)).trans (aj (tm:=(jk::jk::dF (mat n c f)::.raw (.bool true)::j4 (j4 (j4 (jk::jk::jk::[]))))) (l:=[]) trivial (by simp[wk];exact⟨(SJ (H:=Hm [(18,iT 18 n c f)]) (d:=18) (n:=n) (c:=c) (f:=f) rfl).symm,rfl⟩))) ?_
 (refine aW ⟨.inr rfl,cd rfl ?_ rfl⟩;simp(disch:=omega) only[kd,results201,dF])
theorem YQ (h:I64 x):jO x= .tup [(false,[.p (.raw (.int .i64 x))]),(false,[.p (.raw (.bool true))])]:=if_pos h
theorem I64.bg (h:I64 x):Bg x:=(h.sz (aaq 2)).mono (by omega)
theorem SK {H:OH} {a:Nat} {f g:OObj} (h:H a=[f,g]) (n: ∀e∈f.elems,∀x∈e,isPure x=true\/ ∃c len,x= .sl a 1 c len) (j:dS g):uQ H a:=fun r o b e l x m=>by
 rw[h]at b
 match r with
 |0=>
  grind
 |1=>
  injection b with b
  subst b;exact .inl (j e l x m)
 |r+2=>simp at b
theorem Ep (z:Int) (h:I64 z):CallC prog 188 [tZ z] ⟨[],.raw (.int .i64 z)⟩:=by
 have b:=DD z h.bg;rw[YQ h]at b;refine ay func188 rfl ntmps188 (aA (k:=bM [⟨1,_,_,_,b⟩] (k:=bz (k:=aG @results188))))
theorem TP (n:Nat) (f:FF) (b:1<=n) (l:n<=16) (m:NzP n f) (t: ∀i j,i<n->j<n->I64 (f i j)):
  CallC prog 187 [dn (mat n n f)] ⟨[],.agg [.p (.sl (ls fM (uH n f n))),.p (.sl (ls fZ (aQ (n+1) (dk f))))]⟩:=by
 have y:=uz n n f b l b l t;have r:=CI n f b l fun i j u z=>(t i j u z).sz (by omega)
 rw[yu m]at r;have w:=xm 1 (by omega) (by omega);have h:=rW n f n;have o: ∀k,k<n->(uH n f n)[k]?=some (KW n f k):=fun k A=>by simp[uH,A]
 have C:[[AV.p (.raw (.bool (decide ((1:Int)<0)))),.p (.sl (ls fU (au (Int.natAbs 1))))]]=lc fZ (aQ 1 (dk f)):=by
  rfl
 refine ay func187 rfl ntmps187 (aA (k:=fj [⟨1,_,_,_,y⟩] @Ry.eq_1 (k:=bM [⟨1,_,_,_,r⟩] (k:=?_))));refine ii 5 [⟨1,_,_,_,w⟩] [22] (by simp[wk]) (by decide) fun _ K=>?_;simp(disch:=omega) only[kd,tZ,aa,Nat.reduceMul,Nat.reduceLeDiff,ab];apply K
 refine⟨_,(lU 7 22 900 rfl rfl rfl (by simp[dS,isPure]) (by simp[dS,isPure]) (by omega) (by omega) (by omega)),by simp[wk],?_⟩;simp only[aaC,aaR,ST,adn,mW,fY,pG];intro _ K;simp(disch:=omega) only[kd,tZ,ab,aa];apply K;refine ai (fL h (k:=?_));refine aF (G:=jo n) (fun q=>⟨(jk::jk::.one (.ptr 2 0 0 0)::j4 (.one (.ptr 900 0 0 0)::j16 (.one (.p (.sl (ls fM (uH n f n))))::rN n::rN q.i::j4 (j4 (j4 (jk::jk::jk::[])))))),Hm [(2,[⟨224,2,[[.p (.raw (.slice none 0 0)),.p (.raw (.slice none 0 0))]]⟩]),(900,[⟨224,2,[[.p (.sl (ls fM (uH n f n))),.sl 900 1 0 (q.i+1)]]⟩,⟨65,2,lc fZ (aQ (q.i+1) (dk f))⟩])]⟩) (fun q=>n-q.i) ⟨0,by omega⟩ ?_ ?_
 ·refine aj ⟨rfl,?_,trivial⟩ ?_
  ·rfl
  simp[wk]
 rintro⟨i,u⟩;simp only;by_cases B:i<n
 ·have D:=o i B;have E:=bE (n-i) (elF f i) (show 0<n-i by omega);have F:=aB (elF f i 0) (show 0<n-i by omega);have c:=aI (i+1) (dk f);refine ar (k:=bi rfl (ai (am (aK (aH D @fM.eq_1) (k:=sX (aH E (aH F (aH @l6 (aH c @ma)))) (k:=bL (k:=?_)))))));refine⟨⟨i+1,by omega⟩,by grind,aj ⟨rfl,?_,trivial⟩ ?_⟩
  ·rw[jd (i+1)];rfl
  simp[wk]
 have g:i=n:=by omega
 subst g;have c:=aI (i+1) (dk f);refine ar (k:=bv rfl ?_);show bo _ _ _ _;refine ii 1 [] [] (by simp[wk]) (by decide) fun _ K=>?_;simp only[kd,ab,aa];apply K
 refine⟨_,bH 900 (SK rfl (fun e s x v=>?_) (bF _ _ _)),by simp[wk],?_⟩
 ·simp only[aam]at s;subst s;simp only[aaV,abu,or_false]at v;rcases v with rfl|rfl
  ·exact .inl rfl
  simp
 simp only[aaC,aaR,fc,dN];intro _ K;simp(disch:=omega) only[kd,ab,aa];apply K
 (refine aW ⟨.inr rfl,cd rfl ?_ rfl⟩;simp(disch:=omega) only[kd,results187,ab,aa])
 grind
def nF (n:Nat) (f:FF) (k:Nat):List Int:=aQ (n-k-1) fun b=>bk f k k (k+(b+1))
def fo (n:Nat) (f:FF) (j:Nat):List (List Int):=(List.range j).map (nF n f)
theorem zQ (n:Nat) (f:FF) (j:Nat):fo n f j++[nF n f j]=fo n f (j+1):=by simp[fo,abi]
theorem l9 (n:Nat) (f:FF) (j:Nat):(fo n f j).length=j:=by simp[fo]
theorem OL {k:Nat} (f:FF) (h:k<m):(fo n f m)[k]?=some (nF n f k):=by simp[fo,h]
abbrev XX (a:Nat) (B:Int) (n i j:Nat) (c b:List Int) (L:List (List Int)):List OObj:=[⟨222,4,[[.p (.raw (.int .i64 B)),.sl a 2 0 i,.sl a 3 0 j,.sl a 1 0 n]]⟩,⟨2,1,lc fI c⟩,⟨2,1,lc fI b⟩,⟨35,1,lc (fR fI) L⟩]
theorem UI (a d:Nat) (B:Int) (n i j:Nat) (c b:List Int) (L:List (List Int)):(XX a B n i j c b L).map (renO d)=XX d B n i j c b L:=by
 simp_all[renO,bY,iH]
structure X3 (n:Nat) (f:FF):Prop where
 n1:1<=n
 n16:n<=16
 nz:NzP n f
 i: ∀i j,i<n->j<n->I64 (f i j)
 d: ∀k,k<=n->I64 (dk f k)
 b: ∀k j,k<n->j<n->I64 (bk f k k j)
theorem WB (n:Nat):ae n [AV.p (.raw (.int .i64 0))]=lc fI (ae n 0):=by simp[lc,fI]
theorem Lp (h:X3 n c) (B:Int):
  CallC prog 130 [dn (mat n n c),.raw (.int .i64 B)] ⟨XX 0 B n (n+1) n (ae n 0) (aQ (n+1) (dk c)) (fo n c n),.one (.ptr 0 0 0 0)⟩:=by
 have N:=TP n c h.n1 h.n16 h.nz h.i;have Q:=h.n1;have X:=h.n16;have H:=aU n n c;have D:=rW n c n;have v:=aI (n+1) (dk c);refine ay func130 rfl ntmps130 (aA (k:=?_));refine ai (Kk 5 19 17 3 (e:=222) (cs:=[.p (.raw (.int .i64 B)),.p (.raw (.slice none 0 0)),.p (.raw (.slice none 0 0)),.sl 17 0 0 n]) (ob:=⟨2,1,lc fI (ae n 0)⟩) (len:=n) [] [] ?_ (fun e O x S=>bF _ _ _ e O x S) (by omega) (by decide) fun K o=>?_)
 rotate_left 1
 ·simp(disch:=omega) only[kd,aa,H,Nat.reduceLeDiff];refine o _ ⟨⟨⟨_,_,rfl,rfl,rfl,rfl,rfl⟩,rfl,congrArg (fun l=>[OObj.mk _ 1 l]) (WB n),rfl⟩,?_⟩;clear o K;intro K o;simp only[kd,aa,V7];apply o;clear o K;refine bo.weak ((lV 19 0 0 1 2 1 (by omega) rfl rfl rfl).trans (lV 19 0 0 2 35 1 (by omega) rfl rfl rfl)) ?_;refine bK [⟨1,_,_,_,N⟩] (k:=ai (ar (k:=?_)));refine aF (G:=jo (n+1)) (fun q=>⟨(j4 (jk::.one (.ptr 19 0 0 0)::.one (.ptr 6 0 0 0)::j16 (.one (.p (.sl (ls fZ (aQ (n+1) (dk c)))))::.raw (.int .i64 ((n+1:Nat):Int))::rN q.i::j16 (j16 (j16 (jk::[])))))),Hm [(6,[⟨224,2,[[.p (.sl (ls fM (uH n c n))),.p (.sl (ls fZ (aQ (n+1) (dk c))))]]⟩]),(19,XX 19 B n q.i 0 (ae n 0) (aQ q.i (dk c)) [])]⟩) (fun q=>n+1-q.i) ⟨0,by omega⟩ ?_ ?_
  ·refine aj ⟨rfl,rfl,trivial⟩ ?_;simp[wk,v]
  rintro⟨i,V⟩;simp only;by_cases r:i<n+1
  ·have t:=Ep (dk c i) (h.d i (by omega));have w:=aB (dk c) r;have m:=aI i (dk c);refine ar (k:=bi rfl (ai (am (aK w (k:=gf [⟨6,_,_,_,t⟩] (aH m @xt) (k:=bL (k:=?_)))))));refine⟨⟨i+1,by omega⟩,by grind,aj ⟨rfl,?_,trivial⟩ ?_⟩
   ·rw[jd i];rfl
   simp[wk]
  have z:i=n+1:=by omega
  subst z;refine ar (k:=bv rfl (ai (fL D (k:=?_))));refine aF (G:=jo n) (fun q=>⟨(j4 (jk::.one (.ptr 19 0 0 0)::j16 (j16 (j4 (.one (.p (.sl (ls fM (uH n c n))))::rN n::rN q.i::j16 (j4 (j4 (j4 (jk::jk::[]))))))))),Hm [(19,XX 19 B n (n+1) q.i (ae n 0) (aQ (n+1) (dk c)) (fo n c q.i))]⟩) (fun q=>n-q.i) ⟨0,by omega⟩ ?_ ?_
  ·refine aj ⟨rfl,trivial⟩ ?_;simp[wk]
  rintro⟨k,W⟩;simp only;by_cases r:k<n
  ·have I:(uH n c n)[k]?=some (KW n c k):=by simp[uH,r]
   have T:=bE (n-k) (elF c k) (show 0<n-k by omega);have U:=aI (n-k) (elF c k 0);have M:=aU (n-k) (n-k) (elF c k);have J:List.drop 1 (List.take (n-k) (aQ (n-k) (elF c k 0)))=nF n c k:=by
    rw[aar (by omega)];show _=aQ _ _;apply aay;intro b;rw[aaN];by_cases L:b<n-k-1
    ·rw[aB _ (by omega),aB _ L,abX 1 b];rfl
    grind [aI]
   have C:=l9 n c k;have E:(nF n c k).length=n-k-1:=aI _ _;refine ar (k:=bi rfl (ai (am (aK (aH I @fM.eq_1) (k:=bz (k:=?_))))));have s:1<=n-k:=by omega
   have P:=aI (n-k-1) (fun b=>bk c k k (k+(b+1)));refine ai (aK (aH T (aH U (aH s (aH (kD xc) (aH J E))))) (k:=?_));refine aF (G:=jo (n-k-1)) (fun q=>⟨(j4 (jk::.one (.ptr 19 0 0 0)::j4 (jk::.one (.sl 11 0 0 q.i)::j16 (j4 (j4 (j4 (jk::jk::.one (.p (.sl (ls fM (uH n c n))))::rN n::rN k::j4 (jk::jk::.one (.p (.sl (ls fZ (nF n c k))))::.raw (.int .i64 ((n-k-1:Nat):Int))::rN q.i::j16 (j4 (jk::[])))))))))),Hm [(11,[⟨2,1,lc fI (aQ q.i fun b=>bk c k k (k+(b+1)))⟩]),(19,XX 19 B n (n+1) k (ae n 0) (aQ (n+1) (dk c)) (fo n c k))]⟩) (fun q=>n-k-1-q.i) ⟨0,by omega⟩ ?_ ?_
   ·refine(dB (k:=11) (d:=11) 2 1 (by omega) rfl rfl).trans (aj ⟨rfl,rfl,trivial⟩ ?_);simp[wk]
   rintro⟨b,L⟩;simp only;by_cases F:b<n-k-1
   ·have t:=Ep (bk c k k (k+(b+1))) (h.b k (k+(b+1)) r (by omega));have w:(nF n c k)[b]?=some (bk c k k (k+(b+1))):=aB _ F;have m:=aI b (fun b=>bk c k k (k+(b+1)));refine ar (k:=bi rfl (ai (am (aK w (k:=wv [⟨2,_,_,_,t⟩] (aH m @xt) (k:=bL (k:=?_)))))));refine⟨⟨b+1,by omega⟩,by grind,aj ⟨?_,rfl,trivial⟩ ?_⟩
    ·rw[jd b];rfl
    simp[wk]
   have u:b=n-k-1:=by omega
   subst u;refine ar (k:=bv rfl ?_);show bo _ _ _ _;refine bo.weak (bH 11 (bG rfl)) ?_;simp only[aaC,aaR,fc,dN];refine dZ (aH @aar (aH C @tf)) (k:=bL (k:=?_));refine⟨⟨k+1,by omega⟩,by grind,aj ⟨?_,trivial⟩ ?_⟩
   ·rw[<- zQ n c k];rfl
   simp[wk]
  have A:k=n:=by omega
  subst A;refine ar (k:=bv rfl (bz (k:=?_)));refine aW ⟨.inr rfl,_,bD.refl _,?_⟩;refine⟨.one (.ptr 19 0 0 0),19,?_,rfl,?_,rfl⟩
  ·simp(disch:=omega) only[kd,results130]
  grind [UI]
 intro j y g R
 match j with
 |0=>injection g with g;subst g;rfl
 |1=>injection g with g;subst g;rfl
 |2=>injection g with g;subst g;rfl
 |3=>omega
 |j+4=>simp at g
theorem rT {F:Nat->Int} {B:Nat}: ∀k,(∀p,p<k->(F p).natAbs<=B)->(dJ F k).natAbs<=k*B
 |0,_=>by simp[dJ]
 |k+1,h=>by
  have b:=rT k fun p c=>h p (by omega)
  grind [dJ]
section
variable {n:Nat}
theorem pe {F:Nat->Int} {k:Nat} (h: ∀i,i<k->F i=0): ∀m,dJ F (k+m)=dJ (fun a=>F (k+a)) m
 |0=>by
  rw[aa3,bA k (G:=fun _=>0) h,iO];rfl
 |m+1=>by rw[<- acE,dJ,dJ,pe h m]
theorem lX {m:Nat} (g:Nat->Int) (y:List Int): ∀l,l<=m->dC (aQ m g) y l=dJ (fun b=>g b*y.getD b 0) l
 |0,_=>rfl
 |l+1,h=>by
  show dC (aQ m g) y l+(aQ m g).getD l 0*y.getD l 0=_;rw[lX g y l (by omega),aav,aB _ (by omega)];rfl
theorem Hk {k a:Nat} (c:b.length+(k+1)=n):aL n b (k+1+a)=b.getD a 0:=by
 grind [aL]
theorem EM {k i:Nat} (e:b.length+(k+1)=n) (c:i<k+1):aL n (0::b) i=0:=by
 grind [aL]
def j6 (f:FF) (k:Nat):Nat->Nat->Int:=fun a b=>bk f k (k+a) (k+b)
theorem Qi (f:FF) {k:Nat} (g:b.length+(k+1)=n):dC (aQ b.length fun j=>j6 f k 0 (j+1)) b b.length=lA f n k (aL n b):=by
 rw[lX _ _ _ (aaq _),lA,show n=k+1+b.length by omega,pe fun i e=>if_pos (by omega)];refine bA _ fun a c=>?_
 rw[if_neg (by omega),Hk (by omega)];show bk f k (k+0) (k+(a+1))*_=_;grind
def JC (g:FF) (y:List Int):Nat->Int
 |0=>0
 |i+1=>JC g y i+y.getD i 0*dC (aQ y.length fun j=>g (i+1) (j+1)) y y.length
theorem PL (g:FF) (y:List Int): ∀i,JC g y i=dJ (fun a=>y.getD a 0*dC (aQ y.length fun j=>g (a+1) (j+1)) y y.length) i
 |0=>rfl
 |i+1=>by rw[JC,dJ,PL g y i]
theorem W6 (f:FF) {k:Nat} (g:b.length+(k+1)=n):JC (j6 f k) b b.length=BF n (bk f k) (aL n (0::b)) (aL n (0::b)):=by
 have l: ∀a,aL n (0::b) (k+1+a)=b.getD a 0:=fun a=>by rw[kH g (by omega),Hk g]
 have e: ∀i,dJ (fun j=>bk f k i j*aL n (0::b) j) n=dJ (fun c=>bk f k i (k+1+c)*b.getD c 0) b.length:=fun i=>by
  rw[show n=k+1+b.length by omega,pe fun j h=>by grind [EM]];grind
 rw[PL];unfold BF;rw[bA n (G:=fun i=>aL n (0::b) i*dJ (fun c=>bk f k i (k+1+c)*b.getD c 0) b.length) fun i _=>by rw[e]];rw[show n=k+1+b.length by omega,pe fun j h=>by grind [EM]];refine bA _ fun a _=>?_
 rw[show k+1+b.length=n by omega,l,lX _ _ _ (aaq _)]
 congr 1
 refine bA _ fun c _=>?_
 show bk f k (k+(a+1)) (k+(c+1))*_=_;grind
theorem SC (e:PD c n) {k:Nat} (g:b.length+(k+1)=n) (B:Int):
  lA c n k (aL n b)*lA c n k (aL n b)-dk c (k+1)*(JC (j6 c k) b b.length-B*dk c k)=gU c n B k (aL n b):=by
 have h: ∀i,k<i->i<n->aL n (0::b) i=aL n b i:=fun i j _=>kH g j
 rw[W6 c g,<- vG (B:=B) e (show k<n by omega) h,<- vD h];have key:=kn e.1 e.2 (aL n (0::b)) (show k<n by omega);grind [tG,mp,gU]
def RC:Nat->Nat
 |0=>0
 |m+1=>4*RC m+67108864
theorem NW (f:0<n) (h:x.natAbs<=n*m):(x/(n:Int)).natAbs<=m:=by
 have e:((n*m:Nat):Int)=(m:Int)*(n:Int):=by grind
 have b:x/(n:Int)<(m:Int)+1:=Int.ediv_lt_of_lt_mul (by omega) (by grind);have c: -(m:Int)<=x/(n:Int):=ad5 (by omega) (by grind);omega
theorem S2 (o:RedR c n) (X:n<=4) (R:0<=x) (H:x<=262144) {k:Nat} (v:k<n) (E:fC c n x (k+1) e) (O: ∀j,k<j->j<n->(e j).natAbs<=m):
  (cz c n x k e).natAbs<=4*m+67108864/\(di c n x k e).natAbs<=4*m+67108864:=by
 have p:=o.pd;have W:=o.2.1 k v;have J:=fP (by omega) (by omega) o k v;have V:0<dk c k/\dk c k<65536:=by
  cases k with
  |zero=>rw[cu];omega
  |succ k=>exact⟨o.2.1 k (by omega),fP (by omega) (by omega) o k (by omega)⟩
 have L:=(jf p.1 p.2 e (n-(k+1)) (k+1) (by omega)).1;have s:=pf p v E;have C:gU c n x k e<=1125899906842624:=by
  unfold gU;generalize BF n (bk c (k+1)) e e=q at*
  generalize dk c (k+1)=d at*
  generalize dk c k=b at*
  have S:x*d<=262144*65536:=aa9 H (by omega) (by omega) (by omega);have U:b*(x*d-q)<=b*(262144*65536):=aaB (by omega) (by omega);omega
 obtain⟨z,A,_⟩:=dx s;have M:isqF (gU c n x k e)<=33554432:=ab8 fun h=>by
  have:=aa9 (show 33554433<=isqF (gU c n x k e) by omega) (show 33554433<=isqF (gU c n x k e) by omega) (by omega) z;omega
 have G:(lA c n k e).natAbs<=n*((dk c (k+1)).toNat*m):=by
  refine rT n fun j w=>?_
  by_cases y:j<=k
  ·omega
  rw[if_neg y,abv];have N:=(o.2.2.2 k (by omega)).1 j w (by omega);rw[iD p.1 k (by omega) (fun t Y=>by have:=p.2 t (by omega);omega) k j v w];exact aaU (by omega) (O j (by omega) w)
 have K:(lA c n k e).natAbs<=(dk c (k+1)).toNat*(4*m):=by
  refine aaj G ?_;simp_all[aat,ac9]
 unfold cz di;generalize isqF (gU c n x k e)=r at*
 generalize lA c n k e=l at*
 clear s C A G E L;have g:dk c (k+1)=(((dk c (k+1)).toNat:Nat):Int):=by omega
 rw[g];generalize(dk c (k+1)).toNat=D at*
 have I:0<D:=by omega
 have F: ∀u:Int,(u.natAbs<=33554432+D*(4*m))->(u/(D:Int)).natAbs<=4*m+33554432:=fun u Z=>NW I (by
  grind)
 have P:=F (r+l) (by omega);have Q:=F (r-l) (by omega);omega
theorem oH: ∀m,m<=4->RC m<=5704253440
 |0,_=>by decide
 |1,_=>by decide
 |2,_=>by decide
 |3,_=>by decide
 |4,_=>by decide
 |m+5,h=>by omega
def Fa (y:List Int):Prop:= ∀i,i<y.length->(y.getD i 0).natAbs<=RC (y.length-i)
theorem Fa.nil:Fa []:=fun i h=>by simp at h
theorem Fa.cons (h:Fa b) (e:x.natAbs<=RC (b.length+1)):Fa (x::b):=fun i f=>by
 cases i with
 |zero=>exact e
 |succ i=>
  rw[aeg,aaG,ad7];exact h i (by grind)
theorem J0: ∀{a b:Nat},a<=b->RC a<=RC b:=by
 intro a b h
 induction b with
 |zero=>grind
 |succ b c=>
  grind [RC]
theorem Fa.bd (h:Fa b) (z:Int) (e:z∈b):z.natAbs<=RC b.length:=by
 obtain⟨i,c,rfl⟩:=List.mem_iff_getElem.1 e;have:=h i c;rw[aav,aau c]at this;exact aaj this (J0 (by omega))
theorem q9 (q:RedR c n) (p:n<=4) (g:0<=x) (h:x<=262144) {k:Nat} (o:b.length+(k+1)=n) (r:Fa b) (l:fC c n x (k+1) (aL n b)):
  (cz c n x k (aL n b)).natAbs<=RC (b.length+1)/\(di c n x k (aL n b)).natAbs<=RC (b.length+1):=
 S2 q p g h (by omega) l fun j s m=>by
  have e:=Hk (a:=j-(k+1)) o;rw[show k+1+(j-(k+1))=j by omega]at e;rw[e];exact aaj (r (j-(k+1)) (by omega)) (J0 (by omega))
end
section
variable {n:Nat}
def vK:Nat->Nat
 |0=>0
 |m+1=>4*vK m+2147483648
theorem Cm: ∀{a b:Nat},a<=b->vK a<=vK b:=by
 intro a b h
 induction b with
 |zero=>grind
 |succ b c=>
  grind [vK]
theorem ZY (h:n<=7):vK n<=11727408201728:=aaj (Cm h) (by decide)
theorem Uf {m:Nat} (h:m<=8):vK m<=46911780290560:=aaj (Cm h) (by decide)
def pA (y:List Int):Prop:= ∀i,i<y.length->(y.getD i 0).natAbs<=vK (y.length-i)
theorem pA.nil:pA []:=fun i h=>by simp at h
theorem pA.cons (h:pA b) (e:x.natAbs<=vK (b.length+1)):pA (x::b):=fun i f=>by
 cases i with
 |zero=>exact e
 |succ i=>
  rw[aeg,aaG,ad7];exact h i (by grind)
theorem pA.at_ (h:pA b) (i:Nat):(b.getD i 0).natAbs<=vK b.length:=by
 by_cases c:i<b.length
 ·exact aaj (h i c) (Cm (by omega))
 grind
structure pn (n:Nat) (f:FF) (B:Int):Prop where
 r:RedR f n
 n8:n<=8
 b0:0<=B
 b1:B<=1073741824
def uF (f:FF) (k:Nat) (y:List Int) (m:Nat):Int:=dJ (fun b=>bk f k k (k+(b+1))*y.getD b 0) m
def qi (f:FF) (n:Nat) (B:Int) (k:Nat) (x:Nat->Int):Int:=B*dk f k-BF n (bk f k) x x
theorem pb (f:FF) {k:Nat} (c:b.length+(k+1)=n):uF f k b b.length=lA f n k (aL n b):=by
 rw[<- Qi f c,lX _ _ _ (aaq _)];rfl
section
variable {f:FF} {B:Int} (hv:pn n f B)
include hv
theorem pn.d {k:Nat} (b:k<=n):0<dk f k/\dk f k<65536:=by
 cases k with
 |zero=>rw[cu];omega
 |succ k=>exact⟨hv.r.2.1 k (by omega),fP (by omega) hv.n8 hv.r k (by omega)⟩
theorem pn.sized {k j:Nat} (g:k<j) (b:j<n):2*(bk f k k j).natAbs<=(dk f (k+1)).toNat:=by
 have e:=hv.d (k:=k+1) (by omega);have c:=(hv.r.2.2.2 k (by omega)).1 j b (by omega);rw[iD hv.r.1 k (by omega) (fun t h=>by have:=hv.r.2.1 t (by omega);omega) k j (by omega) b];omega
theorem pn.shP_bd {k:Nat} (p:b.length+(k+1)=n) (e:pA b) (q:m<=b.length):(uF f k b m).natAbs<=(dk f (k+1)).toNat*(4*vK b.length):=by
 have r:=hv.n8;refine aaj (rT (B:=(dk f (k+1)).toNat/2*vK b.length) m fun c o=>?_) ?_
 ·rw[abv];have:=hv.sized (k:=k) (j:=k+(c+1)) (by omega) (by omega);exact aaU (by omega) (e.at_ c)
 have g:m*((dk f (k+1)).toNat/2*vK b.length)<=8*((dk f (k+1)).toNat/2*vK b.length):=aat _ (by omega);have h:8*((dk f (k+1)).toNat/2*vK b.length)=(8*((dk f (k+1)).toNat/2))*vK b.length:=(ace _ _ _).symm;have l:(8*((dk f (k+1)).toNat/2))*vK b.length<=(4*(dk f (k+1)).toNat)*vK b.length:=aat _ (by omega);grind
theorem pn.shP_c {k:Nat} (c:b.length+(k+1)=n) (g:pA b) (e:m<=b.length): -3074285718752788480<=uF f k b m/\uF f k b m<=3074285718752788480:=by
 have h:=hv.shP_bd c g e;have l:=hv.d (k:=k+1) (by omega);have o:=hv.n8;have j:=aaU (show(dk f (k+1)).toNat<=65535 by omega) (show 4*vK b.length<=46909632806912 by grind [ZY]);omega
theorem pn.rs0 {k:Nat} (c:k<=n) (h:fC f n B k e):0<=qi f n B k e/\qi f n B k e<=70368744177664:=by
 have b:=hv.r.pd;have j:=hv.d c;have l:=(jf b.1 b.2 e (n-k) k (by omega)).1;have g:B*dk f k<=1073741824*65536:=aa9 hv.b1 (by omega) (by omega) (by omega);grind [qi,fC]
theorem pn.sq {k:Nat} (c:k<n) (b:fC f n B (k+1) e):0<=gU f n B k e/\gU f n B k e<=4611686018427387904:=by
 have g:=hv.rs0 c b;have j:=hv.d (k:=k) (by omega);refine⟨pf hv.r.pd c b,?_⟩;show dk f k*qi f n B (k+1) e<=_;have h:dk f k*qi f n B (k+1) e<=65536*70368744177664:=aa9 (by omega) g.2 g.1 (by omega);omega
theorem pn.lohi {k:Nat} (j:b.length+(k+1)=n) (v:pA b) (o:fC f n B (k+1) (aL n b)):
  (cz f n B k (aL n b)).natAbs<=vK (b.length+1)/\(di f n B k (aL n b)).natAbs<=vK (b.length+1)/\0<=di f n B k (aL n b)-cz f n B k (aL n b)+1:=by
 have z:=hv.d (k:=k+1) (by omega);have c:=hv.sq (k:=k) (by omega) o;have A:=n4 c.1 c.2;have t:=hv.shP_bd j v (aaq _);rw[pb f j]at t;have s:vK (b.length+1)=4*vK b.length+2147483648:=rfl;rw[s];unfold cz di;generalize isqF (gU f n B k (aL n b))=r at*
 generalize lA f n k (aL n b)=l at*
 have e:dk f (k+1)=(((dk f (k+1)).toNat:Nat):Int):=by omega
 rw[e];generalize(dk f (k+1)).toNat=D at*
 have m:0<D:=by omega
 have g: ∀u:Int,(u.natAbs<=2147483648+D*(4*vK b.length))->(u/(D:Int)).natAbs<=4*vK b.length+2147483648:=fun u C=>NW m (by
  grind)
 have w:=g (r+l) (by omega);have x:=g (r-l) (by omega);refine⟨by omega,by omega,?_⟩;have E:=ack (r+l) (show(0:Int)<(D:Int) by omega);have F:=ack (r-l) (show(0:Int)<(D:Int) by omega);generalize(r+l)/(D:Int)=p at*
 generalize(r-l)/(D:Int)=q at*
 refine ab8 fun h=>?_
 have G:(p+1+(q+1))*(D:Int)<=0*(D:Int):=abs (by omega) (by omega);grind
theorem pn.step {k:Nat} (m:b.length+(k+1)=n) {c:Int} (o:fC f n B (k+1) (aL n b)) (g:cz f n B k (aL n b)<=c) (l:c<=di f n B k (aL n b)):
  fC f n B k (aL n (c::b))/\gU f n B k (aL n b)-(dk f (k+1)*c+lA f n k (aL n b))*(dk f (k+1)*c+lA f n k (aL n b))=dk f (k+1)*qi f n B k (aL n (c::b)):=by
 have e:=hv.r.pd;have j: ∀i,k<i->i<n->aL n (c::b) i=aL n b i:=fun i g _=>kH m g
 have p:aL n (c::b) k=c:=mp m;have h:=(fC.tail e (k:=k+1) (by omega) (x':=aL n b) (fun i g l=>j i (by omega) l)).2 o;refine⟨(l7 e (by omega) h).2 ?_,?_⟩
 ·grind [qZ,qS]
 rw[<- vG (B:=B) e (show k<n by omega) j,<- vD j];have key:=kn e.1 e.2 (aL n (c::b)) (show k<n by omega);grind [tG,gU,qi]
end
/-! The walk. -/
section
variable {γ:Type} (yd:Nat->Int->γ->γ×Bool)
def lpM (b:Int->γ->γ×Bool):Nat->Int->γ->γ×Bool
 |0,_,g=>(g,true)
 |m+1,x,g=>match b x g with
  |(c,true)=>lpM b m (x+1) c
  |(c,false)=>(c,false)
noncomputable def jU (f:FF) (n:Nat) (B:Int):Nat->List Int->γ->γ×Bool
 |0,y,g=>yd n (di f n B 0 (aL n y)-cz f n B 0 (aL n y)+1) g
 |k+1,y,g=>match yd (n-(k+1)) (di f n B (k+1) (aL n y)-cz f n B (k+1) (aL n y)+1) g with
  |(b,true)=>lpM (fun c=>jU f n B k (c::y)) (di f n B (k+1) (aL n y)-cz f n B (k+1) (aL n y)+1).toNat (cz f n B (k+1) (aL n y)) b
  |(b,false)=>(b,false)
theorem OX {e:γ->Prop} {b:Int->γ->γ×Bool} (j: ∀c g,e g->(b c g).2=true->e (b c g).1): ∀(m:Nat) (x:Int) (g:γ),e g->(lpM b m x g).2=true->e (lpM b m x g).1
 |0,_,_,f,_=>f
 |m+1,x,g,f,h=>by
  have k:=j x g f;unfold lpM at h⊢;generalize b x g=r at*
  obtain⟨l,t⟩:=r;cases t with
  |true=>exact OX j m _ _ (k rfl) h
  |false=>cases h
theorem Ri {lv:γ->Prop} (b: ∀m c g,lv g->(yd m c g).2=true->lv (yd m c g).1) (f:FF) (n:Nat) (B:Int): ∀(k:Nat) (y:List Int) (g:γ),lv g->(jU yd f n B k y g).2=true->lv (jU yd f n B k y g).1
 |0,y,g,e,h=>b _ _ g e h
 |k+1,y,g,e,h=>by
  have q:=b (n-(k+1)) (di f n B (k+1) (aL n y)-cz f n B (k+1) (aL n y)+1) g e;unfold jU at h⊢;generalize yd (n-(k+1)) (di f n B (k+1) (aL n y)-cz f n B (k+1) (aL n y)+1) g=r at*
  obtain⟨j,t⟩:=r;cases t with
  |true=>exact OX (fun c g e h=>Ri b f n B k (c::y) g e h) _ _ _ (q rfl) h
  |false=>cases h
end
end
end Go.Proofs.YtalmoejhjceflaaGreat
