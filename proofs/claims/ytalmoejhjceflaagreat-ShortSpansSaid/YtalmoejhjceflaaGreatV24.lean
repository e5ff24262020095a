/-
  Part 25 of a proof (walks and plain facts).
-/
import Derived.Test.YtalmoejhjceflaaGreatV23
import Derived.Lib.BitFns
set_option linter.all false
set_option maxRecDepth 100000
set_option maxHeartbeats 64000000
open Nat renaming reduceAdd → aa
open List renaming replicate → af
namespace Go.Proofs.YtalmoejhjceflaaGreat
open Go.RowKit Go.Proofs.Tryz
variable {n m:Nat} {x:Int} {b:FF}
theorem Rl {A B:List Nat} (g:P9 A B) (h:A[g.i]?=some 0): ∃b:P9 A B,b.i=g.i+1/\b.O=g.O:=by
 refine⟨⟨g.i+1,g.O,(aeI.1 h).1,g.len,g.lmb,?_,fun k e c=>g.zero k (by omega) c⟩,rfl,rfl⟩;rw[iN h,g.val];simp
theorem Q2 (A B:List Nat) (b:Lmb A) (e:Lmb B) (la:A.length<=536870912) (lb:B.length<=536870912):CallC prog 168 [eY A,eY B] ⟨[],eY (aD (natV A*natV B))⟩:=by
 by_cases t:A.length<=1/\B.length<=1
 ·have u:=t.1;have v:=t.2;have w1:=vk A b (by omega);have w2:=vk B e (by omega);have N:natV A<4294967296:=by
   have:=j9 b;exact aeT this (by have:=ae5 (n:=4294967296) (by omega) u;omega)
  have P:natV B<4294967296:=by
   have:=j9 e;exact aeT this (by have:=ae5 (n:=4294967296) (by omega) v;omega)
  have W:=sr N P;have w3:=nC (natV A*natV B) (by omega);have D:(natV A:Int)*(natV B:Int)=((natV A*natV B:Nat):Int):=by simp
  generalize natV A*natV B=p at*
  refine aB func168 rfl ntmps168 (aE (k:=aj (ax (k:=aC rfl (ce [⟨1,_,_,_,w1⟩,⟨3,_,_,_,w2⟩,⟨5,_,_,_,w3⟩] D (k:=aI @results168))))))
 have Q:((A.length:Int)+(B.length:Int)).toNat=A.length+B.length:=by omega
 refine aB func168 rfl ntmps168 (aE (k:=?_));refine aj (mc (S:=⟨(eY A::eY B::j16 (j16 (j16 (j16 (j16 (j4 ([]))))))),Hm []⟩) ?_ ?_)
 ·by_cases U:A.length<=1
  ·refine ax (k:=?_);refine aX rfl (fun h=>by simp at h<;>omega) (fun _=>al (ak trivial ?_));simp[wk]
  refine ax (k:=?_);refine aX rfl (fun h=>by simp at h<;>omega) (fun _=>al (ak trivial ?_));simp[wk]
 refine aF (aG Q @pU) (k:=aj (aZ (k:=?_)));refine ay (G:=P9 A B) (fun g=>⟨(eY A::eY B::jk::jk::jk::.one (.sl 31 0 0 (A.length+B.length))::j16 (j4 (j4 (jk::jk::eY A::rN A.length::rN g.i::j16 (j16 (j16 (jk::jk::jk::[]))))))),Hm [(31,[⟨165,1,lc fU g.O⟩])]⟩) (fun g=>A.length-g.i) ⟨0,af (A.length+B.length) 0,by omega,by simp,fun x f=>by simp at f;omega,by simp[ke,natV],fun k U V=>by rw[agC,if_pos V]⟩ ?_ ?_
 ·refine ak ⟨rfl,trivial⟩ ?_;simp[wk]
 rintro⟨i,O,Z,len,lmb,val,zero⟩;simp only;by_cases K:i<A.length
 ·obtain⟨x,f⟩:=getElem?_of_lt K;have w:=e7 b f;refine ax (k:=aP rfl (aj (ao (aF f (k:=?_)))));by_cases H:x=0
  ·subst H;obtain⟨r,m,q⟩:=Rl (⟨i,O,Z,len,lmb,val,zero⟩:P9 A B) f;simp only at m q;refine aj (ax (k:=aC rfl (aT (bK (k:=?_)))));refine⟨r,by omega,ak ⟨by rw[q];rfl,trivial⟩ ?_⟩;simp[wk,m]
  have T:(i:Int)+(B.length:Int)+1=((i+B.length+1:Nat):Int):=by omega
  have el:i+B.length+1-i=B.length+1:=by omega
  refine aj (ax (k:=aq rfl (al (aF (aG T el) (k:=aZ (k:=aj (aZ (k:=?_))))))));refine ay (G:=S7 A B i x) (fun g=>⟨(eY A::eY B::jk::jk::jk::.one (.sl 31 0 0 (A.length+B.length))::jk::.raw (.int .u32 (x:Int))::.one (.sl 31 0 i (B.length+1))::.raw (.int .u64 (g.c:Int))::j16 (j4 (jk::jk::eY A::rN A.length::rN i::j4 (j4 (j4 (jk::jk::eY B::rN B.length::rN g.j::j16 (j16 (jk::jk::[])))))))),Hm [(31,[⟨165,1,lc fU g.O⟩])]⟩) (fun g=>B.length-g.j) ⟨0,O,0,by omega,len,lmb,by omega,by simpa[natV] using val,zero⟩ ?_ ?_
  ·refine ak ⟨rfl,trivial⟩ ?_;simp[wk]
  intro g;by_cases L:g.j<B.length
  ·obtain⟨y,I⟩:=getElem?_of_lt L;have z:=e7 e I;have J:=g.len;obtain⟨o,C⟩:=getElem?_of_lt (show i+g.j<g.O.length by omega);have aa:=e7 g.lmb C;have W:=sr w z;have F:=g.hc;obtain⟨r,m,q,q3⟩:=DM g I C K w z;have D:(x:Int)*(y:Int)=((x*y:Nat):Int):=by simp
   generalize hp:x*y=p at*
   have E:IntKind.u32.wrap ((g.c:Int)+((p:Int)+(o:Int)))=(((g.c+(p+o))%4294967296:Nat):Int):=by rfl
   have R:Int.fdiv ((g.c:Int)+((p:Int)+(o:Int))) (2^(min 32 IntKind.u64.bits))=(((g.c+(p+o))/4294967296:Nat):Int):=by grind [s32]
   refine ax (k:=aP rfl (aj (ao (aF I (k:=aF (aG D C) (k:=aF (aG E (aG C @ir)) (k:=df R (k:=bK (k:=?_)))))))));refine⟨r,by omega,ak ⟨by rw[q];rfl,trivial⟩ ?_⟩;simp[wk,m,q3]
  have X:=g.hj;have F:=g.hc;have Y:=g.len;obtain⟨r,m,q⟩:=DL f g L;have E:IntKind.u32.wrap (g.c:Int)=(g.c:Int):=by rw[SP];omega
  refine ax (k:=aQ rfl ?_);show bv _ _ _ _;have hz:=g.zero (i+B.length) (aeJ _) (by omega);refine dz (aG E (aG hz @ir)) (k:=bK (k:=?_));refine⟨r,by omega,ak ⟨by rw[q];rfl,trivial⟩ ?_⟩;simp[wk,m]
 have s:natV O=natV A*natV B:=by
  grind
 have M:=i5 O (by omega);rw[e8 lmb,s]at M;refine ax (k:=aQ rfl ?_);show bv _ _ _ _;refine bv.weak ((bR 31 (bj rfl)).trans (ak (tm:=(j4 (jk::eY O::j16 (j16 (j16 (j16 (j16 ([])))))))) (l:=[]) trivial (by simp[wk,f5,gn,aK,Hm,ld,jp,aeS,len]))) ?_;refine bu [⟨1,_,_,_,M⟩] (k:=aI @results168)
/-! Signed numbers. -/
theorem T3 {a b:Nat}:0<=jB a b↔b<=a:=by grind [jB]
theorem Mu {c e:Bool} {a:Nat} (h:c≠e) (f:n<=a):jd c (a-n)=jd c a+jd e n:=by
 grind [jd]
theorem Mv {e c:Bool} {a:Nat} (h:e≠c) (f:a<=n):jd c (n-a)=jd e a+jd c n:=by
 grind [jd]
theorem Z7 (n:Bool) (a b:Nat):jd n (a+b)=jd n a+jd n b:=by grind [jd]
theorem Fi (g m:Bool) (a b:Nat) (p:(aD a).length<=536870912) (q:(aD b).length<=536870912):CallC prog 166 [.raw (.bool g),eY (aD a),.raw (.bool m),eY (aD b)] ⟨[],tZ (jd g a+jd m b)⟩:=by
 by_cases o:g=m
 ·subst o;have c:=DA (aD a) (aD b) (aN _) (aN _) p q;rw[aJ,aJ]at c;have e:=gI g (a+b);rw[Z7]at e;refine aB func166 rfl ntmps166 (aE (k:=aj (ao (aZ (k:=aC rfl (bD [⟨3,_,_,_,c⟩,⟨4,_,_,_,e⟩] (k:=aI @results166)))))))
 have l:(g==m)=false:=by grind
 have n:=A2 (aD a) (aD b) (aN _) (aN _) (di _) (di _) (by omega) (by omega);rw[aJ,aJ]at n;have j:=T3 (a:=a) (b:=b);by_cases f:b<=a
 ·have c:=xm (aD a) (aD b) (aN _) (aN _) (lK (aN _) (di _) (by grind [aJ])) (by grind [aJ]) p;rw[aJ,aJ]at c;have e:=gI g (a-b);rw[Mu o f]at e;have s:0<=jB a b:=j.2 f;generalize jB a b=r at*
  refine aB func166 rfl ntmps166 (aE (k:=aj (ao (d9 l (k:=aq rfl (bD [⟨2,_,_,_,n⟩] (k:=aC rfl (bD [⟨3,_,_,_,c⟩,⟨4,_,_,_,e⟩] (k:=aI @results166)))))))))
 have c:=xm (aD b) (aD a) (aN _) (aN _) (lK (aN _) (di _) (by grind [aJ])) (by grind [aJ]) q;rw[aJ,aJ]at c;have e:=gI m (b-a);rw[Mv o (by omega)]at e;have s: ¬0<=jB a b:=fun h=>f (j.1 h)
 generalize jB a b=r at*
 refine aB func166 rfl ntmps166 (aE (k:=aj (ao (d9 l (k:=aq rfl (bD [⟨2,_,_,_,n⟩] (k:=aq rfl (al (bD [⟨3,_,_,_,c⟩,⟨4,_,_,_,e⟩] (k:=aI @results166))))))))))
theorem UV (a b:Int) (c:Bh a) (e:Bh b):CallC prog 118 [tZ a,tZ b] ⟨[],tZ (a-b)⟩:=by
 have t1:=i5 (aD a.natAbs) c.bg.len;have t2:=i5 (aD b.natAbs) e.bg.len;rw[kn]at t1 t2;have h:=Fi (decide (a<0)) (!decide (b<0)) a.natAbs b.natAbs c.len e.len;rw[FG,Vw,<- aiM]at h;refine aB func118 rfl ntmps118 (aE (k:=dR [⟨4,_,_,_,t1⟩,⟨10,_,_,_,t2⟩,⟨11,_,_,_,h⟩] (k:=aI @results118)))
theorem Fj (a b:Int) (e:Bh a) (f:Bh b):CallC prog 119 [tZ a,tZ b] ⟨[],tZ (a*b)⟩:=by
 have t1:=i5 (aD a.natAbs) e.bg.len;have t2:=i5 (aD b.natAbs) f.bg.len;rw[kn]at t1 t2;have h:=Q2 (aD a.natAbs) (aD b.natAbs) (aN _) (aN _) e.len f.len;rw[aJ,aJ]at h;have c:=gI (!(decide (a<0)==decide (b<0))) (a.natAbs*b.natAbs);rw[OS]at c;refine aB func119 rfl ntmps119 (aE (k:=dR [⟨7,_,_,_,t1⟩,⟨10,_,_,_,t2⟩,⟨11,_,_,_,h⟩,⟨12,_,_,_,c⟩] (k:=aI @results119)))
theorem lW {P:Program} {b:Func} {s:AS} {r:TV} (k:Nat) (f:s.tmps[k]?=some (.raw (.slice none 0 0))) (e:s.H 1000=[]) (h:uh P ⟨s.tmps.set k (.one (.p (.sl []))),s.H⟩ b.results.toList=some r) (g:noRefTV r=true): ∃c,bN s c/\qn P b ⟨[],r⟩ c:=
 ⟨_,EE k f,oW e h g⟩
theorem Qk {P:Program} (m:Nat) (b:List (ar P)) (e:List Nat) {id:Nat} {c:Array Oper} {s:AS} {Q:Exit->AS->Prop} (t:s.tmps.length<=1000000) (u:m<=c.toList.length)
  (h: ∀K:AS->Prop,(∀j,(∃f,bN j f/\f.tmps.length<=1000000/\ ∀K:AS->Prop,(∀g,Q .normal g->K g)->bM P (b.map ar.a) e (aV c (c.toList.drop m) m) (some f) K)->K j)->bM P (b.map ar.a) e (aV c (c.toList.take m) 0) (some s) K):bv P (.region id c false) Q s:=by
 obtain⟨j,l,f,q,p,n⟩:=aO P (b.map ar.a) e c _ 0 s _ (h _ fun _ h=>h);obtain⟨g,r,o⟩:=aO P (b.map ar.a) e c _ m f _ (n _ fun _ h=>h);refine yh m _ (ar.ok b) e l q ?_ o;grind
theorem i7 (M:List (List Int)) (r:List Int):lc (fR fI) M++[[.p (.sl (ls fI r))]]=lc (fR fI) (M++[r]):=by simp[lc,fR]
theorem Q1 (a b:Nat) (v:0<b) (z:a<18446744073709551616) (A:(aD b).length<=268435456):CallC prog 169 [eY (aD a),eY (aD b)] ⟨[],QJ a b⟩:=by
 have l:(aD a).length<=2:=kM (k:=2) (by omega);have f:=A2 (aD a) (aD b) (aN _) (aN _) (di _) (di _) (by omega) (by omega);rw[aJ,aJ]at f;by_cases e:a<b
 ·rw[rX e]at f;have j:=IB (aD a) (by omega);unfold QJ;rw[aib e,ahk e,cX];refine aB func169 rfl ntmps169 (aE (k:=aj (ao (bD [⟨2,_,_,_,f⟩] (k:=aC rfl (bu [⟨1,_,_,_,j⟩] (k:=?_)))))));refine aM ⟨.inr rfl,lW 4 rfl rfl ?_ rfl⟩;simp(disch:=omega) only[kd,results169]
 obtain⟨c,g,w⟩: ∃c,c=jB a b/\0<=c:=⟨_,rfl,NZ (by omega)⟩;rw[<- g]at f;clear g;have o:(aD b).length<=2:=aeN (xu (show b<=a by omega)) l;have B:=jJ l;have C:=jJ o;have m:=vk (aD a) (aN _) l;have n:=vk (aD b) (aN _) o;rw[aJ]at m n;have x:a/b<=a:=ag9 _ _;have y:a%b<b:=afp _ v;have t:=nC (a/b) (by omega);have u:=nC (a%b) (by omega);have h:(b:Int)≠0:=by omega
 have p:IntKind.u64.wrap (Int.tdiv (a:Int) (b:Int))=((a/b:Nat):Int):=by
  grind [IntKind.wrap_u64]
 have s:Int.tmod (a:Int) (b:Int)=((a%b:Nat):Int):=by
  rfl
 unfold QJ;generalize a/b=q at*
 generalize a%b=r at*
 refine aB func169 rfl ntmps169 (aE (k:=aj (ao (bD [⟨2,_,_,_,f⟩] (k:=aq rfl (ax (k:=aC rfl (bu [⟨1,_,_,_,m⟩,⟨3,_,_,_,n⟩] (k:=dF [⟨3,_,_,_,t⟩,⟨7,_,_,_,u⟩] (aG (@ne_eq.{1}) (aG h (aG @not_false_eq_true (aG p s)))) (k:=aI @results169))))))))))
theorem acd {a:Int} (g:x≠0) (f:0<=a):a/x=jd (decide (x<0)) (a.natAbs/x.natAbs)/\a%x=jd false (a.natAbs%x.natAbs):=by
 have c:tr a x=jd false (a.natAbs%x.natAbs):=by grind [tr]
 have e:tq a x=jd (decide (x<0)) (a.natAbs/x.natAbs):=by grind [tq]
 grind [Lb,jd]
theorem YX {a:Int} (g:x≠0) (f:a<0) (h:a.natAbs%x.natAbs=0):a/x=jd (!decide (x<0)) (a.natAbs/x.natAbs)/\a%x=jd false (a.natAbs%x.natAbs):=by
 have c:tr a x=jd false (a.natAbs%x.natAbs):=by grind [tr,jd]
 have e:tq a x=jd (!decide (x<0)) (a.natAbs/x.natAbs):=by grind [tq]
 grind [Lb,jd]
theorem acb {a:Int} (m:x≠0) (e:a<0) (h:a.natAbs%x.natAbs≠0):a/x=jd (!decide (x<0)) (a.natAbs/x.natAbs+1)/\a%x=jd false (x.natAbs-a.natAbs%x.natAbs):=by
 have l:tr a x= -((a.natAbs%x.natAbs:Nat):Int):=by unfold tr;rw[decide_eq_true e];rfl
 have f:a.natAbs%x.natAbs<x.natAbs:=afp _ (by omega);by_cases c:x<0
 ·obtain⟨g,j⟩:=Ok (a:=a) c (by omega);grind [tq,jd]
 obtain⟨g,j⟩:=Ol (a:=a) (show 0<x by omega) (by omega);grind [tq,jd]
theorem DB (a b:Int) (c:b≠0) (w:a.natAbs<18446744073709551616) (y:Sz b 2):CallC prog 120 [tZ a,tZ b] ⟨[],.tup [(true,cZ (a/b)),(true,cZ (a%b)),(false,[.p (.raw (.bool true))])]⟩:=by
 have E:(aD a.natAbs).length<=2:=kM (k:=2) (by omega);have F:(aD b.natAbs).length<=2:=kM y;have t1:=i5 (aD a.natAbs) (by omega);have t2:=i5 (aD b.natAbs) (by omega);rw[kn]at t1 t2;have A:(aD b.natAbs).length≠0:=fun h=>c (by grind [jC])
 have o:=Q1 a.natAbs b.natAbs (by omega) w (by omega);unfold QJ at o;have m:=jC (n:=a.natAbs%b.natAbs);have t:a.natAbs%b.natAbs<b.natAbs:=afp _ (by omega);have G:=xu (show a.natAbs/b.natAbs<=a.natAbs from ag9 _ _);have B:=xu (ahN t);by_cases l:a<0
 ·by_cases s:a.natAbs%b.natAbs=0
  ·obtain⟨g,j⟩:=YX c l s;have e:=gI (!decide (b<0)) (a.natAbs/b.natAbs);have f:=gI false (a.natAbs%b.natAbs);rw[<- g]at e;rw[<- j]at f;have z:(aD (a.natAbs%b.natAbs)).length=0:=m.2 s;clear g j;generalize a.natAbs/b.natAbs=q at*
   generalize a.natAbs%b.natAbs=r at*
   generalize a/b=Q at*
   generalize a%b=R at*
   refine aB func120 rfl ntmps120 (aE (k:=bD [⟨2,_,_,_,t2⟩] (k:=aj (ax (k:=aq rfl (al (bD [⟨2,_,_,_,t1⟩,⟨4,_,_,_,o⟩] (k:=ax (k:=aj (ao (aj (ao (aj (ao (aj (aj (ax (k:=aq rfl (al (ax (k:=aC rfl (aT (aZ (k:=aT (bD [⟨2,_,_,_,e⟩,⟨4,_,_,_,f⟩] (k:=aI @results120))))))))))))))))))))))))))
  obtain⟨g,j⟩:=acb c l s;have u:=DA (aD (a.natAbs/b.natAbs)) [1] (aN _) (by intro x D;grind) (by omega) (by simp);rw[aJ,show natV [1]=1 from rfl,show eY [1]= .one (.p (.sl [[.raw (.int .u32 1)]]))from rfl]at u;have v:=xm (aD b.natAbs) (aD (a.natAbs%b.natAbs)) (aN _) (aN _) B (by grind [aJ]) (by omega);rw[aJ,aJ]at v;have e:=gI (!decide (b<0)) (a.natAbs/b.natAbs+1);have f:=gI false (b.natAbs-a.natAbs%b.natAbs);rw[<- g]at e;rw[<- j]at f;have z:(aD (a.natAbs%b.natAbs)).length≠0:=fun h=>s (m.1 h)
  clear g j;generalize b.natAbs-a.natAbs%b.natAbs=C at*
  generalize a.natAbs/b.natAbs=q at*
  generalize a.natAbs%b.natAbs=r at*
  generalize a/b=Q at*
  generalize a%b=R at*
  refine aB func120 rfl ntmps120 (aE (k:=bD [⟨2,_,_,_,t2⟩] (k:=aj (ax (k:=aq rfl (al (bD [⟨2,_,_,_,t1⟩,⟨4,_,_,_,o⟩] (k:=ax (k:=aj (ao (aj (ao (aj (ao (aj (aj (ax (k:=aC rfl (aT (bD [⟨2,_,_,_,u⟩] (k:=adA [⟨2,_,_,_,v⟩] (k:=aZ (k:=aT (bD [⟨2,_,_,_,e⟩,⟨4,_,_,_,f⟩] (k:=aI @results120)))))))))))))))))))))))))
 obtain⟨g,j⟩:=acd c (show 0<=a by omega);have e:=gI (decide (b<0)) (a.natAbs/b.natAbs);have f:=gI false (a.natAbs%b.natAbs);rw[<- g]at e;rw[<- j]at f;clear g j;generalize a.natAbs/b.natAbs=q at*
 generalize a.natAbs%b.natAbs=r at*
 generalize a/b=Q at*
 generalize a%b=R at*
 refine aB func120 rfl ntmps120 (aE (k:=bD [⟨2,_,_,_,t2⟩] (k:=aj (ax (k:=aq rfl (al (bD [⟨2,_,_,_,t1⟩,⟨4,_,_,_,o⟩] (k:=ax (k:=aj (ao (aj (ao (aj (ao (aj (aj (ax (k:=aq rfl (al (ax (k:=aq rfl (al (aT (bD [⟨2,_,_,_,e⟩,⟨4,_,_,_,f⟩] (k:=aI @results120)))))))))))))))))))))))))
theorem HU: ∀(x:Nat),x≠0->x<18446744073709551616->1<=Lib.bitLen x/\2^(Lib.bitLen x-1)<=x/\x<2^Lib.bitLen x:=fun x=>by
 induction x using Nat.strongRecOn with
 |_ x h=>
  intro c g;have f:=Lib.bitLen_half x c g;by_cases e:x/2=0
  ·have b:x=1:=by omega
   subst b;have:Lib.bitLen 1=1:=by decide
   grind
  obtain⟨j,l,m⟩:=h (x/2) (by omega) e (by omega);rw[f];refine⟨by omega,?_,?_⟩
  ·rw[show 1+Lib.bitLen (x/2)-1=(Lib.bitLen (x/2)-1)+1 by omega,af3];omega
  grind
theorem ID (a:Int) (c:0<=a) (b:a<=4611686018427387904):CallC prog 185 [.raw (.int .u64 a)] ⟨[],.raw (.int .i64 (Lib.bitLen a.toNat:Int))⟩:=by
 refine oB (by kernel_rfl) fun X w vs o h g=>?_
 obtain⟨p,n,l⟩:=HJ g (j:=0) rfl;obtain⟨rfl,_⟩:=bo (ρ:=fun _ _=>none) (H:=fun _=>[]) l;obtain rfl:vs= #[.int .u64 a]:=by
  grind
 exact(Any.bits_Len64 Tryz.lays129 a w c (by omega)).mono fun e q ⟨b,f⟩=>⟨_,b,fun m H Y=>dc rfl,by rw[f];exact fm.refl _⟩
/-! Newton's steps. -/
theorem UY:isqF 0=0:=(dU (afY 0)).uniq ⟨afY _,by decide,by decide⟩
theorem qY {a:Int} (c:0<=a) (e:a<=4611686018427387904):0<=isqF a/\isqF a<=2147483648:=by
 obtain⟨b,f,g⟩:=dU c;refine⟨b,afR fun h=>?_⟩;have:=ae0 (show 2147483649<=isqF a by omega) (show 2147483649<=isqF a by omega) (by omega) b;omega
theorem Rr {a r:Int} (c:NC a x) (b:0<r):x<=(r+a/r)/2:=by
 obtain⟨l,m,n⟩:=c;refine aim (by omega) (afR fun h=>?_);have e:a/r<=2*x-1-r:=by omega
 have f:a<(a/r+1)*r:=agE a b;have g:(a/r+1)*r<=(2*x-r)*r:=aeY (by omega) (by omega);have j:0<=(x-r)*(x-r):=by
  rcases afF 0 (x-r)with h|h
  ·exact aeQ h h
  exact ae9 h h
 grind
theorem LO {a r:Int} (f:NC a x) (b:0<r) (g:x<=r) (h:r<=(r+a/r)/2):r=x:=by
 have c:r<=a/r:=by omega
 have e:r*r<=a:=(agH b).1 c;have:=(vn f).1 e;omega
theorem FN {a:Int} (c:0<a) (e:a<=4611686018427387904):(Lib.bitLen a.toNat:Int)<=63/\isqF a<=((2^((Lib.bitLen a.toNat+1)/2):Nat):Int)/\2^((Lib.bitLen a.toNat+1)/2)<=4294967296:=by
 have j:=Lib.bitLen_le a.toNat 63 (by omega) (by
  omega)
 have l:a.toNat<2^Lib.bitLen a.toNat:=(HU a.toNat (by omega) (by omega)).2.2;obtain⟨b,o,q⟩:=dU (show 0<=a by omega);refine⟨by omega,?_,?_⟩
 ·generalize n:(Lib.bitLen a.toNat+1)/2=m at*
  refine afR fun h=>?_
  have f:a.toNat<2^m*2^m:=by
   rw[<- af8];grind [Nat.lt_of_lt_of_le,Nat.pow_le_pow_right]
  generalize 2^m=p at*
  have g:=ae0 (show(p:Int)<=isqF a by omega) (show(p:Int)<=isqF a by omega) (by omega) b;omega
 exact ae5 (by omega) (show(Lib.bitLen a.toNat+1)/2<=32 by omega)
structure NwG (a:Int) where
 r:Nat
 h0:0<r
 h1:isqF a<=(r:Int)
 h2:r<=4294967296
theorem adP {a:Int} (c:0<x):a/x=if Int.tmod a x<0 then Int.tdiv a x-1 else Int.tdiv a x:=by
 have e:=Int.mul_tdiv_add_tmod a x;have f:=ahq a c;have g: -x<Int.tmod a x:=by
  simp_all[ahp]
 split
 ·rename_i h;refine(ahC (r:=Int.tmod a x+x) c).2 ⟨?_,by omega,by omega⟩|>.1;grind
 rename_i h;exact((ahC (r:=Int.tmod a x) c).2 ⟨by omega,by omega,by omega⟩).1
theorem BW {f:FuncId} (w:f=189\/f=140\/f=144) (a:Int) (e:0<=a) (v:a<=4611686018427387904):CallC prog f [.raw (.int .i64 a)] ⟨[],.raw (.int .i64 (isqF a))⟩:=by
 by_cases O:a=0
 ·subst O;rw[UY];rcases w with rfl|rfl|rfl
  all_goals
   first
   |(refine b6 func189 rfl (by kernel_rfl) ?_;rw[ntmps189])
   |(refine b6 func140 rfl (by kernel_rfl) ?_;rw[ntmps140])
   |(refine b6 func144 rfl (by kernel_rfl) ?_;rw[ntmps144])
   (first|refine am fun _ K=>?_|refine aj (am fun _ K=>?_)|refine aj (aj (am fun _ K=>?_)));simp only[kd,af];apply K
   (first|refine am fun _ K=>?_|refine aj (am fun _ K=>?_)|refine aj (aj (am fun _ K=>?_)));simp(disch:=omega) only[kd];apply K
   first|refine aC rfl ?_|refine aX rfl (fun _=>?_) (fun h=>by simp at h<;>omega)
   (first|refine am fun _ K=>?_|refine aj (am fun _ K=>?_)|refine aj (aj (am fun _ K=>?_)));simp only[kd];apply K
   (refine aM ⟨.inr rfl,bQ rfl ?_ rfl⟩;simp(disch:=omega) only[kd,results189,results140,results144])
 obtain⟨P,z,A⟩:=FN (show 0<a by omega) v;have c:=dU e;have M:0<isqF a:=by
  obtain⟨S,T,U⟩:=c;grind
 have j:=ID a e v;generalize Lib.bitLen a.toNat=L at*
 have B:IntKind.u64.wrap a=a:=by rw[afK];omega
 have C:Int.tdiv ((L:Int)+1) 2=(((L+1)/2:Nat):Int):=by rfl
 generalize R:(L+1)/2=m at*
 have x:m<=32:=by omega
 have D:IntKind.i64.wrap (2^min m IntKind.i64.bits)=((2^m:Nat):Int):=by
  rw[show min m IntKind.i64.bits=m from ahI (show m<=64 by omega),show(2:Int)^m=((2^m:Nat):Int)from(Int.natCast_pow 2 m).symm];grind [aH]
 have n:0<2^m:=agB (by omega);generalize 2^m=p at*
 rcases w with rfl|rfl|rfl
 all_goals
  first
  |(refine b6 func189 rfl (by kernel_rfl) ?_;rw[ntmps189])
  |(refine b6 func140 rfl (by kernel_rfl) ?_;rw[ntmps140])
  |(refine b6 func144 rfl (by kernel_rfl) ?_;rw[ntmps144])
  (first|refine am fun _ K=>?_|refine aj (am fun _ K=>?_)|refine aj (aj (am fun _ K=>?_)));simp only[kd,af];apply K
  (first|refine am fun _ K=>?_|refine aj (am fun _ K=>?_)|refine aj (aj (am fun _ K=>?_)));simp(disch:=omega) only[kd];apply K
  first|refine aq rfl (al ?_)|refine aX rfl (fun h=>by simp at h<;>omega) (fun _=>al ?_)
  show bv _ _ _ _
  (first|refine bf [⟨2,_,_,_,j⟩] [] fun _ K=>?_|refine aj (bf [⟨2,_,_,_,j⟩] [] fun _ K=>?_)|refine aj (aj (bf [⟨2,_,_,_,j⟩] [] fun _ K=>?_)));simp(disch:=omega) only[kd,aa,B,aH,C,ag0,D];apply K
  refine ay (G:=NwG a) (fun g=>⟨(.raw (.int .i64 a)::jk::jk::rN g.r::j16 (j4 ([]))),Hm []⟩) (fun g=>g.r) ⟨p,n,z,A⟩ ?_ ?_
  ·refine ak trivial ?_;simp[wk]
  rintro⟨r,I,o,J⟩;simp only;have l:=Rr (r:=(r:Int)) c (by omega);have F:0<=a/(r:Int):=af9 e (by omega);have H:a/(r:Int)<=a:=ahh _ e;have E:Int.tdiv a (r:Int)=a/(r:Int):=agk e;have u:Int.tdiv ((r:Int)+a/(r:Int)) 2=((r:Int)+a/(r:Int))/2:=agk (by omega);have b:=LO (r:=(r:Int)) c (by omega) o;have y:((r:Int)=0)=False:=eq_false (by omega);generalize a/(r:Int)=q at*
  obtain⟨t,N⟩: ∃t:Nat,((r:Int)+q)/2=(t:Int):=afw (by omega);rw[N]at l b u;refine ao ?_
  (first|refine am fun _ K=>?_|refine aj (am fun _ K=>?_)|refine aj (aj (am fun _ K=>?_)));simp(disch:=omega) only[kd,aa,E,aH,u];apply K
  by_cases Q:r<=t
  ·have s:=b (by omega)
   (first|refine am fun _ K=>?_|refine aj (am fun _ K=>?_)|refine aj (aj (am fun _ K=>?_)));simp(disch:=omega) only[kd,aa];apply K
   first|refine aC rfl ?_|refine aX rfl (fun _=>?_) (fun h=>by simp at h<;>omega)
   (first|refine am fun _ K=>?_|refine aj (am fun _ K=>?_)|refine aj (aj (am fun _ K=>?_)));simp only[kd];apply K
   rw[s]
   (refine aM ⟨.inr rfl,bQ rfl ?_ rfl⟩;simp(disch:=omega) only[kd,results189,results140,results144])
  (first|refine am fun _ K=>?_|refine aj (am fun _ K=>?_)|refine aj (aj (am fun _ K=>?_)));simp(disch:=omega) only[kd,aa];apply K
  first|refine aq rfl (al ?_)|refine aX rfl (fun h=>by simp at h<;>omega) (fun _=>al ?_)
  show bv _ _ _ _;refine aAl (k:=?_);refine⟨⟨t,by omega,by omega,by omega⟩,by grind,ak trivial ?_⟩;simp[wk]
theorem r7 {f:FuncId} (o:f=223\/f=141\/f=148) (a b:Int) (l:0<b) (n:b<=4611686018427387904) (r: -4611686018427387904<=a) (s:a<=4611686018427387904):CallC prog f [.raw (.int .i64 a),.raw (.int .i64 b)] ⟨[],.raw (.int .i64 (a/b))⟩:=by
 have c:=adP (a:=a) l;have t:(Int.tdiv a b).natAbs<=a.natAbs:=by
  rw[Int.natAbs_tdiv];exact ag9 _ _
 have e:(b=0)=False:=eq_false (by omega);rw[c];generalize p:Int.tdiv a b=q at*
 generalize j:Int.tmod a b=m at*
 rcases o with rfl|rfl|rfl
 all_goals
  first
  |(refine b6 func223 rfl (by kernel_rfl) ?_;rw[ntmps223])
  |(refine b6 func141 rfl (by kernel_rfl) ?_;rw[ntmps141])
  |(refine b6 func148 rfl (by kernel_rfl) ?_;rw[ntmps148])
  (first|refine am fun _ K=>?_|refine aj (am fun _ K=>?_)|refine aj (aj (am fun _ K=>?_)));simp only[kd,aa,af];apply K
  (first|refine am fun _ K=>?_|refine aj (am fun _ K=>?_)|refine aj (aj (am fun _ K=>?_)));simp(disch:=omega) only[kd,aa,p,aH];apply K
  by_cases g:m<0
  ·rw[if_pos g]
   (first|refine am fun _ K=>?_|refine aj (am fun _ K=>?_)|refine aj (aj (am fun _ K=>?_)));simp(disch:=omega) only[kd,aa,j];apply K
   first|refine aC rfl ?_|refine aX rfl (fun _=>?_) (fun h=>by simp at h<;>omega)
   refine bK (k:=?_);show bv _ _ _ _
   (first|refine am fun _ K=>?_|refine aj (am fun _ K=>?_)|refine aj (aj (am fun _ K=>?_)));simp only[kd];apply K
   (refine aM ⟨.inr rfl,bQ rfl ?_ rfl⟩;simp(disch:=omega) only[kd,results223,results141,results148])
  rw[if_neg g]
  (first|refine am fun _ K=>?_|refine aj (am fun _ K=>?_)|refine aj (aj (am fun _ K=>?_)));simp(disch:=omega) only[kd,aa,j];apply K
  first|refine aq rfl (al ?_)|refine aX rfl (fun h=>by simp at h<;>omega) (fun _=>al ?_)
  show bv _ _ _ _
  (first|refine am fun _ K=>?_|refine aj (am fun _ K=>?_)|refine aj (aj (am fun _ K=>?_)));simp only[kd];apply K
  (refine aM ⟨.inr rfl,bQ rfl ?_ rfl⟩;simp(disch:=omega) only[kd,results223,results141,results148])
def fl (c:Nat) (g:FF):Nat->Int:=fun k=>g (k/c) (k%c)
theorem adO (g:FF) {i:Nat} (b:m<n):fl n g (i*n+m)=g i m:=by
 grind [fl,K8]
theorem vd {f:FF} (h: ∀a e,a<n->e<m->b a e=f a e):aA (n*m) (fl m b)=aA (n*m) (fl m f):=bG fun k l=>by
 have j:0<m:=by
  grind
 exact h _ _ (ahE (by grind)) (afp _ j)
theorem UH {n c i:Nat} (g:FF) {v:Int} (p:i<n) (b:m<c):(aA (n*c) (fl c g)).set (i*c+m) v=aA (n*c) (fl c (upd g i m v)):=by
 rw[lQ];refine bG fun k q=>?_
 have l:0<c:=by omega
 unfold fl upd;by_cases h:k=i*c+m
 ·subst h;have h:=K8 (i:=i) (j:=m) (sz:=c) b;simp_all
 rw[if_neg h];by_cases e:k/c=i
 ·have f:k%c≠m:=fun o=>h (by
   grind [Nat.div_add_mod])
  simp_all
 grind
theorem zo (l:List Int) (k:Nat) (v:Int):(lc fZ l).set k [.p (.raw (.bool (decide (v<0)))),.p (.sl (ls fU (aD v.natAbs)))]=lc fZ (l.set k v):=by
 rw[<- tW];rfl
def MK (d n c i:Nat):List (List AV):=(List.range n).map fun k=>if k<i then[.sl d 1 (k*c) c]else[.p (.sl [])]
def Gy (d n c i:Nat) (g:FF):List OObj:=[⟨85,1,MK d n c i⟩,⟨65,2,lc fZ (aA (n*c) (fl c g))⟩]
theorem Gz (d n c i:Nat):(MK d n c i).length=n:=by simp[MK]
theorem sP {d n c i k:Nat} (h:k<n):(MK d n c i)[k]?=some (if k<i then[.sl d 1 (k*c) c]else[.p (.sl [])]):=by
 grind [MK]
theorem PH {d n c i:Nat}:(MK d n c i).set i [.sl d 1 (i*c) c]=MK d n c (i+1):=by
 apply aeW;grind [Gz,sP]
theorem JR (d n c:Nat):([⟨85,1,af n [.raw (.slice none 0 0)]⟩]:List OObj).map zO=[⟨85,1,MK d n c 0⟩]:=by
 simp[zO,MK,GP,GV,List.map_const']
theorem PK (n c:Nat) (g:FF):([⟨65,2,af (n*c) [.raw (.bool false),.raw (.slice none 0 0)]⟩]:List OObj).map zO=[⟨65,2,lc fZ (aA (n*c) (fl c (part g 0 0)))⟩]:=by
 have b:aA (n*c) (fl c (part g 0 0))=af (n*c) 0:=by
  apply aeW;grind [aw,fl,part,az]
 simp[b,zO,lc,fZ,GP,GV,cX,ls]
theorem JQ (g d n c:Nat):fE ⟨g,1,MK d n c 0⟩:=fun e b x f=>by
 simp only[MK,aeL]at b;obtain⟨k,_,rfl⟩:=b;simp at f;subst f;rfl
theorem PI {H:OH} {d i:Nat} (h:H d=Gy d n m i b):ve H d:=fun r o f e l x j=>by
 rw[h]at f
 match r,f with
 |0,f=>
  simp[Gy]at f;subst f;simp only[MK,aeL]at l;obtain⟨k,_,rfl⟩:=l;split at j
  ·simp at j;subst j;exact .inr ⟨1,_,_,⟨65,2,lc fZ (aA (n*m) (fl m b))⟩,rfl,by rw[h];rfl,bF _ _ _⟩
  simp at j;subst j;exact .inl rfl
 |1,f=>
  simp[Gy]at f;subst f;exact .inl (bF _ _ _ e l x j)
 |r+2,f=>simp[Gy]at f
theorem RP {i:Nat} (g:FF) (b:i<n):((aA (n*m) (fl m g)).take (i*m+m)).drop (i*m)=aA m (g i):=by
 have e:i*m+m<=n*m:=by
  have:=ae2 m b;grind
 apply aeW;grind [aw,adO,az]
theorem WV {H:OH} {c:Nat} (_hc:1<=c) (h:H 5016=Gy 5016 n c n b):f5 H 5016 (.one (.sl 5016 0 0 n))= .one (.p (.sl (ls (fR fZ) (mat n c b)))):=by
 have f:(H 5016)[0]?=some ⟨85,1,MK 5016 n c n⟩:=by rw[h];rfl
 have j:(H 5016)[1]?=some ⟨65,2,lc fZ (aA (n*c) (fl c b))⟩:=by rw[h];rfl
 simp only[f5,gn,if_true,f]
 congr 3
 rw[afm,agx,aeS (by grind [Gz])];apply aeW;intro k;rw[aeG,kN];by_cases e:k<n
 ·rw[sP e,if_pos e,bA c b e];simp only[afV,aeX,afh,qo,j,ld,Fx,RP b e,nG];rfl
 grind [Gz,aS]
theorem aai (h:FuncId) (f:List PV) (n c:Nat) (g:FF) (I:1<=n) (F:n<=16) (r:1<=c) (C:c<=16)
  (D: ∀i j,i<n->j<c->CallC prog h [.raw (.int .i64 (i:Int)),.raw (.int .i64 (j:Int)),.one (.p (.ptr f))] ⟨[],tZ (g i j)⟩):
  CallC prog 234 [.raw (.int .i64 (n:Int)),.raw (.int .i64 (c:Int)),.fn h [.p (.ptr f)]] ⟨[],dq (mat n c g)⟩:=by
 have M:n*c<=256:=aeN (afd F C) (by omega);have u:IntKind.i64.wrap ((n:Int)*(c:Int))=((n*c:Nat):Int):=by grind [aH]
 refine aB func234 rfl ntmps234 (aE (k:=aF u (k:=ax (k:=?_))));refine bv.weak ((io 14).trans ((io 16).trans ((ot 16 14 5016 (oa:=⟨85,1,MK 5016 n c 0⟩) (oe:=⟨65,2,lc fZ (aA (n*c) (fl c (part g 0 0)))⟩) ?_ ?_ rfl (JQ _ _ _ _) (bF _ _ _) (by omega) (by omega) (by omega)).trans (ak (tm:=(jk::rN c::.fn h [.p (.ptr f)]::j4 (.one (.sl 5016 1 0 (n*c))::.one (.sl 5016 0 0 n)::j16 (j16 (j16 (jk::jk::[])))))) (l:=[(5016,Gy 5016 n c 0 (part g 0 0))]) ⟨rfl,trivial⟩ ?_)))) ?_
 ·exact JR 5016 n c
 ·exact PK n c g
 ·simp[wk,Ra,agV,oc,iD,tH]
 simp only[Gy];refine aj (aZ (k:=?_));refine ay (G:=fp n) (fun q=>⟨(jk::rN c::.fn h [.p (.ptr f)]::j4 (.one (.sl 5016 1 0 (n*c))::.one (.sl 5016 0 0 n)::j4 (j4 (.one (.sl 5016 0 0 n)::rN n::rN q.i::j16 (j16 (j4 (jk::jk::jk::[]))))))),Hm [(5016,Gy 5016 n c q.i (part g q.i 0))]⟩) (fun q=>n-q.i) ⟨0,by omega⟩ ?_ ?_
 ·refine ak ⟨rfl,trivial⟩ ?_;simp[wk]
 rintro⟨i,N⟩;simp only;by_cases m:i<n
 ·have J:i*c<(i+1)*c:=by grind
  have K:(i+1)*c<=n*c:=ae2 _ m;have L:(i+1)*c-i*c=c:=by grind
  have w:IntKind.i64.wrap ((i:Int)*(c:Int))=((i*c:Nat):Int):=by grind [aH]
  have x:IntKind.i64.wrap (((i:Int)+1)*(c:Int))=(((i+1)*c:Nat):Int):=by
   grind [aH]
  have t1:=sP (d:=5016) (n:=n) (c:=c) (i:=i) m;rw[if_neg (aiG i)]at t1;have t2:=PH (d:=5016) (n:=n) (c:=c) (i:=i);have t3:=sP (d:=5016) (n:=n) (c:=c) (i:=i+1) (k:=i) m;rw[if_pos (ahA i)]at t3;refine ax (k:=aP rfl (aj (ao (aZ (k:=?_)))));simp only[Gy];refine aF (aG w (aG x (aG J (aG K (aG L (aG t1 t2)))))) (k:=aF t3 (k:=?_));refine ay (G:=fp c) (fun q=>⟨(jk::rN c::.fn h [.p (.ptr f)]::j4 (.one (.sl 5016 1 0 (n*c))::.one (.sl 5016 0 0 n)::rN i::j4 (jk::jk::jk::.one (.sl 5016 0 0 n)::rN n::rN i::j16 (j4 (jk::jk::rN c::rN q.i::j4 (j4 (j4 (jk::jk::jk::[])))))))),Hm [(5016,Gy 5016 n c (i+1) (part g i q.i))]⟩) (fun q=>c-q.i) ⟨0,by omega⟩ ?_ ?_
  ·refine ak ⟨rfl,trivial⟩ ?_;simp[wk]
  rintro⟨j,O⟩;simp only;by_cases o:j<c
  ·have A:=D i j m o;have E:i*c+j<n*c:=by omega
   have y:=aw (fl c (part g i j)) E;have z:=UH (n:=n) (c:=c) (part g i j) (v:=g i j) m o;refine ax (k:=aP rfl (aj (ao (aZ (k:=?_)))));simp only[Gy];refine fP [⟨8,_,_,_,A⟩] (aG t3 (aG y (aG @zo z))) (k:=bK (k:=?_));refine⟨⟨j+1,by omega⟩,by grind,ak ⟨?_,trivial⟩ ?_⟩
   ·show[_,_]=[_,_];grind [vd,ij]
   simp[wk]
  have t:j=c:=by omega
  subst t;refine ax (k:=aQ rfl (bK (k:=?_)));refine⟨⟨i+1,by omega⟩,by grind,ak ⟨?_,trivial⟩ ?_⟩
  ·show[_,_]=[_,_];grind [vd,jr]
  simp[wk]
 have s:i=n:=by omega
 subst s;refine ax (k:=aQ rfl (aZ (k:=?_)));refine bv.weak ((bR 5016 (PI rfl)).trans (ak (tm:=(j4 (jk::jk::dq (mat i c g)::j16 (j16 (j16 (j4 ([]))))))) (l:=[]) trivial ?_)) ?_
 ·have e:=WV (c:=c) (H:=Hm [(5016,Gy 5016 i c i (part g i 0))]) r rfl;rw[gJ fun a b B _=>jq g a b B]at e;simp[wk];exact e.symm
 (refine aM ⟨.inr rfl,bQ rfl ?_ rfl⟩;simp(disch:=omega) only[kd,results234,dq])
theorem aaj (m:FuncId) (f:List PV) (b:Nat) (w:TypeId) (h:List PV) (n c:Nat) (g:FF) (L:1<=n) (J:n<=16) (s:1<=c) (E:c<=16)
  (F: ∀i j,i<n->j<c->CallT prog b w m [.raw (.int .i64 (i:Int)),.raw (.int .i64 (j:Int)),.one (.p (.ptr f)),.raw (.pointer (some ⟨b,0,none⟩))] h ⟨[],tZ (g i j)⟩ h):
  CallT prog b w 234 [.raw (.int .i64 (n:Int)),.raw (.int .i64 (c:Int)),.fn m [.p (.ptr f),.p (.raw (.pointer (some ⟨b,0,none⟩)))]] h ⟨[],dq (mat n c g)⟩ h:=by
 have P:n*c<=256:=aeN (afd J E) (by omega);have x:IntKind.i64.wrap ((n:Int)*(c:Int))=((n*c:Nat):Int):=by grind [aH]
 refine mM func234 rfl (by kernel_rfl) ?_;rw[ntmps234];refine aaV (k:=l5 x (k:=dG (k:=?_)));refine fx.weak ((io 14).trans ((io 16).trans ((ot 16 14 5016 (oa:=⟨85,1,MK 5016 n c 0⟩) (oe:=⟨65,2,lc fZ (aA (n*c) (fl c (part g 0 0)))⟩) ?_ ?_ rfl (JQ _ _ _ _) (bF _ _ _) (by omega) (by omega) (by omega)).trans (ak (tm:=(jk::rN c::.fn m [.p (.ptr f),.p (.raw (.pointer (some ⟨b,0,none⟩)))]::j4 (.one (.sl 5016 1 0 (n*c))::.one (.sl 5016 0 0 n)::j16 (j16 (j16 (jk::jk::[])))))) (l:=[(5016,Gy 5016 n c 0 (part g 0 0))]) ⟨rfl,trivial⟩ ?_)))) ?_
 ·exact JR 5016 n c
 ·exact PK n c g
 ·simp[wk,Ra,agV,oc,iD,tH]
 simp only[Gy];refine ck (dG (k:=?_));refine lw (G:=fp n) (fun q=>⟨(jk::rN c::.fn m [.p (.ptr f),.p (.raw (.pointer (some ⟨b,0,none⟩)))]::j4 (.one (.sl 5016 1 0 (n*c))::.one (.sl 5016 0 0 n)::j4 (j4 (.one (.sl 5016 0 0 n)::rN n::rN q.i::j16 (j16 (j4 (jk::jk::jk::[]))))))),Hm [(5016,Gy 5016 n c q.i (part g q.i 0))]⟩) (fun _=>h) (fun q=>n-q.i) ⟨0,by omega⟩ ?_ rfl ?_
 ·refine ak ⟨rfl,trivial⟩ ?_;simp[wk]
 rintro⟨i,Q⟩;simp only;by_cases o:i<n
 ·have M:i*c<(i+1)*c:=by grind
  have N:(i+1)*c<=n*c:=ae2 _ o;have O:(i+1)*c-i*c=c:=by grind
  have y:IntKind.i64.wrap ((i:Int)*(c:Int))=((i*c:Nat):Int):=by grind [aH]
  have z:IntKind.i64.wrap (((i:Int)+1)*(c:Int))=(((i+1)*c:Nat):Int):=by
   grind [aH]
  have t1:=sP (d:=5016) (n:=n) (c:=c) (i:=i) o;rw[if_neg (aiG i)]at t1;have t2:=PH (d:=5016) (n:=n) (c:=c) (i:=i);have t3:=sP (d:=5016) (n:=n) (c:=c) (i:=i+1) (k:=i) o;rw[if_pos (ahA i)]at t3;refine dG (k:=tC rfl (ck (dE (dG (k:=?_)))));simp only[Gy];refine l5 (aG y (aG z (aG M (aG N (aG O (aG t1 t2)))))) (k:=l5 t3 (k:=?_));refine lw (G:=fp c) (fun q=>⟨(jk::rN c::.fn m [.p (.ptr f),.p (.raw (.pointer (some ⟨b,0,none⟩)))]::j4 (.one (.sl 5016 1 0 (n*c))::.one (.sl 5016 0 0 n)::rN i::j4 (jk::jk::jk::.one (.sl 5016 0 0 n)::rN n::rN i::j16 (j4 (jk::jk::rN c::rN q.i::j4 (j4 (j4 (jk::jk::jk::[])))))))),Hm [(5016,Gy 5016 n c (i+1) (part g i q.i))]⟩) (fun _=>h) (fun q=>c-q.i) ⟨0,by omega⟩ ?_ rfl ?_
  ·refine ak ⟨rfl,trivial⟩ ?_;simp[wk]
  rintro⟨j,R⟩;simp only;by_cases r:j<c
  ·have C:=F i j o r;have I:i*c+j<n*c:=by omega
   have A:=aw (fl c (part g i j)) I;have B:=UH (n:=n) (c:=c) (part g i j) (v:=g i j) o r;refine dG (k:=tC rfl (ck (dE (dG (k:=?_)))));simp only[Gy];refine mK bZ 8 C [] [] (by kernel_rfl) (by kernel_rfl) (by rfl) (by rfl) fun _ K=>?_;simp(disch:=omega) only[kd,tZ,aa,t3,fZ,A,zo,B];apply K
   show fx _ _ _ _ _ _ _;refine sW (k:=?_);refine⟨⟨j+1,by omega⟩,by grind,ak ⟨?_,trivial⟩ ?_,rfl⟩
   ·show[_,_]=[_,_];grind [vd,ij]
   simp[wk]
  have u:j=c:=by omega
  subst u;refine dG (k:=tB rfl (sW (k:=?_)));refine⟨⟨i+1,by omega⟩,by grind,ak ⟨?_,trivial⟩ ?_,rfl⟩
  ·show[_,_]=[_,_];grind [vd,jr]
  simp[wk]
 have t:i=n:=by omega
 subst t;refine dG (k:=tB rfl (dG (k:=?_)));refine fx.weak ((bR 5016 (PI rfl)).trans (ak (tm:=(j4 (jk::jk::dq (mat i c g)::j16 (j16 (j16 (j4 ([]))))))) (l:=[]) trivial ?_)) ?_
 ·have e:=WV (c:=c) (H:=Hm [(5016,Gy 5016 i c i (part g i 0))]) s rfl;rw[gJ fun a b D _=>jq g a b D]at e;simp[wk];exact e.symm
 (refine px ⟨.inr rfl,rfl,bQ rfl ?_ rfl⟩;simp(disch:=omega) only[kd,results234,dq])
end Go.Proofs.YtalmoejhjceflaaGreat
