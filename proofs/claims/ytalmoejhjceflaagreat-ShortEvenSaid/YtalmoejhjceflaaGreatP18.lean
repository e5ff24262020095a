/-
  Part 19 of a proof (walks and plain facts).
-/
import Derived.Test.YtalmoejhjceflaaGreatP17
import Derived.Lib.BitFns
set_option linter.all false
set_option maxRecDepth 100000
set_option maxHeartbeats 64000000
open Nat renaming reduceAdd → aa
open List renaming replicate → ae
namespace Go.Proofs.YtalmoejhjceflaaGreat
open Go.RowKit Go.Proofs.Tryz
variable {n m j c:Nat} {b:List Nat} {x:Int} {e:FuncId} {f:FF}
theorem md {pre post:List Nat} {i:Nat} (c:pre.length=n) (h:b[i]?=some m):(pre++(b++post))[n+i]?=some m:=by
 grind
theorem tN {pre post:List Nat} {i:Nat} (v:Nat) (e:pre.length=n) (c:i<b.length):(pre++(b++post)).set (n+i) v=pre++(b.set i v++post):=by
 grind
theorem tO {u:List Nat} {i:Nat} (v:Nat) (c:b.length=i) (f:i<u.length):(b++u.drop i).set i v=(b++[v])++u.drop (i+1):=by
 have e:u.drop i=u[i]::u.drop (i+1):=Y6 f;rw[e,Zm _ _ (by omega),c,Zj,abJ,Ye];rfl
theorem Ay {u:List Nat} {i:Nat} (c:b.length=i) (e:u[i]?=some n):(b++u.drop i)[i]?=some n:=by
 grind
theorem AA {u:List Nat} {i:Nat} (c:b.length=i) (e:i<=u.length):(b++u.drop i).length=u.length:=by
 grind
theorem KW {P:Program} {k:Nat} {c z:Code} {Q:Exit->AS->Prop} {s:AS} (S:Nat->AS) (p:Nat->Prop) (f:fz P k c (iZ (fun b=> ∃g,p g/\bv b (S g)) Q) s) (j: ∀g,p g->fz P k z Q (S g)):fz P k c (iZ (fz P k z Q) Q) s:=f.mono fun e b h=>by
 cases e with
 |normal=>obtain⟨g,l,m⟩:=h;exact(j g l).weak m
 |_=>exact h
theorem W4 (y c b:Nat) (g:y<4294967296) (e:c<4294967296) (f:b<=1):IntKind.u32.wrap (IntKind.u64.wrap (IntKind.u64.wrap ((y:Int)-(c:Int))-(b:Int)))=(((y+8589934592-(c+b))%4294967296:Nat):Int)/\
  Int.fdiv (IntKind.u64.wrap (IntKind.u64.wrap ((y:Int)-(c:Int))-(b:Int))) (2^(min 63 IntKind.u64.bits))=(((if y<c+b then 1 else 0):Nat):Int):=by
 constructor
 ·grind [IntKind.wrap_u32,IntKind.wrap_u64]
 rw[YE,YE];show Int.fdiv _ 9223372036854775808=_;grind
theorem xd (pre u post v:List Nat) (h n j N w O u0:Nat) (I:pre.length=h) (H:wZ u v n j N w O u0) (bR:(pre++(u++post)).length<=536870912):
  r6 prog 213 [.undef,cL v] 0 h (n+3) ⟨165,1,lc fU (pre++(u++post))⟩ ⟨165,1,lc fU (pre++(bE (n+3) (natV u%natV v)++post))⟩ (.raw (.int .u32 ((natV u/natV v:Nat):Int))):=by
 have nu:=H.nu;have nv:=H.nv;have hv1:=H.hv1;have hv2:=H.hv2;have bv1:=H.bv1;have bv2:=H.bv2;have bu2:=H.bu2;have bu1:=H.bu1;have bu0:=H.bu0;have top:=H.top;have bw:=H.q_lt;have a9:(pre++(u++post)).length=h+(n+3)+post.length:=by grind
 have ad:=md (post:=post) I H.hu2;have ac:=md (post:=post) I H.hu1;have S:=md (post:=post) I H.hu0;refine uL func213 rfl (by kernel_rfl) (by simp) (by omega) (by simp[lc]at a9⊢;omega) (dQ _ _) rfl (by simp[lc,bM,nu]) (dQ _ _) rfl ?_;rw[ntmps213];have e2:((n+2:Nat):Int)-1=((n+1:Nat):Int):=by omega
 have e3:((n+2:Nat):Int)-2=((n:Nat):Int):=by omega
 refine Lc (k:=dv nv (k:=?_));have a1:=wU (a:=w) (s:=32) (by omega) (by omega);have a2:=Ah (w*2^32) O (by omega) (by omega);rw[rI w O 32 (by omega),show w*2^32+O=w*4294967296+O from rfl]at a2;obtain⟨p,A⟩: ∃p,p=w*4294967296+O:=⟨_,rfl⟩;rw[<- A]at a2;obtain⟨k0,bc,bd⟩: ∃k:Vl u v j p,k.g=p/j/\k.r=p%j:=by rw[A];exact H.first
 have bh:=k0.le;have a3:Int.tdiv (p:Int) (j:Int)=(k0.g:Int):=by grind
 have a4:Int.tmod (p:Int) (j:Int)=(k0.r:Int):=by grind
 generalize hR:pre++(u++post)=R at*
 refine rk (aE @famH.eq_1 (aE ad (aE a1 (aE e2 (aE ac a2))))) (k:=rk (aE e2 (aE hv1 (aE a3 a4))) (k:=?_));refine cJ (KW (fun g=>⟨(.one (.sl 0 0 h (n+3))::cL v::jk::jk::jk::.raw (.int .i64 ((n+2:Nat):Int))::jk::.raw (.int .u64 (g:Int))::j16 (j16 (j16 (j16 (j16 (j16 (j16 (j16 (j16 (j16 (jk::jk::jk::[]))))))))))),Hm [(0,[⟨165,1,lc fU R⟩])]⟩) (fun g=>natV u/natV v<=g/\g<=natV u/natV v+1/\g<=4294967296) ?_ ?_)
 ·have H2:=H;subst A;refine mI (G:=Vl u v j (w*4294967296+O)) (fun k=>⟨(.one (.sl 0 0 h (n+3))::cL v::jk::jk::jk::.raw (.int .i64 ((n+2:Nat):Int))::jk::.raw (.int .u64 (k.g:Int))::.raw (.int .u64 (k.r:Int))::j16 (j16 (j16 (j16 (j16 (j16 (j16 (j16 (j16 (j16 (jk::jk::[]))))))))))),Hm [(0,[⟨165,1,lc fU R⟩])]⟩) (fun k=>k.g) k0 ?_ ?_
  ·refine aj ⟨rfl,trivial⟩ ?_;simp[wk]
  intro k;have kg:=k.le;have kr:=k.hr;have Z:=k.eq;have bq:=k.ge;have Q:=KD k.g
  -- the guess goes down
  have down:(4294967296<=k.g\/k.r*4294967296+u0<k.g*N)->natV u/natV v<k.g:=H2.down k;have next:natV u/natV v<k.g->k.r+j<4294967296-> ∃k':Vl u v j (w*4294967296+O),k'.g=k.g-1/\k'.r=k.r+j:=fun h1 h2=>by
   refine⟨⟨k.g-1,k.r+j,?_,by omega,by omega,h2⟩,rfl,rfl⟩;refine Eq.trans ?_ Z;have:k.g*j=(k.g-1)*j+j:=by
    obtain⟨m,hm⟩: ∃m,k.g=m+1:=⟨k.g-1,(abe (ZB (Yt _) h1)).symm⟩;grind [Nat.add_mul]
   omega
  have stop:natV u/natV v<k.g->4294967296<=k.r+j->natV u/natV v<=k.g-1/\k.g-1<=natV u/natV v+1/\k.g-1<=4294967296:=fun h1 h2=>by
   refine⟨by omega,?_,by omega⟩;refine H2.near (r:=k.r+j) ?_ (by omega) ?_
   ·refine Eq.trans ?_ Z;have:k.g*j=(k.g-1)*j+j:=by
     obtain⟨m,hm⟩: ∃m,k.g=m+1:=⟨k.g-1,(abe (ZB (Yt _) h1)).symm⟩;grind [Nat.add_mul]
    omega
   have h3:(k.g-1)*N<=4294967296*4294967295:=Yn (by omega) (by omega);omega
  have D:(k.g:Int)-1=((k.g-1:Nat):Int)\/k.g=0:=by omega
  have e8:(k.r:Int)+(j:Int)=((k.r+j:Nat):Int):=by omega
  have e9:=KD (k.r+j);by_cases ag:4294967296<=k.g
  ·have hd:=down (.inl ag)
   replace D:=D.resolve_right (by omega)
   refine cJ (rk Q (k:=lG rfl (fJ (gp (dv D (k:=dv (aE e2 (aE hv1 e8)) (k:=?_)))))));by_cases B:4294967296<=k.r+j
   ·refine dv e9 (k:=lG rfl (mH ?_));refine⟨k.g-1,stop hd B,aj ⟨rfl,trivial⟩ ?_⟩;simp[wk]
   obtain⟨k',K,L⟩:=next hd (by omega);refine dv e9 (k:=mG rfl (fJ ?_));refine⟨k',by omega,aj ⟨rfl,trivial⟩ ?_⟩;simp[wk,K,L]
  have bt:k.g*N<=4294967295*4294967295:=Yn (by omega) (by omega);have aa:(k.g:Int)*(N:Int)=((k.g*N:Nat):Int):=by simp
  have ab:=wU (a:=k.r) (s:=32) (by omega) (by omega);have P:=Ah (k.r*2^32) u0 (by omega) (by omega);rw[rI k.r u0 32 (by omega),show k.r*2^32+u0=k.r*4294967296+u0 from rfl]at P;by_cases hc:k.r*4294967296+u0<k.g*N
  ·have hd:=down (.inr hc)
   replace D:=D.resolve_right (fun e=>by grind)
   generalize k.g*N=gv at*
   refine cJ (rk (aE Q (aE e3 (aE hv2 (aE aa (aE ab (aE S P)))))) (k:=lG rfl (fJ (gp (dv D (k:=dv (aE e2 (aE hv1 e8)) (k:=?_)))))));by_cases B:4294967296<=k.r+j
   ·refine dv e9 (k:=lG rfl (mH ?_));refine⟨k.g-1,stop hd B,aj ⟨rfl,trivial⟩ ?_⟩;simp[wk]
   obtain⟨k',K,L⟩:=next hd (by omega);refine dv e9 (k:=mG rfl (fJ ?_));refine⟨k',by omega,aj ⟨rfl,trivial⟩ ?_⟩;simp[wk,K,L]
  have W:=H2.near Z (by omega) (aaG hc);generalize k.g*N=gv at*
  refine cJ (rk (aE Q (aE e3 (aE hv2 (aE aa (aE ab (aE S P)))))) (k:=mG rfl (mH ?_)));refine⟨k.g,⟨bq,W,by omega⟩,aj ⟨rfl,trivial⟩ ?_⟩;simp[wk]
 rintro g ⟨ba,bb,T⟩;subst hR;clear ad ac S a1 a2 a3 a4 bc bd bh k0;refine jG (k:=cJ (jG (k:=?_)));refine mI (G:=O5 u v g) (fun m=>⟨(.one (.sl 0 0 h (n+3))::cL v::jk::jk::jk::.raw (.int .i64 ((n+2:Nat):Int))::jk::.raw (.int .u64 (g:Int))::jk::.raw (.int .u64 (m.c:Int))::.raw (.int .u64 (m.b:Int))::j16 (j16 (j16 (j16 (j4 (jk::jk::jk::.raw (.int .i64 ((n+2:Nat):Int))::rN m.i::j16 (j16 (j16 (j16 (j16 (j4 (jk::jk::jk::[])))))))))))),Hm [(0,[⟨165,1,lc fU (pre++((m.us++u.drop m.i)++post))⟩])]⟩) (fun m=>n+2-m.i) (O5.start u v g) ?_ ?_
 ·refine aj ⟨?_,trivial⟩ ?_
  ·rfl
  simp[wk,O5.start]
 intro m;have cl:=m.hi;have al:=m.hc;have ah:=m.hb;have F:=m.len;by_cases ci:m.i<n+2
 ·obtain⟨x,X⟩:=getElem?_of_lt (l:=v) (k:=m.i) (by omega);obtain⟨y,Y⟩:=getElem?_of_lt (l:=u) (k:=m.i) (by omega);have a0:=bT H.lv X;have a5:=bT H.lu Y;obtain⟨c1,c2⟩:=CF T a0 al;have cg:g*x<=4294967296*4294967295:=Yn T (by omega);have e4:(g:Int)*(x:Int)=((g*x:Nat):Int):=by simp
  have Q:(m.c:Int)+((g*x:Nat):Int)=((m.c+g*x:Nat):Int):=by simp
  have J:=Ay F Y;have bn:=AA (u:=u) F (by omega);have o:=md (post:=post) I J;have bl:(m.c+g*x)%4294967296<4294967296:=Yk _ (by omega);obtain⟨b1,b2⟩:=W4 y ((m.c+g*x)%4294967296) m.b a5 bl ah;obtain⟨m',K,L,q3,q4⟩:=Qi m (l:=(y+8589934592-((m.c+g*x)%4294967296+m.b))%4294967296) (b':=if y<(m.c+g*x)%4294967296+m.b then 1 else 0) T X Y H.lv (Yk _ (by omega)) (by grind) (by grind);have q:=tN (post:=post) ((y+8589934592-((m.c+g*x)%4294967296+m.b))%4294967296) I (show m.i<(m.us++u.drop m.i).length by omega);rw[tO _ F (by omega)]at q;have e6:=Dy (m.c+g*x);have D:=KD (m.c+g*x);have bm:(pre++((m.us++u.drop m.i)++post)).length=h+(n+3)+post.length:=by grind
  generalize(m.c+g*x)%4294967296=lo at*
  generalize(m.c+g*x)/4294967296=hi' at*
  generalize g*x=gx at*
  generalize(if y<lo+m.b then 1 else 0:Nat)=nb at*
  generalize(y+8589934592-(lo+m.b))%4294967296=nl at*
  generalize ae:pre++((m.us++u.drop m.i)++post)=RR at*
  refine jG (k:=zi rfl (cJ (gp (jG (k:=dv (aE X (aE e4 Q)) (k:=dv (aE o e6) (k:=dv (aE b1 (aE o (aE @cX q))) (k:=dv D (k:=xI b2 (k:=Lb (k:=?_)))))))))));refine⟨m',by omega,aj ⟨?_,trivial⟩ ?_⟩
  ·rw[K,L];rfl
  simp_all[wk]
 have U:m.i=n+2:=by omega
 have J:(m.us++u.drop m.i)[n+2]?=some w:=by
  have:=Ay F (show u[m.i]?=some w by rw[U];exact H.hu2);grind
 have bn:=AA (u:=u) F (by omega);have o:=md (post:=post) I J;have q:=fun t=>tN (post:=post) t I (show n+2<(m.us++u.drop m.i).length by omega)
 have av: ∀t,(m.us++u.drop m.i).set (n+2) t=m.us++[t]:=fun t=>by
  grind [tO]
 simp only[av]at q;obtain⟨b1,b2⟩:=W4 w m.c m.b bu2 al ah;have bm:(pre++((m.us++u.drop m.i)++post)).length=h+(n+3)+post.length:=by grind
 by_cases ap:m.c+m.b<=w
 ·have b3:(w:Int)-(m.c:Int)-(m.b:Int)=((w-(m.c+m.b):Nat):Int):=by omega
  have b4:Int.fdiv ((w-(m.c+m.b):Nat):Int) (2^(min 63 IntKind.u64.bits))=0:=by
   grind [FZ]
  have cm:w-(m.c+m.b)<4294967296:=by omega
  obtain⟨K,L⟩:=H.right m U ba ap;have hs:=q (w-(m.c+m.b));rw[L]at hs;have D:IntKind.u32.wrap (g:Int)=((natV u/natV v:Nat):Int):=by rw[Dy,K];omega
  generalize w-(m.c+m.b)=nl at*
  generalize ae:pre++((m.us++u.drop m.i)++post)=RR at*
  refine jG (k:=zh rfl (dv (aE o b3) (k:=dv (aE @Ib (aE o (aE @cX hs))) (k:=cJ (dv b4 (k:=lG rfl (dv D (k:=?_))))))));refine pp ⟨.inr rfl,⟨(.one (.sl 0 0 h (n+3))::jk::jk::jk::.raw (.int .u32 ((natV u/natV v:Nat):Int))::j16 (j16 (j16 (j16 (j16 (j16 (j16 (j16 (j16 (j16 (j4 (jk::jk::[])))))))))))),Hm [(0,[⟨165,1,lc fU (pre++(bE (n+3) (natV u%natV v)++post))⟩])]⟩,aj ⟨rfl,trivial⟩ (by simp[wk]),rfl,gT _,?_⟩;simp(disch:=omega) only[kd,results213]
 rw[if_pos (by omega)]at b2;obtain⟨t,ht⟩: ∃t,t=w+4294967296-(m.c+m.b):=⟨_,rfl⟩;have bp:t<4294967296:=by omega
 rw[show(w+8589934592-(m.c+m.b))%4294967296=t by omega]at b1;have hs:=q t;have a6:Lmb (m.us++[t]):=mZ m.lmb bp;have cp:(m.us++[t]).length=n+3:=by grind
 have V:=fun a af=>H.left m U bb (by omega) ht a af
 have b5:(m.us++[t])[n+2]?=some t:=by grind
 clear q av ap ht;generalize ae:pre++((m.us++u.drop m.i)++post)=RR at*
 refine jG (k:=zh rfl (dv o (k:=dv (aE b1 (aE o (aE @cX hs))) (k:=cJ (dv b2 (k:=mG rfl (fJ (jG (k:=cJ (jG (k:=?_)))))))))));refine mI (G:=RT (m.us++[t]) v) (fun a=>⟨(.one (.sl 0 0 h (n+3))::cL v::jk::jk::jk::.raw (.int .i64 ((n+2:Nat):Int))::jk::.raw (.int .u64 (g:Int))::jk::.raw (.int .u64 (a.c:Int))::j16 (j16 (j16 (j16 (j16 (j16 (j16 (j4 (j4 (j4 (jk::.raw (.int .i64 ((n+2:Nat):Int))::rN a.i::j16 (j16 (jk::jk::[]))))))))))))),Hm [(0,[⟨165,1,lc fU (pre++((a.us++(m.us++[t]).drop a.i)++post))⟩])]⟩) (fun a=>n+2-a.i) (RT.start _ _) ?_ ?_
 ·refine aj ⟨?_,trivial⟩ ?_
  ·rfl
  simp[wk,RT.start]
 intro a;have af:=a.hi;have cc:=a.hc;have E:=a.len;generalize m.us++[t]=C at*
 have b0:=AA (u:=C) E (by omega);have bx:(pre++((a.us++C.drop a.i)++post)).length=h+(n+3)+post.length:=by grind
 by_cases br:a.i<n+2
 ·obtain⟨x,X⟩:=getElem?_of_lt (l:=v) (k:=a.i) (by omega);obtain⟨y,Y⟩:=getElem?_of_lt (l:=C) (k:=a.i) (by omega);have a0:=bT H.lv X;have a5:=bT a6 Y;have z:=md (post:=post) I (Ay E Y);have f:=tN (post:=post) ((a.c+(y+x))%4294967296) I (show a.i<(a.us++C.drop a.i).length by omega);rw[tO _ E (by omega)]at f;obtain⟨a',K,L,q3⟩:=Pm a X Y H.lv a6;have e4:(a.c:Int)+((y:Int)+(x:Int))=((a.c+(y+x):Nat):Int):=by omega
  have e6:=Dy (a.c+(y+x));have D:=KD (a.c+(y+x));generalize(a.c+(y+x))%4294967296=nl at*
  generalize(a.c+(y+x))/4294967296=nc at*
  generalize a7:pre++((a.us++C.drop a.i)++post)=R2 at*
  refine jG (k:=zi rfl (cJ (gp (jG (k:=rk (aE z (aE X e4)) (k:=dv (aE e6 (aE z (aE @cX f))) (k:=xI D (k:=Lb (k:=?_)))))))));refine⟨a',by omega,aj ⟨?_,trivial⟩ ?_⟩
  ·rw[K,L];rfl
  simp[wk,K,q3]
 have M:a.i=n+2:=by omega
 obtain⟨K,L⟩:=V a M;have z:(pre++((a.us++C.drop a.i)++post))[h+(n+2)]?=some t:=by
  have:=md (post:=post) I (Ay E (show C[a.i]?=some t by grind));rwa[M]at this⊢
 have f:=tN (post:=post) ((t+a.c)%4294967296) I (show a.i<(a.us++C.drop a.i).length by omega);rw[tO _ E (by omega),ZF.2 (show C.length<=a.i+1 by omega),YI,L,M]at f;have e4:IntKind.u32.wrap ((t:Int)+(a.c:Int))=(((t+a.c)%4294967296:Nat):Int):=by rfl
 have Q:(g:Int)-1=((natV u/natV v:Nat):Int):=by omega
 have e6:IntKind.u32.wrap ((natV u/natV v:Nat):Int)=((natV u/natV v:Nat):Int):=by grind [Dy]
 have e8:IntKind.u64.wrap ((natV u/natV v:Nat):Int)=((natV u/natV v:Nat):Int):=by
  grind [IntKind.wrap_u64]
 have a8:pre++((a.us++C.drop a.i)++post)=pre++((a.us++C.drop (n+2))++post):=by rw[M]
 generalize(t+a.c)%4294967296=nl at*
 rw[<- a8]at f;generalize a7:pre++((a.us++C.drop a.i)++post)=R2 at*
 refine jG (k:=zh rfl (dv (aE z (aE @Ib (aE e4 (aE @cX f)))) (k:=dv (aE Q (aE e8 e6)) (k:=?_))));refine pp ⟨.inr rfl,⟨(.one (.sl 0 0 h (n+3))::jk::jk::jk::.raw (.int .u32 ((natV u/natV v:Nat):Int))::j16 (j16 (j16 (j16 (j16 (j16 (j16 (j16 (j16 (j16 (j4 (jk::jk::[])))))))))))),Hm [(0,[⟨165,1,lc fU (pre++(bE (n+3) (natV u%natV v)++post))⟩])]⟩,aj ⟨rfl,trivial⟩ (by simp[wk]),rfl,gT _,?_⟩;simp(disch:=omega) only[kd,results213]
section
theorem nd: ∀(k n x:Nat),bE (k+n) x=bE k x++bE n (x/4294967296^k)
 |0,n,x=>by simp[bE]
 |k+1,n,x=>by
  rw[show k+1+n=(k+n)+1 by omega,bE,nd k n,bE,Y7,Zd,YQ 4294967296];rfl
theorem vU: ∀(k x:Nat),bE k (x%4294967296^k)=bE k x
 |0,x=>rfl
 |k+1,x=>by
  rw[bE,bE,Zd,YQ (4294967296^k),Nat.mod_mul_right_mod,Nat.mod_mul_right_div_self,vU k]
theorem qc (k n x y:Nat) (b:x<4294967296^k):bE (k+n) (y*4294967296^k+x)=bE k x++bE n y:=by
 have c:0<4294967296^k:=YP (by omega);rw[nd,<- vU k (y*4294967296^k+x),YQ y,aaM,ZC b,aaL c,Z9 b,YA]
theorem yx: ∀n,bE n 0=ae n 0
 |0=>rfl
 |n+1=>by rw[bE,Nat.zero_mod,Nat.zero_div,yx n];rfl
def d9 (A V k:Nat):Nat:=A%(V*4294967296^k)
def lh (A V k:Nat):Nat:=A/(V*4294967296^k)*4294967296^k
section
variable {A V k:Nat} (hV:0<V)
include hV
theorem Nr:d9 A V (k+1)/4294967296^k<V*4294967296:=by
 have b:0<4294967296^k:=YP (by omega);rw[Zb b];have:=Yk A (show 0<V*4294967296^(k+1)from aa6 hV (YP (by omega)));rw[Zd]at this;unfold d9;grind
omit hV in
theorem Nt:d9 A V k=d9 A V (k+1)/4294967296^k%V*4294967296^k+d9 A V (k+1)%4294967296^k:=by
 unfold d9;have e:V*4294967296^(k+1)=V*4294967296^k*4294967296:=by grind
 have b:A%(V*4294967296^k)=A%(V*4294967296^(k+1))%(V*4294967296^k):=by simp_all
 grind [Nat.mul_comm,Nat.mod_mul]
theorem Nl:lh A V k=lh A V (k+1)+d9 A V (k+1)/4294967296^k/V*4294967296^k:=by
 unfold lh d9;have c:0<4294967296^k:=YP (by omega);have e:V*4294967296^(k+1)=V*4294967296^k*4294967296:=by grind
 have b:=Zv A (V*4294967296^(k+1));grind [Nat.mul_assoc,Nat.mul_add_div,Nat.div_div_eq_div_mul,Nat.mul_comm]
theorem qg:d9 A V (k+1)/4294967296^k/V<4294967296:=by
 simp_all[Zb,YQ,Nr]
end
theorem QJ {A V k m:Nat} (b:0<V) (l:k<m) (h:lh A V (k+1)<4294967296^m):(bE m (lh A V (k+1))).set k (d9 A V (k+1)/4294967296^k/V)=bE m (lh A V k):=by
 have j:=qg (A:=A) (k:=k) b;rw[Nl (A:=A) (k:=k) b];generalize d9 A V (k+1)/4294967296^k/V=d at*
 obtain⟨q,g⟩: ∃q,lh A V (k+1)=q*4294967296^(k+1):=⟨_,rfl⟩;rw[g];obtain⟨r,rfl⟩: ∃r,m=k+(1+r):=⟨m-(k+1),by omega⟩;have e:q*4294967296^(k+1)=(q*4294967296)*4294967296^k+0:=by grind
 have f:q*4294967296^(k+1)+d*4294967296^k=(q*4294967296+d)*4294967296^k+0:=by grind
 have c:0<4294967296^k:=YP (by omega);rw[f,qc _ _ _ _ c,e,qc _ _ _ _ c,Zm _ _ (by grind [bM]),bM,Zj,Z3 1 r,bE,bE,abJ];grind
theorem QV {A V k nb na:Nat} (b:k+nb<=na):bE (na+1) (d9 A V (k+1))=bE k (d9 A V (k+1))++(bE (nb+1) (d9 A V (k+1)/4294967296^k)++bE (na-(k+nb)) (d9 A V (k+1)/4294967296^(k+nb+1))):=by
 conv=>lhs;rw[show na+1=k+((nb+1)+(na-(k+nb))) by omega]
 rw[nd,nd,Y7,<- ZI,show k+(nb+1)=k+nb+1 by omega]
theorem Ns {A V k nb na:Nat} (b:0<V) (c:V<=4294967296^nb) (l:k+nb<=na):bE k (d9 A V (k+1))++(bE (nb+1) (d9 A V (k+1)/4294967296^k%V)++bE (na-(k+nb)) (d9 A V (k+1)/4294967296^(k+nb+1)))=bE (na+1) (d9 A V k):=by
 have f:0<4294967296^k:=YP (by omega);have j:d9 A V (k+1)/4294967296^(k+nb+1)=0:=by
  apply Z9;have:=Yk A (show 0<V*4294967296^(k+1)from aa6 b (YP (by omega)));unfold d9;refine XZ this ?_;have e:4294967296^(k+nb+1)=4294967296^nb*4294967296^(k+1):=by grind
  simp_all[XX]
 have m:=Yk (d9 A V (k+1)/4294967296^k) b;rw[Nt (A:=A) (V:=V) (k:=k),j];generalize d9 A V (k+1)/4294967296^k%V=u at*
 rw[<- vU k (d9 A V (k+1))];have h:=Yk (d9 A V (k+1)) f;generalize d9 A V (k+1)%4294967296^k=x at*
 have g:u<4294967296^(nb+1):=by
  omega
 rw[show na+1=k+((nb+1)+(na-(k+nb))) by omega,qc _ _ _ _ h]
 congr 1
 have:=qc (nb+1) (na-(k+nb)) u 0 g;grind
/-! The shift. -/
theorem se: ∀(x:Nat),x≠0->x<18446744073709551616->1<=Lib.bitLen x/\2^(Lib.bitLen x-1)<=x/\x<2^Lib.bitLen x:=fun x=>by
 induction x using Nat.strongRecOn with
 |_ x h=>
  intro c g;have f:=Lib.bitLen_half x c g;by_cases e:x/2=0
  ·have b:x=1:=by omega
   subst b;have:Lib.bitLen 1=1:=by decide
   grind
  obtain⟨j,l,m⟩:=h (x/2) (by omega) e (by omega);rw[f];refine⟨by omega,?_,?_⟩
  ·rw[show 1+Lib.bitLen (x/2)-1=(Lib.bitLen (x/2)-1)+1 by omega,Zd];omega
  grind
def lz (x:Nat):Nat:=32-Lib.bitLen x
theorem Qc (b: n ≠ 0) (h: n < 4294967296) : lz n < 32 /\ 2147483648 <= n * 2 ^ lz n /\ n * 2 ^ lz n < 4294967296 := by
  obtain ⟨f, c, e⟩ := se n b (by omega);have g := Lib.bitLen_le n 32 (by omega) (by omega);unfold lz;refine ⟨by omega, ?_, ?_⟩
  · calc 2147483648 = 2 ^ (Lib.bitLen n - 1) * 2 ^ (32 - Lib.bitLen n) := by
          rw [<- ZI, show Lib.bitLen n - 1 + (32 - Lib.bitLen n) = 31 by omega]
      _ <= _ := XX _ c
  · calc n * 2 ^ (32 - Lib.bitLen n) < 2 ^ Lib.bitLen n * 2 ^ (32 - Lib.bitLen n) := ZO e (aaN _)
      _ = 4294967296 := by rw [<- ZI, show Lib.bitLen n + (32 - Lib.bitLen n) = 32 by omega]
theorem Rb (r: (aq n).length = m + 1) (p: (aq n)[m]? = some j) (g: 2147483648 <= j * 2 ^ c /\ j * 2 ^ c < 4294967296) (f: c < 32) :
    n * 2 ^ c < 4294967296 ^ (m + 1) /\ 2147483648 * 4294967296 ^ m <= n * 2 ^ c := by
  have h := aX p;rw [X3 (by omega), ax] at h;have q := eu (aA n) m;have t : 0 < 4294967296 ^ m := YP (by omega);have o := CN f;constructor
  · -- n < (j + 1) B^m, and (j + 1) 2^c <= B, for j 2^c < B and 2^c divides B
    have l : (j + 1) * 2 ^ c <= 4294967296 := by
      have e : 4294967296 = 2 ^ (32 - c) * 2 ^ c := by rw [<- ZI, show 32 - c + c = 32 by omega]
      rw [e] at g ⊢;exact XX _ (ZS g.2)
    calc n * 2 ^ c < (j + 1) * 4294967296 ^ m * 2 ^ c := by
          refine ZO ?_ (aaN c);grind
      _ = (j + 1) * 2 ^ c * 4294967296 ^ m := by grind
      _ <= 4294967296 * 4294967296 ^ m := XX _ l
      _ = 4294967296 ^ (m + 1) := by omega
  · calc 2147483648 * 4294967296 ^ m <= j * 2 ^ c * 4294967296 ^ m := XX _ g.1
      _ = j * 4294967296 ^ m * 2 ^ c := by grind
      _ <= n * 2 ^ c := XX _ (by omega)
end
theorem TX {A k:Nat} (b:n<4294967296^(m+2)) (f:2147483648*4294967296^(m+1)<=n): ∃o p l j h,wZ (bE (m+3) (d9 A n (k+1)/4294967296^k)) (bE (m+2) n) m o p l j h/\natV (bE (m+3) (d9 A n (k+1)/4294967296^k))=d9 A n (k+1)/4294967296^k/\natV (bE (m+2) n)=n:=by
 have g:0<4294967296^(m+1):=YP (by omega);have e:0<n:=by omega
 have r:=Nr (A:=A) (k:=k) e;have c:d9 A n (k+1)/4294967296^k<4294967296^(m+3):=by
  grind
 refine⟨_,_,_,_,_,⟨mY _ _,mY _ _,bM _ _,bM _ _,gX (by omega),gX (by omega),gX (by omega),gX (by omega),gX (by omega),?_,?_⟩,gW c,gW b⟩
 ·have q:n/4294967296^(m+1)<4294967296:=by
   rw[Zb g];grind
  simp_all[ZC,aaD]
 grind [gW]
theorem JK {a s:Nat} (f:a<4294967296^(m+2+j)) (h:4294967296^(m+1)<=n):d9 (a*2^s) (n*2^s) (j+1)=a*2^s/\lh (a*2^s) (n*2^s) (j+1)=0:=by
 have g:a*2^s<n*2^s*4294967296^(j+1):=by
  have c:4294967296^(m+2+j)<=n*4294967296^(j+1):=by
   have e:4294967296^(m+2+j)=4294967296^(m+1)*4294967296^(j+1):=by grind
   simp_all[XX]
  rw[abL];exact ZO (XZ f c) (aaN s)
 grind [d9,lh,Nat.mod_eq_of_lt,Nat.div_eq_of_lt]
theorem QU {a b s:Nat}:d9 (a*2^s) (b*2^s) 0=a%b*2^s/\lh (a*2^s) (b*2^s) 0=a/b:=by
 grind [d9,lh,Nat.mul_mod_mul_right,Nat.mul_div_mul_right]
theorem Uf {k:Nat} (c:n<m*4294967296^j) (f:k<=j):lh n m k<4294967296^j:=by
 have g:0<4294967296^k:=YP (by omega);unfold lh;have b:n/(m*4294967296^k)<4294967296^(j-k):=by
  rw[<- Y7];apply Z4;apply Z4;have e:4294967296^j=4294967296^k*4294967296^(j-k):=by rw[<- ZI];grind
  grind
 have e:4294967296^j=4294967296^(j-k)*4294967296^k:=by rw[<- ZI];grind
 simp_all
theorem Dj {n:Nat} (h:(aq m).length=n+1): ∃x,(aq m)[n]?=some x/\x≠0/\x<4294967296/\4294967296^n<=m:=by
 obtain⟨x,c⟩: ∃x,(aq m)[n]?=some x:=⟨(aq m)[n],by simp[h]⟩;have f:=bY m;unfold th at f;rw[List.getLast?_eq_getElem?,h,Nat.add_sub_cancel,c]at f;have g:x≠0:=fun e=>f (by rw[e])
 have j:=aX c;rw[X3 (by omega),ax]at j;refine⟨x,c,g,bT (aA m) c,?_⟩;rw[j];have:1*4294967296^n<=x*4294967296^n:=XX _ (by omega);omega
theorem I9 (h:(aq m).length=1):(aq m)[0]?=some m/\m<4294967296:=by
 obtain⟨x,c,_,e,_⟩:=Dj (n:=0) h;have f:=aX c;grind [ax,natV]
theorem Cu (a:Nat):a<4294967296^(aq a).length:=by
 grind [fW,aA,ax]
theorem JE {x:Nat} (h:n<=m):(bE m x).take n=bE n x:=by
 obtain⟨d,rfl⟩: ∃d,m=n+d:=⟨m-n,by omega⟩;simp_all[nd,bM]
theorem VL (x:Nat) (h:x<4294967296):CallC prog 211 [.raw (.int .u32 (x:Int))] ⟨[],.raw (.int .i64 (lz x:Int))⟩:=by
 refine kR (by kernel_rfl) fun X w vs o f c=>?_
 obtain⟨q,m,g⟩:=uE c (j:=0) rfl;obtain⟨rfl,_⟩:=aU (ρ:=fun _ _=>none) (H:=fun _=>[]) g;obtain rfl:vs= #[.int .u32 (x:Int)]:=by
  grind
 have p:=Lib.bitLen_le x 32 (by omega) (by omega);have e:(32-(Lib.bitLen (x:Int).toNat:Int))=(lz x:Int):=by grind [lz]
 have:=Any.bits_LeadingZeros32 Tryz.lays133 (x:Int) w (by omega) (by omega);rw[e]at this;exact this.mono fun e r ⟨b,n⟩=>⟨_,b,fun l H Y=>bV rfl,by grind [Ext.refl]⟩
theorem IC {P:Program} {args:List TV} (U:0<b.length) (L:callable P e=true) (h: ∀(X:Nat->Prop) (w:World) (vs:Array Value),(∀m,X m->m<w.heap.size)->vs.size=args.length-> (∀(j:Nat) t,args[j]?=some t-> ∃v:Value,vs[j]?=some v/\t.rel (fun _ _=>none) (fun _=>[]) X w v)->Calls P e vs w fun p E=> ∃v,p= .returned v/\E.ownsRow w.heap.size 165 1 v b.length ((b.map fun n:Nat=>(n:Int)).map (Value.int .u32))/\Ext w E):CallC P e args ⟨[⟨165,1,lc fU b⟩],.one (.sl 0 0 0 b.length)⟩:=
 ⟨L,fun X w vs F C K=>(h X w vs F C K).mono fun p E ⟨v,I,⟨_,J⟩,u⟩=>by
  rcases J with⟨_,V⟩|⟨g,cap,cur,Y,T,M,B,A,O,W⟩
  ·omega
  have H:rho1 g cap 0 0=some (g,cap):=by simp[rho1]
  have y: ∀(i:Nat) z,b[i]?=some z->cur[i]?=some (.int .u32 (z:Int)):=fun i z Q=>by
   have u:((b.map fun n:Nat=>(n:Int)).map (Value.int .u32))[i]?=some (.int .u32 (z:Int)):=by grind
   grind
  refine⟨v,I,rho1 g cap,⟨Ce u,fun a r o s=>?_,fun a r R r' o Z m c S s N _ _=>?_,fun a r o m c s G=>?_,fun m G=>XZ (F m G) u.size,fun a r o s=>?_⟩,?_⟩
  ·obtain⟨rfl,rfl,rfl⟩:=u9 s;refine⟨fun p q=>?_,Nat.zero_lt_one,?_⟩
   ·obtain⟨z,_,rfl⟩:=XR.1 q;rfl
   rw[H];refine⟨cur,M,O,by grind [lY],A,fun i p j x q D=>?_⟩;simp only at q;rw[zQ]at q;obtain⟨z,Q,rfl⟩:=XI.1 q;cases j with
   |succ j=>simp[fU]at D
   |zero=>
    simp[fU]at D;subst D;exact⟨.int .u32 (z:Int),by grind,rfl,bO.raw _ rfl⟩
  ·grind [u9]
  ·grind [u9]
  ·grind [u9,dp,dQ]
  exact⟨_,rfl,by simp[lY],.inr ⟨g,cap,cap,H,by omega,B,fun _=>rfl⟩⟩⟩
theorem I0 (l:List Nat) (e:0<l.length) (r:l.length<=1073741824):CallC prog 209 [cL l] ⟨[⟨165,1,lc fU l⟩],.one (.sl 0 0 0 l.length)⟩:=by
 refine IC e (by kernel_rfl) fun X w vs p g f=>?_
 obtain⟨s,m,h⟩:=uE f (j:=0) rfl;obtain⟨A,c,rfl,q,o⟩:=Hi h;obtain rfl:vs= #[.slice A l.length c]:=by
  grind
 have b:(l.map fun n:Nat=>(n:Int)).length=l.length:=YB _;grind [uO]
theorem L9 (a:Int) (c:0<=a) (b:a<=4611686018427387904):CallC prog 185 [.raw (.int .u64 a)] ⟨[],.raw (.int .i64 (Lib.bitLen a.toNat:Int))⟩:=by
 refine kR (by kernel_rfl) fun X w vs o h g=>?_
 obtain⟨p,n,l⟩:=uE g (j:=0) rfl;obtain⟨rfl,_⟩:=aU (ρ:=fun _ _=>none) (H:=fun _=>[]) l;obtain rfl:vs= #[.int .u64 a]:=by
  grind
 exact(Any.bits_Len64 Tryz.lays129 a w c (by omega)).mono fun e q ⟨b,f⟩=>⟨_,b,fun m H Y=>bV rfl,by rw[f];exact Ext.refl _⟩
/-! Newton's steps. -/
theorem Mc:isqF 0=0:=(dH (aaa 0)).uniq ⟨aaa _,by decide,by decide⟩
theorem mT {a:Int} (c:0<=a) (e:a<=4611686018427387904):0<=isqF a/\isqF a<=2147483648:=by
 obtain⟨b,f,g⟩:=dH c;refine⟨b,ZQ fun h=>?_⟩;have:=YG (show 2147483649<=isqF a by omega) (show 2147483649<=isqF a by omega) (by omega) b;omega
theorem Jq {a r:Int} (c:Kw a x) (b:0<r):x<=(r+a/r)/2:=by
 obtain⟨l,m,n⟩:=c;refine abn (by omega) (ZQ fun h=>?_);have e:a/r<=2*x-1-r:=by omega
 have f:a<(a/r+1)*r:=ZK a b;have g:(a/r+1)*r<=(2*x-r)*r:=Ys (by omega) (by omega);have j:0<=(x-r)*(x-r):=by
  rcases ZM 0 (x-r)with h|h
  ·exact Yj h h
  exact Yx h h
 grind
theorem E4 {a r:Int} (f:Kw a x) (b:0<r) (g:x<=r) (h:r<=(r+a/r)/2):r=x:=by
 have c:r<=a/r:=by omega
 have e:r*r<=a:=(ZL b).1 c;have:=(pQ f).1 e;omega
theorem Ac {a:Int} (c:0<a) (e:a<=4611686018427387904):(Lib.bitLen a.toNat:Int)<=63/\isqF a<=((2^((Lib.bitLen a.toNat+1)/2):Nat):Int)/\2^((Lib.bitLen a.toNat+1)/2)<=4294967296:=by
 have j:=Lib.bitLen_le a.toNat 63 (by omega) (by
  omega)
 have l:a.toNat<2^Lib.bitLen a.toNat:=(se a.toNat (by omega) (by omega)).2.2;obtain⟨b,o,q⟩:=dH (show 0<=a by omega);refine⟨by omega,?_,?_⟩
 ·generalize n:(Lib.bitLen a.toNat+1)/2=m at*
  refine ZQ fun h=>?_
  have f:a.toNat<2^m*2^m:=by
   rw[<- ZI];grind [Nat.lt_of_lt_of_le,Nat.pow_le_pow_right]
  generalize 2^m=p at*
  have g:=YG (show(p:Int)<=isqF a by omega) (show(p:Int)<=isqF a by omega) (by omega) b;omega
 exact Yd (by omega) (show(Lib.bitLen a.toNat+1)/2<=32 by omega)
structure Xk (a:Int) where
 r:Nat
 h0:0<r
 h1:isqF a<=(r:Int)
 h2:r<=4294967296
theorem VI {a:Int} (c:0<x):a/x=if Int.tmod a x<0 then Int.tdiv a x-1 else Int.tdiv a x:=by
 have e:=Int.mul_tdiv_add_tmod a x;have f:=Int.tmod_lt_of_pos a c;have g: -x<Int.tmod a x:=by
  simp_all[Int.lt_tmod_of_pos]
 split
 ·rename_i h;refine(aaI (r:=Int.tmod a x+x) c).2 ⟨?_,by omega,by omega⟩|>.1;grind
 rename_i h;exact((aaI (r:=Int.tmod a x) c).2 ⟨by omega,by omega,by omega⟩).1
theorem wl (x:e=189\/e=140\/e=144) (a:Int) (j:0<=a) (w:a<=4611686018427387904):CallC prog e [.raw (.int .i64 a)] ⟨[],.raw (.int .i64 (isqF a))⟩:=by
 by_cases P:a=0
 ·subst P;rw[Mc];rcases x with rfl|rfl|rfl
  all_goals
   first
   |(refine eD func189 rfl (by kernel_rfl) ?_;rw[ntmps189])
   |(refine eD func140 rfl (by kernel_rfl) ?_;rw[ntmps140])
   |(refine eD func144 rfl (by kernel_rfl) ?_;rw[ntmps144])
   (first|refine au fun _ K=>?_|refine ai (au fun _ K=>?_)|refine ai (ai (au fun _ K=>?_)));simp only[kd,ae];apply K
   (first|refine au fun _ K=>?_|refine ai (au fun _ K=>?_)|refine ai (ai (au fun _ K=>?_)));simp(disch:=omega) only[kd];apply K
   first|refine aD rfl ?_|refine aW rfl (fun _=>?_) (fun h=>by simp at h<;>omega)
   (first|refine au fun _ K=>?_|refine ai (au fun _ K=>?_)|refine ai (ai (au fun _ K=>?_)));simp only[kd];apply K
   (refine aZ ⟨.inr rfl,b9 rfl ?_ rfl⟩;simp(disch:=omega) only[kd,results189,results140,results144])
 obtain⟨Q,A,B⟩:=Ac (show 0<a by omega) w;have c:=dH j;have N:0<isqF a:=by
  obtain⟨T,U,V⟩:=c;grind
 have l:=L9 a j w;generalize Lib.bitLen a.toNat=L at*
 have C:IntKind.u64.wrap a=a:=by rw[YE];omega
 have D:Int.tdiv ((L:Int)+1) 2=(((L+1)/2:Nat):Int):=by rfl
 generalize S:(L+1)/2=m at*
 have y:m<=32:=by omega
 have E:IntKind.i64.wrap (2^min m IntKind.i64.bits)=((2^m:Nat):Int):=by
  rw[show min m IntKind.i64.bits=m from aav (show m<=64 by omega),show(2:Int)^m=((2^m:Nat):Int)from(Int.natCast_pow 2 m).symm];grind [aP]
 have o:0<2^m:=YP (by omega);generalize 2^m=p at*
 rcases x with rfl|rfl|rfl
 all_goals
  first
  |(refine eD func189 rfl (by kernel_rfl) ?_;rw[ntmps189])
  |(refine eD func140 rfl (by kernel_rfl) ?_;rw[ntmps140])
  |(refine eD func144 rfl (by kernel_rfl) ?_;rw[ntmps144])
  (first|refine au fun _ K=>?_|refine ai (au fun _ K=>?_)|refine ai (ai (au fun _ K=>?_)));simp only[kd,ae];apply K
  (first|refine au fun _ K=>?_|refine ai (au fun _ K=>?_)|refine ai (ai (au fun _ K=>?_)));simp(disch:=omega) only[kd];apply K
  first|refine ao rfl (ak ?_)|refine aW rfl (fun h=>by simp at h<;>omega) (fun _=>ak ?_)
  show bs _ _ _ _
  (first|refine bj [⟨2,_,_,_,l⟩] [] fun _ K=>?_|refine ai (bj [⟨2,_,_,_,l⟩] [] fun _ K=>?_)|refine ai (ai (bj [⟨2,_,_,_,l⟩] [] fun _ K=>?_)));simp(disch:=omega) only[kd,aa,C,aP,D,Int.one_mul,E];apply K
  refine aG (G:=Xk a) (fun g=>⟨(.raw (.int .i64 a)::jk::jk::rN g.r::j16 (j4 ([]))),Hm []⟩) (fun g=>g.r) ⟨p,o,A,B⟩ ?_ ?_
  ·refine aj trivial ?_;simp[wk]
  rintro⟨r,J,s,M⟩;simp only;have n:=Jq (r:=(r:Int)) c (by omega);have H:0<=a/(r:Int):=Zn j (by omega);have I:a/(r:Int)<=a:=aal _ j;have F:Int.tdiv a (r:Int)=a/(r:Int):=Zr j;have v:Int.tdiv ((r:Int)+a/(r:Int)) 2=((r:Int)+a/(r:Int))/2:=Zr (by omega);have b:=E4 (r:=(r:Int)) c (by omega) s;have z:((r:Int)=0)=False:=eq_false (by omega);generalize a/(r:Int)=q at*
  obtain⟨t,O⟩: ∃t:Nat,((r:Int)+q)/2=(t:Int):=Yg (by omega);rw[O]at n b v;refine am ?_
  (first|refine au fun _ K=>?_|refine ai (au fun _ K=>?_)|refine ai (ai (au fun _ K=>?_)));simp(disch:=omega) only[kd,aa,F,aP,v];apply K
  by_cases R:r<=t
  ·have u:=b (by omega)
   (first|refine au fun _ K=>?_|refine ai (au fun _ K=>?_)|refine ai (ai (au fun _ K=>?_)));simp(disch:=omega) only[kd,aa];apply K
   first|refine aD rfl ?_|refine aW rfl (fun _=>?_) (fun h=>by simp at h<;>omega)
   (first|refine au fun _ K=>?_|refine ai (au fun _ K=>?_)|refine ai (ai (au fun _ K=>?_)));simp only[kd];apply K
   rw[u]
   (refine aZ ⟨.inr rfl,b9 rfl ?_ rfl⟩;simp(disch:=omega) only[kd,results189,results140,results144])
  (first|refine au fun _ K=>?_|refine ai (au fun _ K=>?_)|refine ai (ai (au fun _ K=>?_)));simp(disch:=omega) only[kd,aa];apply K
  first|refine ao rfl (ak ?_)|refine aW rfl (fun h=>by simp at h<;>omega) (fun _=>ak ?_)
  show bs _ _ _ _;refine WB (k:=?_);refine⟨⟨t,by omega,by omega,by omega⟩,by grind,aj trivial ?_⟩;simp[wk]
theorem nI (p:e=223\/e=141\/e=148) (a b:Int) (n:0<b) (o:b<=4611686018427387904) (s: -4611686018427387904<=a) (t:a<=4611686018427387904):CallC prog e [.raw (.int .i64 a),.raw (.int .i64 b)] ⟨[],.raw (.int .i64 (a/b))⟩:=by
 have c:=VI (a:=a) n;have u:(Int.tdiv a b).natAbs<=a.natAbs:=by
  rw[Int.natAbs_tdiv];exact ZW _ _
 have g:(b=0)=False:=eq_false (by omega);rw[c];generalize r:Int.tdiv a b=q at*
 generalize l:Int.tmod a b=m at*
 rcases p with rfl|rfl|rfl
 all_goals
  first
  |(refine eD func223 rfl (by kernel_rfl) ?_;rw[ntmps223])
  |(refine eD func141 rfl (by kernel_rfl) ?_;rw[ntmps141])
  |(refine eD func148 rfl (by kernel_rfl) ?_;rw[ntmps148])
  (first|refine au fun _ K=>?_|refine ai (au fun _ K=>?_)|refine ai (ai (au fun _ K=>?_)));simp only[kd,aa,ae];apply K
  (first|refine au fun _ K=>?_|refine ai (au fun _ K=>?_)|refine ai (ai (au fun _ K=>?_)));simp(disch:=omega) only[kd,aa,r,aP];apply K
  by_cases j:m<0
  ·rw[if_pos j]
   (first|refine au fun _ K=>?_|refine ai (au fun _ K=>?_)|refine ai (ai (au fun _ K=>?_)));simp(disch:=omega) only[kd,aa,l];apply K
   first|refine aD rfl ?_|refine aW rfl (fun _=>?_) (fun h=>by simp at h<;>omega)
   refine bK (k:=?_);show bs _ _ _ _
   (first|refine au fun _ K=>?_|refine ai (au fun _ K=>?_)|refine ai (ai (au fun _ K=>?_)));simp only[kd];apply K
   (refine aZ ⟨.inr rfl,b9 rfl ?_ rfl⟩;simp(disch:=omega) only[kd,results223,results141,results148])
  rw[if_neg j]
  (first|refine au fun _ K=>?_|refine ai (au fun _ K=>?_)|refine ai (ai (au fun _ K=>?_)));simp(disch:=omega) only[kd,aa,l];apply K
  first|refine ao rfl (ak ?_)|refine aW rfl (fun h=>by simp at h<;>omega) (fun _=>ak ?_)
  show bs _ _ _ _
  (first|refine au fun _ K=>?_|refine ai (au fun _ K=>?_)|refine ai (ai (au fun _ K=>?_)));simp only[kd];apply K
  (refine aZ ⟨.inr rfl,b9 rfl ?_ rfl⟩;simp(disch:=omega) only[kd,results223,results141,results148])
def fl (c:Nat) (g:FF):Nat->Int:=fun k=>g (k/c) (k%c)
theorem VH (g:FF) {i:Nat} (b:m<n):fl n g (i*n+m)=g i m:=by
 grind [fl,zD]
theorem pK {e:FF} (h: ∀a b,a<n->b<m->f a b=e a b):aN (n*m) (fl m f)=aN (n*m) (fl m e):=ez fun k l=>by
 have j:0<m:=by
  grind
 exact h _ _ (Z4 (by grind)) (Yk _ j)
theorem LY {n c i:Nat} (g:FF) {v:Int} (p:i<n) (b:m<c):(aN (n*c) (fl c g)).set (i*c+m) v=aN (n*c) (fl c (upd g i m v)):=by
 rw[nj];refine ez fun k q=>?_
 have l:0<c:=by omega
 unfold fl upd;by_cases h:k=i*c+m
 ·subst h;have h:=zD (i:=i) (j:=m) (sz:=c) b;simp_all
 rw[if_neg h];by_cases e:k/c=i
 ·have f:k%c≠m:=fun o=>h (by
   grind [Nat.div_add_mod])
  simp_all
 grind
theorem GW (l:List Int) (k:Nat) (v:Int):(lc fZ l).set k [.p (.raw (.bool (decide (v<0)))),.p (.sl (ls fU (aq v.natAbs)))]=lc fZ (l.set k v):=by
 rw[<- vw];rfl
def Fz (d n c i:Nat):List (List AV):=(List.range n).map fun k=>if k<i then[.sl d 1 (k*c) c]else[.p (.sl [])]
def AO (d n c i:Nat) (g:FF):List OObj:=[⟨85,1,Fz d n c i⟩,⟨65,2,lc fZ (aN (n*c) (fl c g))⟩]
theorem AP (d n c i:Nat):(Fz d n c i).length=n:=by simp[Fz]
theorem n9 {d n c i k:Nat} (h:k<n):(Fz d n c i)[k]?=some (if k<i then[.sl d 1 (k*c) c]else[.p (.sl [])]):=by
 grind [Fz]
theorem HU {d n c i:Nat}:(Fz d n c i).set i [.sl d 1 (i*c) c]=Fz d n c (i+1):=by
 apply X7;grind [AP,n9]
theorem Dg (d n c:Nat):([⟨85,1,ae n [.raw (.slice none 0 0)]⟩]:List OObj).map zO=[⟨85,1,Fz d n c 0⟩]:=by
 simp[zO,Fz,DH,F5,List.map_const']
theorem H4 (n c:Nat) (g:FF):([⟨65,2,ae (n*c) [.raw (.bool false),.raw (.slice none 0 0)]⟩]:List OObj).map zO=[⟨65,2,lc fZ (aN (n*c) (fl c (part g 0 0)))⟩]:=by
 have b:aN (n*c) (fl c (part g 0 0))=ae (n*c) 0:=by
  apply X7;grind [az,fl,part,aH]
 simp[b,zO,lc,fZ,DH,F5,cf,ls]
theorem Df (g d n c:Nat):dB ⟨g,1,Fz d n c 0⟩:=fun e b x f=>by
 simp only[Fz,XR]at b;obtain⟨k,_,rfl⟩:=b;simp at f;subst f;rfl
theorem HW {H:OH} {d i:Nat} (h:H d=AO d n m i f):s9 H d:=fun r o b e l x j=>by
 rw[h]at b
 match r,b with
 |0,b=>
  simp[AO]at b;subst b;simp only[Fz,XR]at l;obtain⟨k,_,rfl⟩:=l;split at j
  ·simp at j;subst j;exact .inr ⟨1,_,_,⟨65,2,lc fZ (aN (n*m) (fl m f))⟩,rfl,by rw[h];rfl,bi _ _ _⟩
  simp at j;subst j;exact .inl rfl
 |1,b=>
  simp[AO]at b;subst b;exact .inl (bi _ _ _ e l x j)
 |r+2,b=>simp[AO]at b
theorem JL {i:Nat} (g:FF) (b:i<n):((aN (n*m) (fl m g)).take (i*m+m)).drop (i*m)=aN m (g i):=by
 have e:i*m+m<=n*m:=by
  have:=XX m b;grind
 apply X7;grind [az,VH,aH]
theorem N1 {H:OH} {c:Nat} (_hc:1<=c) (h:H 5016=AO 5016 n c n f):fb H 5016 (.one (.sl 5016 0 0 n))= .one (.p (.sl (ls (fR fZ) (mat n c f)))):=by
 have e:(H 5016)[0]?=some ⟨85,1,Fz 5016 n c n⟩:=by rw[h];rfl
 have j:(H 5016)[1]?=some ⟨65,2,lc fZ (aN (n*c) (fl c f))⟩:=by rw[h];rfl
 simp only[fb,dD,if_true,e]
 congr 3
 rw[Yw,Zs,X3 (by grind [AP])];apply X7;intro k;rw[XK,fh];by_cases b:k<n
 ·rw[n9 b,if_pos b,bu c f b];simp only[Yp,X9,Yu,mq,j,fQ,zP,JL f b,nK];rfl
 grind [AP,aS]
theorem Rn (h:FuncId) (f:List PV) (n c:Nat) (g:FF) (I:1<=n) (F:n<=16) (r:1<=c) (C:c<=16)
  (D: ∀i j,i<n->j<c->CallC prog h [.raw (.int .i64 (i:Int)),.raw (.int .i64 (j:Int)),.one (.p (.ptr f))] ⟨[],tZ (g i j)⟩):
  CallC prog 234 [.raw (.int .i64 (n:Int)),.raw (.int .i64 (c:Int)),.fn h [.p (.ptr f)]] ⟨[],dZ (mat n c g)⟩:=by
 have M:n*c<=256:=XQ (Yn F C) (by omega);have u:IntKind.i64.wrap ((n:Int)*(c:Int))=((n*c:Nat):Int):=by grind [aP]
 refine aB func234 rfl ntmps234 (aC (k:=aK u (k:=ar (k:=?_))));refine bs.weak ((gN 14).trans ((gN 16).trans ((kN 16 14 5016 (oa:=⟨85,1,Fz 5016 n c 0⟩) (oe:=⟨65,2,lc fZ (aN (n*c) (fl c (part g 0 0)))⟩) ?_ ?_ rfl (Df _ _ _ _) (bi _ _ _) (by omega) (by omega) (by omega)).trans (aj (tm:=(jk::rN c::.fn h [.p (.ptr f)]::j4 (.one (.sl 5016 1 0 (n*c))::.one (.sl 5016 0 0 n)::j16 (j16 (j16 (jk::jk::[])))))) (l:=[(5016,AO 5016 n c 0 (part g 0 0))]) ⟨rfl,trivial⟩ ?_)))) ?_
 ·exact Dg 5016 n c
 ·exact H4 n c g
 ·simp_all[wk,mb,fi,oE]
 simp only[AO];refine ai (bH (k:=?_));refine aG (G:=jW n) (fun q=>⟨(jk::rN c::.fn h [.p (.ptr f)]::j4 (.one (.sl 5016 1 0 (n*c))::.one (.sl 5016 0 0 n)::j4 (j4 (.one (.sl 5016 0 0 n)::rN n::rN q.i::j16 (j16 (j4 (jk::jk::jk::[]))))))),Hm [(5016,AO 5016 n c q.i (part g q.i 0))]⟩) (fun q=>n-q.i) ⟨0,by omega⟩ ?_ ?_
 ·refine aj ⟨rfl,trivial⟩ ?_;simp[wk]
 rintro⟨i,N⟩;simp only;by_cases m:i<n
 ·have J:i*c<(i+1)*c:=by grind
  have K:(i+1)*c<=n*c:=XX _ m;have L:(i+1)*c-i*c=c:=by grind
  have w:IntKind.i64.wrap ((i:Int)*(c:Int))=((i*c:Nat):Int):=by grind [aP]
  have x:IntKind.i64.wrap (((i:Int)+1)*(c:Int))=(((i+1)*c:Nat):Int):=by
   grind [aP]
  have t1:=n9 (d:=5016) (n:=n) (c:=c) (i:=i) m;rw[if_neg (abC i)]at t1;have t2:=HU (d:=5016) (n:=n) (c:=c) (i:=i);have t3:=n9 (d:=5016) (n:=n) (c:=c) (i:=i+1) (k:=i) m;rw[if_pos (abd i)]at t3;refine ar (k:=bA rfl (ai (am (bH (k:=?_)))));simp only[AO];refine aK (aE w (aE x (aE J (aE K (aE L (aE t1 t2)))))) (k:=aK t3 (k:=?_));refine aG (G:=jW c) (fun q=>⟨(jk::rN c::.fn h [.p (.ptr f)]::j4 (.one (.sl 5016 1 0 (n*c))::.one (.sl 5016 0 0 n)::rN i::j4 (jk::jk::jk::.one (.sl 5016 0 0 n)::rN n::rN i::j16 (j4 (jk::jk::rN c::rN q.i::j4 (j4 (j4 (jk::jk::jk::[])))))))),Hm [(5016,AO 5016 n c (i+1) (part g i q.i))]⟩) (fun q=>c-q.i) ⟨0,by omega⟩ ?_ ?_
  ·refine aj ⟨rfl,trivial⟩ ?_;simp[wk]
  rintro⟨j,O⟩;simp only;by_cases o:j<c
  ·have A:=D i j m o;have E:i*c+j<n*c:=by omega
   have y:=az (fl c (part g i j)) E;have z:=LY (n:=n) (c:=c) (part g i j) (v:=g i j) m o;refine ar (k:=bA rfl (ai (am (bH (k:=?_)))));simp only[AO];refine gP [⟨8,_,_,_,A⟩] (aE t3 (aE y (aE @GW z))) (k:=bK (k:=?_));refine⟨⟨j+1,by omega⟩,by grind,aj ⟨?_,trivial⟩ ?_⟩
   ·show[_,_]=[_,_];grind [pK,iw]
   simp[wk]
  have t:j=c:=by omega
  subst t;refine ar (k:=bG rfl (bK (k:=?_)));refine⟨⟨i+1,by omega⟩,by grind,aj ⟨?_,trivial⟩ ?_⟩
  ·show[_,_]=[_,_];grind [pK,jQ]
  simp[wk]
 have s:i=n:=by omega
 subst s;refine ar (k:=bG rfl (bH (k:=?_)));refine bs.weak ((bF 5016 (HW rfl)).trans (aj (tm:=(j4 (jk::jk::dZ (mat i c g)::j16 (j16 (j16 (j4 ([]))))))) (l:=[]) trivial ?_)) ?_
 ·have e:=N1 (c:=c) (H:=Hm [(5016,AO 5016 i c i (part g i 0))]) r rfl;rw[gA fun a b B _=>jP g a b B]at e;simp[wk];exact e.symm
 (refine aZ ⟨.inr rfl,b9 rfl ?_ rfl⟩;simp(disch:=omega) only[kd,results234,dZ])
theorem Ro (m:FuncId) (f:List PV) (b:Nat) (w:TypeId) (h:List PV) (n c:Nat) (g:FF) (L:1<=n) (J:n<=16) (s:1<=c) (E:c<=16)
  (F: ∀i j,i<n->j<c->gn prog b w m [.raw (.int .i64 (i:Int)),.raw (.int .i64 (j:Int)),.one (.p (.ptr f)),.raw (.pointer (some ⟨b,0,none⟩))] h ⟨[],tZ (g i j)⟩ h):
  gn prog b w 234 [.raw (.int .i64 (n:Int)),.raw (.int .i64 (c:Int)),.fn m [.p (.ptr f),.p (.raw (.pointer (some ⟨b,0,none⟩)))]] h ⟨[],dZ (mat n c g)⟩ h:=by
 have P:n*c<=256:=XQ (Yn J E) (by omega);have x:IntKind.i64.wrap ((n:Int)*(c:Int))=((n*c:Nat):Int):=by grind [aP]
 refine jJ func234 rfl (by kernel_rfl) ?_;rw[ntmps234];refine R4 (k:=j5 x (k:=cB (k:=?_)));refine dG.weak ((gN 14).trans ((gN 16).trans ((kN 16 14 5016 (oa:=⟨85,1,Fz 5016 n c 0⟩) (oe:=⟨65,2,lc fZ (aN (n*c) (fl c (part g 0 0)))⟩) ?_ ?_ rfl (Df _ _ _ _) (bi _ _ _) (by omega) (by omega) (by omega)).trans (aj (tm:=(jk::rN c::.fn m [.p (.ptr f),.p (.raw (.pointer (some ⟨b,0,none⟩)))]::j4 (.one (.sl 5016 1 0 (n*c))::.one (.sl 5016 0 0 n)::j16 (j16 (j16 (jk::jk::[])))))) (l:=[(5016,AO 5016 n c 0 (part g 0 0))]) ⟨rfl,trivial⟩ ?_)))) ?_
 ·exact Dg 5016 n c
 ·exact H4 n c g
 ·simp_all[wk,mb,fi,oE]
 simp only[AO];refine bZ (cB (k:=?_));refine jE (G:=jW n) (fun q=>⟨(jk::rN c::.fn m [.p (.ptr f),.p (.raw (.pointer (some ⟨b,0,none⟩)))]::j4 (.one (.sl 5016 1 0 (n*c))::.one (.sl 5016 0 0 n)::j4 (j4 (.one (.sl 5016 0 0 n)::rN n::rN q.i::j16 (j16 (j4 (jk::jk::jk::[]))))))),Hm [(5016,AO 5016 n c q.i (part g q.i 0))]⟩) (fun _=>h) (fun q=>n-q.i) ⟨0,by omega⟩ ?_ rfl ?_
 ·refine aj ⟨rfl,trivial⟩ ?_;simp[wk]
 rintro⟨i,Q⟩;simp only;by_cases o:i<n
 ·have M:i*c<(i+1)*c:=by grind
  have N:(i+1)*c<=n*c:=XX _ o;have O:(i+1)*c-i*c=c:=by grind
  have y:IntKind.i64.wrap ((i:Int)*(c:Int))=((i*c:Nat):Int):=by grind [aP]
  have z:IntKind.i64.wrap (((i:Int)+1)*(c:Int))=(((i+1)*c:Nat):Int):=by
   grind [aP]
  have t1:=n9 (d:=5016) (n:=n) (c:=c) (i:=i) o;rw[if_neg (abC i)]at t1;have t2:=HU (d:=5016) (n:=n) (c:=c) (i:=i);have t3:=n9 (d:=5016) (n:=n) (c:=c) (i:=i+1) (k:=i) o;rw[if_pos (abd i)]at t3;refine cB (k:=rh rfl (bZ (cz (cB (k:=?_)))));simp only[AO];refine j5 (aE y (aE z (aE M (aE N (aE O (aE t1 t2)))))) (k:=j5 t3 (k:=?_));refine jE (G:=jW c) (fun q=>⟨(jk::rN c::.fn m [.p (.ptr f),.p (.raw (.pointer (some ⟨b,0,none⟩)))]::j4 (.one (.sl 5016 1 0 (n*c))::.one (.sl 5016 0 0 n)::rN i::j4 (jk::jk::jk::.one (.sl 5016 0 0 n)::rN n::rN i::j16 (j4 (jk::jk::rN c::rN q.i::j4 (j4 (j4 (jk::jk::jk::[])))))))),Hm [(5016,AO 5016 n c (i+1) (part g i q.i))]⟩) (fun _=>h) (fun q=>c-q.i) ⟨0,by omega⟩ ?_ rfl ?_
  ·refine aj ⟨rfl,trivial⟩ ?_;simp[wk]
  rintro⟨j,R⟩;simp only;by_cases r:j<c
  ·have C:=F i j o r;have I:i*c+j<n*c:=by omega
   have A:=az (fl c (part g i j)) I;have B:=LY (n:=n) (c:=c) (part g i j) (v:=g i j) o r;refine cB (k:=rh rfl (bZ (cz (cB (k:=?_)))));simp only[AO];refine jF ch 8 C [] [] (by kernel_rfl) (by kernel_rfl) (by rfl) (by rfl) fun _ K=>?_;simp(disch:=omega) only[kd,tZ,aa,t3,fZ,A,GW,B];apply K
   show dG _ _ _ _ _ _ _;refine sY (k:=?_);refine⟨⟨j+1,by omega⟩,by grind,aj ⟨?_,trivial⟩ ?_,rfl⟩
   ·show[_,_]=[_,_];grind [pK,iw]
   simp[wk]
  have u:j=c:=by omega
  subst u;refine cB (k:=rc rfl (sY (k:=?_)));refine⟨⟨i+1,by omega⟩,by grind,aj ⟨?_,trivial⟩ ?_,rfl⟩
  ·show[_,_]=[_,_];grind [pK,jQ]
  simp[wk]
 have t:i=n:=by omega
 subst t;refine cB (k:=rc rfl (cB (k:=?_)));refine dG.weak ((bF 5016 (HW rfl)).trans (aj (tm:=(j4 (jk::jk::dZ (mat i c g)::j16 (j16 (j16 (j4 ([]))))))) (l:=[]) trivial ?_)) ?_
 ·have e:=N1 (c:=c) (H:=Hm [(5016,AO 5016 i c i (part g i 0))]) s rfl;rw[gA fun a b D _=>jP g a b D]at e;simp[wk];exact e.symm
 (refine lI ⟨.inr rfl,rfl,b9 rfl ?_ rfl⟩;simp(disch:=omega) only[kd,results234,dZ])
theorem I2 (a b:Nat) (F:0<b) (la:(aq a).length<=268435456) (lb:(aq b).length<=268435456):CallC prog 169 [cL (aq a),cL (aq b)] ⟨[],BV a b⟩:=by
 have y:=vm (aq a) (aq b) (aA _) (aA _) (bY _) (bY _) (by omega) (by omega);rw[ax,ax]at y;by_cases B:a<b
 ·rw[nG B]at y;have z:=Ck (aq a) (by omega);unfold BV;rw[Z9 B,ZC B,cf];refine aB func169 rfl ntmps169 (aC (k:=ai (am (bL [⟨2,_,_,_,y⟩] (k:=aD rfl (bQ [⟨1,_,_,_,z⟩] (k:=?_)))))));refine aZ ⟨.inr rfl,Uk 4 rfl rfl ?_ rfl⟩;simp(disch:=omega) only[kd,results169]
 obtain⟨c,H,a3⟩: ∃c,c=f7 a b/\0<=c:=⟨_,rfl,Gs (by omega)⟩;rw[<- H]at y;clear H;by_cases hs:(aq a).length<=2
 ·have sb:(aq b).length<=2:=XQ (oP (show b<=a by omega)) hs;have ua:=gz hs;have ub:=gz sb;have T:=pP (aq a) (aA _) hs;have U:=pP (aq b) (aA _) sb;rw[ax]at T U;have hq:a/b<=a:=ZW _ _;have hr:a%b<b:=Yk _ F;have h3:=iP (a/b) (by omega);have h4:=iP (a%b) (by omega);have ad:(b:Int)≠0:=by omega
  have C:IntKind.u64.wrap (Int.tdiv (a:Int) (b:Int))=((a/b:Nat):Int):=by
   grind [IntKind.wrap_u64]
  have Q:Int.tmod (a:Int) (b:Int)=((a%b:Nat):Int):=by
   rfl
  unfold BV;generalize a/b=q at*
  generalize a%b=r at*
  refine aB func169 rfl ntmps169 (aC (k:=ai (am (bL [⟨2,_,_,_,y⟩] (k:=ao rfl (ar (k:=aD rfl (bQ [⟨1,_,_,_,T⟩,⟨3,_,_,_,U⟩] (k:=j1 [⟨3,_,_,_,h3⟩,⟨7,_,_,_,h4⟩] (aE (@ne_eq.{1}) (aE ad (aE @not_false_eq_true (aE C Q)))) (k:=aF @results169))))))))))
 by_cases T:(aq b).length=1
 ·obtain⟨g0,X⟩:=I9 T;have z:=I0 (aq a) (by omega) (by omega);have hw:=ta (aq a) b (aA _) F X (by omega) (by omega);rw[ax]at hw;have hq:a/b<4294967296^(aq a).length:=ZB (ZW _ _) (Cu a);have hr:a%b<b:=Yk _ F;have ht:=dX (bE (aq a).length (a/b)) (by rw[bM];omega);rw[rX hq]at ht;have hf:=iP (a%b) (by omega);have ag:=bM (aq a).length (a/b);unfold BV;generalize a%b=r at*
  generalize bE (aq a).length (a/b)=R at*
  generalize a/b=q at*
  have C:IntKind.u64.wrap (r:Int)=(r:Int):=by rw[YE];omega
  refine aB func169 rfl ntmps169 (aC (k:=ai (am (bL [⟨2,_,_,_,y⟩] (k:=ao rfl (ar (k:=ao rfl (ar (k:=aD rfl (bQ [⟨1,_,_,_,z⟩] (k:=?_)))))))))))
  (refine ur 4 hw 41 0 [] [] (by simp[wk]) (by omega) (oX rfl) (dQ _ _) (by simp[wk]) (by decide) fun K f=>?_;simp(disch:=omega) only[kd,aa,Int.reduceToNat,g0];apply f;refine⟨⟨rfl,rfl⟩,by simp,?_⟩;intro K f;simp only[kd,aa,TB,mw];apply f)
  refine bs.weak ((bF 41 (bS rfl)).trans (aj (tm:=(j4 (cL R::jk::jk::jk::.raw (.int .u32 (r:Int))::j16 (j16 (j16 (j16 (j16 (j4 (j4 (j4 (jk::jk::jk::[]))))))))))) (l:=[]) trivial (by simp[wk,fb,dD,aw,Hm,fQ,fL,X3,ag]))) ?_;refine iH [⟨1,_,_,_,ht⟩,⟨4,_,_,_,hf⟩] C (k:=aF @results169)
 obtain⟨n,u⟩: ∃n,(aq b).length=n+2:=⟨(aq b).length-2,by grind [fg]⟩;obtain⟨m,W⟩: ∃m,(aq a).length=n+2+m:=⟨(aq a).length-(n+2),by have:=oP (show b<=a by omega);omega⟩;obtain⟨x,hx,av,v,ae⟩:=Dj (n:=n+1) u;have hz:=VL x v;obtain⟨P,z2,z3⟩:=Qc av v;obtain⟨s,L⟩: ∃s,s=lz x:=⟨_,rfl⟩;rw[<- L]at hz P z2 z3;clear L;obtain⟨V1,V2⟩:=Rb u hx ⟨z2,z3⟩ P;have o:=aaN s;have hV:0<b*2^s:=aa6 F o;have rV:=pO (aq b) s (aA _) P (by omega);have O:=pO (aq a) s (aA _) P (by omega);rw[ax,u]at rV;rw[ax,W]at O;have w:=Cu a;rw[W]at w;obtain⟨a6,a7⟩:=JK (s:=s) w ae;have hA:a*2^s<b*2^s*4294967296^(m+1):=by
  have U:4294967296^(n+2+m)<=b*4294967296^(m+1):=by
   have e:4294967296^(n+2+m)=4294967296^(n+1)*4294967296^(m+1):=by grind
   simp_all[XX]
  rw[abL];exact ZO (XZ w U) o
 obtain⟨ab,ac⟩:=QU (a:=a) (b:=b) (s:=s);have C:((n+2:Nat):Int)-1=((n+1:Nat):Int):=by omega
 have Q:((n+2+m:Nat):Int)-((n+2:Nat):Int)=(m:Int):=by omega
 have e3:(m:Int)+1=((m+1:Nat):Int):=by omega
 have tk:=JE (x:=b*2^s) (show n+2<=n+2+1 by omega);have a0:=fun k=>TX (A:=a*2^s) (k:=k) V1 V2
 have hQ: ∀k,k<=m+1->lh (a*2^s) (b*2^s) k<4294967296^(m+1):=fun k t=>Uf hA t
 have p:a%b*2^s<4294967296^(n+2+m+1):=by
  have h3:a%b<b:=Yk _ F;have h4:a%b*2^s<=b*2^s:=XX _ (aac h3);omega
 have J:a%b<4294967296^(n+2+m+1):=ZB (Zf _ o) p;have ap:=fun k (t:k<=m)=>Ns (A:=a*2^s) (V:=b*2^s) (k:=k) (nb:=n+2) (na:=n+2+m) hV (aac V1) (by omega)
 have al:=fun k (t:k<=m)=>QV (A:=a*2^s) (V:=b*2^s) (k:=k) (nb:=n+2) (na:=n+2+m) (by omega)
 have ah:=fun k (t:k<=m)=>QJ (A:=a*2^s) (V:=b*2^s) (k:=k) (m:=m+1) hV (by omega) (hQ _ (by omega))
 have I:a/b<4294967296^(m+1):=by have:=hQ 0 (by omega);omega
 have sr:=xe (bE (n+2+m+1) (a%b*2^s)) s (mY _ _) P (by rw[bM];omega) (by rw[bM];omega);rw[gW p,bM,abK _ o]at sr;have M:=dX (bE (m+1) (a/b)) (by rw[bM];omega);rw[rX I]at M;have N:=dX (bE (n+2+m+1) (a%b)) (by rw[bM];omega);rw[rX J]at N;have a4:=bM (n+2) (b*2^s);refine aB func169 rfl ntmps169 (aC (k:=?_));refine ai (nB (S:=⟨(cL (aq a)::cL (aq b)::j16 (j16 (j16 (j16 (j16 (j16 (j4 (jk::jk::[])))))))),Hm []⟩) (am ?_) ?_)
 ·refine bL [⟨2,_,_,_,y⟩] (k:=ao rfl (ar (k:=ao rfl (ar (k:=?_)))));refine aW rfl (fun h=>by simp at h<;>omega) (fun _=>ak (aj trivial ?_));simp[wk]
 refine ce [⟨6,_,_,_,hz⟩] (aE u (aE C hx)) (k:=ce [⟨2,_,_,_,rV⟩] u (k:=?_));refine bs.weak ((bF 61 (bS rfl)).trans (aj (tm:=(cL (aq a)::cL (aq b)::j4 (jk::jk::jk::rN s::cL (bE (n+2) (b*2^s))::j16 (j16 (j16 (j16 (j16 (j4 (j4 (j4 (jk::[]))))))))))) (l:=[]) trivial (by simp[wk,fb,dD,aw,Hm,fQ,fL,tk]))) ?_;generalize a5:bE (n+2) (b*2^s)=vv at*
 refine bQ [⟨2,_,_,_,O⟩] (k:=aK (aE W (aE u (aE Q (aE e3 @lX)))) (k:=ai (aK (aE W (aE u Q)) (k:=?_))));generalize a1:a*2^s=A at*
 generalize a2:b*2^s=V at*
 refine aG (G:=jW (m+1)) (fun g=>⟨(jk::cL (aq b)::jk::jk::.one (.sl 74 0 0 (m+1))::j4 (.raw (.int .i64 (s:Int))::cL vv::.one (.sl 67 0 0 (n+2+m+1))::.raw (.int .i64 ((g.i:Int)-1))::j16 (j16 (j16 (j16 (j16 (j4 (j4 (jk::jk::jk::[]))))))))),Hm [(67,[⟨165,1,lc fU (bE (n+2+m+1) (d9 A V g.i))⟩]),(74,[⟨165,1,lc fU (bE (m+1) (lh A V g.i))⟩])]⟩) (fun g=>g.i) ⟨m+1,by omega⟩ ?_ ?_
 ·refine aj ⟨?_,?_,trivial⟩ ?_
  ·simp_all[aw]
  ·simp_all[aw,yx]
  simp[wk]
 rintro⟨i,hi⟩;simp only;by_cases h0:0<i
 ·obtain⟨k,rfl⟩: ∃k,i=k+1:=⟨i-1,by omega⟩;have t:k<=m:=by omega
  have ek:((k+1:Nat):Int)-1=(k:Int):=by omega
  have Y:(k:Int)+((n+2:Nat):Int)+1=((k+n+3:Nat):Int):=by omega
  have Z:k+n+3-k=n+3:=by omega
  obtain⟨v1,v2,u2,u1,u0,K,nU,nV⟩:=a0 k;have w1:=ap k t;have w2:=al k t;rw[show n+2+1=n+3 from rfl]at w1 w2;have w3:=ah k t;have gq:=gX (x:=lh A V (k+1)) (show k<m+1 by omega);have j:=xd (bE k (d9 A V (k+1))) _ (bE (n+2+m-(k+(n+2))) (d9 A V (k+1)/4294967296^(k+(n+2)+1))) _ k n v1 v2 u2 u1 u0 (bM _ _) K (by grind [bM]);rw[nU,nV]at j;rw[w1,<- w2]at j;have qd:=qg (A:=A) (k:=k) hV;have l1:=bM (m+1) (lh A V (k+1));have l2:=bM (n+2+m+1) (d9 A V (k+1));obtain⟨R',E⟩: ∃R',R'=bE (n+2+m+1) (d9 A V k):=⟨_,rfl⟩;obtain⟨Q',D⟩: ∃Q',Q'=bE (m+1) (lh A V k):=⟨_,rfl⟩;rw[<- E]at j;rw[<- D]at w3;clear w1 w2 K nU nV;generalize d9 A V (k+1)/4294967296^k/V=d at*
  generalize lh A V (k+1)/4294967296^k%4294967296=od at*
  generalize bE (m+1) (lh A V (k+1))=Q0 at*
  generalize bE (n+2+m+1) (d9 A V (k+1))=R0 at*
  refine ai (aK ek (k:=aD rfl (ak (ai (am ?_)))))
  ((refine DQ 11 j 67 0 [] [] (by simp[wk]) (by omega) (oX rfl) (dQ _ _) (by simp[wk]) (by decide) fun K f=>?_);simp(disch:=omega) only[kd,aa,u,aP,Y,Nat.reduceEqDiff,Nat.reduceLeDiff,Z];apply f;refine⟨⟨rfl,rfl⟩,by simp,?_⟩;intro K f;simp(disch:=omega) only[kd,aa,TB,mw,Nat.reduceEqDiff,gq,cX,w3];apply f)
  show bs _ _ _ _;refine bK (k:=?_);refine⟨⟨k,by omega⟩,by simp,aj ⟨?_,?_,trivial⟩ ?_⟩
  ·simp[aw,Hm,E]
  ·simp[aw,Hm,D]
  simp[wk]
 have af:i=0:=by omega
 subst af;rw[ab,ac];generalize bE (n+2+m+1) (a%b*2^s)=R0 at*
 unfold BV;have l1:=bM (m+1) (a/b);have l2:=bM (n+2+m+1) (a%b);generalize bE (n+2+m+1) (a%b)=R1 at*
 generalize bE (m+1) (a/b)=Q1 at*
 generalize a/b=q at*
 generalize a%b=r at*
 refine ai (ar (k:=ao rfl (be ?_)));show bs _ _ _ _
 (refine ur 2 sr 67 0 [] [] (by simp[wk]) (by omega) (oX rfl) (dQ _ _) (by simp[wk]) (by decide) fun K f=>?_;simp only[kd];apply f;refine⟨⟨rfl,rfl⟩,by simp,?_⟩;intro K f;simp only[kd,aa,TB,mw,Nat.reduceEqDiff];apply f)
 refine bs.weak ((bF 67 (bS rfl)).trans ((bF 74 (bS rfl)).trans (aj (tm:=(j4 (cL Q1::j4 (jk::jk::cL R1::j16 (j16 (j16 (j16 (j16 (j4 (j4 (j4 ([])))))))))))) (l:=[]) trivial (by simp[wk,fb,dD,aw,Hm,fQ,fL,X3,l1,l2])))) ?_;refine bQ [⟨1,_,_,_,M⟩,⟨3,_,_,_,N⟩] (k:=aF @results169)
theorem TH {a:Int} (g:x≠0) (f:0<=a):a/x=fH (decide (x<0)) (a.natAbs/x.natAbs)/\a%x=fH false (a.natAbs%x.natAbs):=by
 have c:tr a x=fH false (a.natAbs%x.natAbs):=by grind [tr]
 have e:tq a x=fH (decide (x<0)) (a.natAbs/x.natAbs):=by grind [tq]
 grind [Er,fH]
theorem PP {a:Int} (g:x≠0) (f:a<0) (h:a.natAbs%x.natAbs=0):a/x=fH (!decide (x<0)) (a.natAbs/x.natAbs)/\a%x=fH false (a.natAbs%x.natAbs):=by
 have c:tr a x=fH false (a.natAbs%x.natAbs):=by grind [tr,fH]
 have e:tq a x=fH (!decide (x<0)) (a.natAbs/x.natAbs):=by grind [tq]
 grind [Er,fH]
theorem TG {a:Int} (m:x≠0) (e:a<0) (h:a.natAbs%x.natAbs≠0):a/x=fH (!decide (x<0)) (a.natAbs/x.natAbs+1)/\a%x=fH false (x.natAbs-a.natAbs%x.natAbs):=by
 have l:tr a x= -((a.natAbs%x.natAbs:Nat):Int):=by unfold tr;rw[decide_eq_true e];rfl
 have f:a.natAbs%x.natAbs<x.natAbs:=Yk _ (by omega);by_cases c:x<0
 ·obtain⟨g,j⟩:=GD (a:=a) c (by omega);grind [tq,fH]
 obtain⟨g,j⟩:=GE (a:=a) (show 0<x by omega) (by omega);grind [tq,fH]
def Bd (z:Int):Prop:=Sz z 268435456
theorem I1 (a b:Int) (c:b≠0) (w:Bd a) (y:Bd b):CallC prog 120 [tZ a,tZ b] ⟨[],.tup [(true,cZ (a/b)),(true,cZ (a%b)),(false,[.p (.raw (.bool true))])]⟩:=by
 have B:(aq a.natAbs).length<=268435456:=kY w;have C:(aq b.natAbs).length<=268435456:=kY y;have t1:=dX (aq a.natAbs) (by omega);have t2:=dX (aq b.natAbs) (by omega);rw[ib]at t1 t2;have A:(aq b.natAbs).length≠0:=fun h=>c (by grind [fg])
 have o:=I2 a.natAbs b.natAbs (by omega) B C;unfold BV at o;have m:=fg (n:=a.natAbs%b.natAbs);have t:a.natAbs%b.natAbs<b.natAbs:=Yk _ (by omega);have G:=oP (show a.natAbs/b.natAbs<=a.natAbs from ZW _ _);have D:=oP (aac t);by_cases l:a<0
 ·by_cases s:a.natAbs%b.natAbs=0
  ·obtain⟨g,j⟩:=PP c l s;have e:=d7 (!decide (b<0)) (a.natAbs/b.natAbs);have f:=d7 false (a.natAbs%b.natAbs);rw[<- g]at e;rw[<- j]at f;have z:(aq (a.natAbs%b.natAbs)).length=0:=m.2 s;clear g j;generalize a.natAbs/b.natAbs=q at*
   generalize a.natAbs%b.natAbs=r at*
   generalize a/b=Q at*
   generalize a%b=R at*
   refine aB func120 rfl ntmps120 (aC (k:=bL [⟨2,_,_,_,t2⟩] (k:=ai (ar (k:=ao rfl (ak (bL [⟨2,_,_,_,t1⟩,⟨4,_,_,_,o⟩] (k:=ar (k:=ai (am (ai (am (ai (am (ai (ai (ar (k:=ao rfl (ak (ar (k:=aD rfl (be (bH (k:=be (bL [⟨2,_,_,_,e⟩,⟨4,_,_,_,f⟩] (k:=aF @results120))))))))))))))))))))))))))
  obtain⟨g,j⟩:=TG c l s;have u:=x8 (aq (a.natAbs/b.natAbs)) [1] (aA _) (by intro x F;grind) (by omega) (by simp);rw[ax,show natV [1]=1 from rfl,show cL [1]= .one (.p (.sl [[.raw (.int .u32 1)]]))from rfl]at u;have v:=ru (aq b.natAbs) (aq (a.natAbs%b.natAbs)) (aA _) (aA _) D (by grind [ax]) (by omega);rw[ax,ax]at v;have e:=d7 (!decide (b<0)) (a.natAbs/b.natAbs+1);have f:=d7 false (b.natAbs-a.natAbs%b.natAbs);rw[<- g]at e;rw[<- j]at f;have z:(aq (a.natAbs%b.natAbs)).length≠0:=fun h=>s (m.1 h)
  clear g j;generalize b.natAbs-a.natAbs%b.natAbs=E at*
  generalize a.natAbs/b.natAbs=q at*
  generalize a.natAbs%b.natAbs=r at*
  generalize a/b=Q at*
  generalize a%b=R at*
  refine aB func120 rfl ntmps120 (aC (k:=bL [⟨2,_,_,_,t2⟩] (k:=ai (ar (k:=ao rfl (ak (bL [⟨2,_,_,_,t1⟩,⟨4,_,_,_,o⟩] (k:=ar (k:=ai (am (ai (am (ai (am (ai (ai (ar (k:=aD rfl (be (bL [⟨2,_,_,_,u⟩] (k:=Vv [⟨2,_,_,_,v⟩] (k:=bH (k:=be (bL [⟨2,_,_,_,e⟩,⟨4,_,_,_,f⟩] (k:=aF @results120)))))))))))))))))))))))))
 obtain⟨g,j⟩:=TH c (show 0<=a by omega);have e:=d7 (decide (b<0)) (a.natAbs/b.natAbs);have f:=d7 false (a.natAbs%b.natAbs);rw[<- g]at e;rw[<- j]at f;clear g j;generalize a.natAbs/b.natAbs=q at*
 generalize a.natAbs%b.natAbs=r at*
 generalize a/b=Q at*
 generalize a%b=R at*
 refine aB func120 rfl ntmps120 (aC (k:=bL [⟨2,_,_,_,t2⟩] (k:=ai (ar (k:=ao rfl (ak (bL [⟨2,_,_,_,t1⟩,⟨4,_,_,_,o⟩] (k:=ar (k:=ai (am (ai (am (ai (am (ai (ai (ar (k:=ao rfl (ak (ar (k:=ao rfl (ak (be (bL [⟨2,_,_,_,e⟩,⟨4,_,_,_,f⟩] (k:=aF @results120)))))))))))))))))))))))))
end Go.Proofs.YtalmoejhjceflaaGreat
