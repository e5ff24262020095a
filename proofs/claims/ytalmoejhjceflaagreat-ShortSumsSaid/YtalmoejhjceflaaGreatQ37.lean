/-
  Part 38 of a proof (walks and plain facts).
-/
import Derived.Test.YtalmoejhjceflaaGreatQ36
import Derived.Lib.BitFns
set_option linter.all false
set_option maxRecDepth 100000
set_option maxHeartbeats 64000000
namespace Go.Proofs.YtalmoejhjceflaaGreat
open Go.RowKit Go.Proofs.Tryz
variable {n m j c:Nat} {b:List Nat}
theorem o8 {pre post:List Nat} {i:Nat} (c:pre.length=n) (h:b[i]?=some m):(pre++(b++post))[n+i]?=some m:=by
 grind
theorem yb {pre post:List Nat} {i:Nat} (v:Nat) (e:pre.length=n) (c:i<b.length):(pre++(b++post)).set (n+i) v=pre++(b.set i v++post):=by
 grind
theorem yc {u:List Nat} {i:Nat} (v:Nat) (c:b.length=i) (f:i<u.length):(b++u.drop i).set i v=(b++[v])++u.drop (i+1):=by
 have e:u.drop i=u[i]::u.drop (i+1):=adF f;rw[e,adV _ _ (by omega),c,aeq,aew,acI];rfl
theorem EO {u:List Nat} {i:Nat} (c:b.length=i) (e:u[i]?=some n):(b++u.drop i)[i]?=some n:=by
 grind
theorem EQ {u:List Nat} {i:Nat} (c:b.length=i) (e:i<=u.length):(b++u.drop i).length=u.length:=by
 grind
theorem Qp {P:Program} {k:Nat} {c z:Code} {Q:Exit->AS->Prop} {s:AS} (S:Nat->AS) (p:Nat->Prop) (f:fX P k c (iH (fun b=> ∃g,p g/\bJ b (S g)) Q) s) (j: ∀g,p g->fX P k z Q (S g)):fX P k c (iH (fX P k z Q) Q) s:=f.mono fun e b h=>by
 cases e with
 |normal=>obtain⟨g,l,m⟩:=h;exact(j g l).weak m
 |_=>exact h
theorem bor (y c b:Nat) (g:y<4294967296) (e:c<4294967296) (f:b<=1):IntKind.u32.wrap (IntKind.u64.wrap (IntKind.u64.wrap ((y:Int)-(c:Int))-(b:Int)))=(((y+8589934592-(c+b))%4294967296:Nat):Int)/\
  Int.fdiv (IntKind.u64.wrap (IntKind.u64.wrap ((y:Int)-(c:Int))-(b:Int))) (2^(min 63 IntKind.u64.bits))=(((if y<c+b then 1 else 0):Nat):Int):=by
 constructor
 ·grind [IntKind.wrap_u32,IntKind.wrap_u64]
 rw[adb,adb];show Int.fdiv _ 9223372036854775808=_;grind
theorem BJ (pre u post v:List Nat) (h n j N w O u0:Nat) (J:pre.length=h) (H:Bz u v n j N w O u0) (bR:(pre++(u++post)).length<=536870912):
  wN prog 213 [.undef,cW v] 0 h (n+3) ⟨165,1,lc fU (pre++(u++post))⟩ ⟨165,1,lc fU (pre++(bQ (n+3) (natV u%natV v)++post))⟩ (.raw (.int .u32 ((natV u/natV v:Nat):Int))):=by
 have nu:=H.nu;have nv:=H.nv;have hv1:=H.hv1;have hv2:=H.hv2;have bv1:=H.bv1;have bv2:=H.bv2;have bu2:=H.bu2;have bu1:=H.bu1;have bu0:=H.bu0;have top:=H.top;have bw:=H.q_lt;have a8:(pre++(u++post)).length=h+(n+3)+post.length:=by grind
 have ad:=o8 (post:=post) J H.hu2;have ac:=o8 (post:=post) J H.hu1;have S:=o8 (post:=post) J H.hu0;refine zi func213 rfl (by kernel_rfl) (by simp) (by omega) (by simp[lc]at a8⊢;omega) (fm _ _) rfl (by simp[lc,bU,nu]) (fm _ _) rfl ?_;rw[ntmps213];have e2:((n+2:Nat):Int)-1=((n+1:Nat):Int):=by omega
 have e3:((n+2:Nat):Int)-2=((n:Nat):Int):=by omega
 refine QE (k:=dc nv (k:=?_));have a1:=Bs (a:=w) (s:=32) (by omega) (by omega);have a2:=Ew (w*2^32) O (by omega) (by omega);rw[qm w O 32 (by omega),show w*2^32+O=w*4294967296+O from rfl]at a2;obtain⟨p,A⟩: ∃p,p=w*4294967296+O:=⟨_,rfl⟩;rw[<- A]at a2;obtain⟨k0,bb,bc⟩: ∃k:KdG u v j p,k.g=p/j/\k.r=p%j:=by rw[A];exact H.first
 have bh:=k0.le;have a3:Int.tdiv (p:Int) (j:Int)=(k0.g:Int):=by grind
 have a4:Int.tmod (p:Int) (j:Int)=(k0.r:Int):=by grind
 generalize hR:pre++(u++post)=R at*
 refine vV (aC @famH.eq_1 (aC ad (aC a1 (aC e2 (aC ac a2))))) (k:=vV (aC e2 (aC hv1 (aC a3 a4))) (k:=?_));refine bG (Qp (fun g=>⟨(.one (.sl 0 0 h (n+3))::cW v::jk::jk::jk::.raw (.int .i64 ((n+2:Nat):Int))::jk::.raw (.int .u64 (g:Int))::j16 (j16 (j16 (j16 (j16 (j16 (j16 (j16 (j16 (j16 (jk::jk::jk::[]))))))))))),Hm [(0,[⟨165,1,lc fU R⟩])]⟩) (fun g=>natV u/natV v<=g/\g<=natV u/natV v+1/\g<=4294967296) ?_ ?_)
 ·have H2:=H;subst A;refine gQ (G:=KdG u v j (w*4294967296+O)) (fun k=>⟨(.one (.sl 0 0 h (n+3))::cW v::jk::jk::jk::.raw (.int .i64 ((n+2:Nat):Int))::jk::.raw (.int .u64 (k.g:Int))::.raw (.int .u64 (k.r:Int))::j16 (j16 (j16 (j16 (j16 (j16 (j16 (j16 (j16 (j16 (jk::jk::[]))))))))))),Hm [(0,[⟨165,1,lc fU R⟩])]⟩) (fun k=>k.g) k0 ?_ ?_
  ·refine aj ⟨rfl,trivial⟩ ?_;simp[wk]
  intro k;have kg:=k.le;have kr:=k.hr;have Z:=k.eq;have bq:=k.ge;have Q:=P3 k.g
  -- the guess goes down
  have down:(4294967296<=k.g\/k.r*4294967296+u0<k.g*N)->natV u/natV v<k.g:=H2.down k;have next:natV u/natV v<k.g->k.r+j<4294967296-> ∃k':KdG u v j (w*4294967296+O),k'.g=k.g-1/\k'.r=k.r+j:=fun h1 h2=>by
   refine⟨⟨k.g-1,k.r+j,?_,by omega,by omega,h2⟩,rfl,rfl⟩;refine ahn ?_ Z;have:k.g*j=(k.g-1)*j+j:=by
    obtain⟨m,hm⟩: ∃m,k.g=m+1:=⟨k.g-1,(af6 (adn (acL _) h1)).symm⟩;grind [Nat.add_mul]
   omega
  have stop:natV u/natV v<k.g->4294967296<=k.r+j->natV u/natV v<=k.g-1/\k.g-1<=natV u/natV v+1/\k.g-1<=4294967296:=fun h1 h2=>by
   refine⟨by omega,?_,by omega⟩;refine H2.near (r:=k.r+j) ?_ (by omega) ?_
   ·refine ahn ?_ Z;have:k.g*j=(k.g-1)*j+j:=by
     obtain⟨m,hm⟩: ∃m,k.g=m+1:=⟨k.g-1,(af6 (adn (acL _) h1)).symm⟩;grind [Nat.add_mul]
    omega
   have h3:(k.g-1)*N<=4294967296*4294967295:=acU (by omega) (by omega);omega
  have D:(k.g:Int)-1=((k.g-1:Nat):Int)\/k.g=0:=by omega
  have e8:(k.r:Int)+(j:Int)=((k.r+j:Nat):Int):=by omega
  have e9:=P3 (k.r+j);by_cases ag:4294967296<=k.g
  ·have hd:=down (.inl ag)
   replace D:=D.resolve_right (by omega)
   refine bG (vV Q (k:=f9 rfl (db (eG (dc D (k:=dc (aC e2 (aC hv1 e8)) (k:=?_)))))));by_cases B:4294967296<=k.r+j
   ·refine dc e9 (k:=f9 rfl (je ?_));refine⟨k.g-1,stop hd B,aj ⟨rfl,trivial⟩ ?_⟩;simp[wk]
   obtain⟨k',E,L⟩:=next hd (by omega);refine dc e9 (k:=fK rfl (db ?_));refine⟨k',by omega,aj ⟨rfl,trivial⟩ ?_⟩;simp[wk,E,L]
  have bt:k.g*N<=4294967295*4294967295:=acU (by omega) (by omega);have aa:(k.g:Int)*(N:Int)=((k.g*N:Nat):Int):=by simp
  have ab:=Bs (a:=k.r) (s:=32) (by omega) (by omega);have P:=Ew (k.r*2^32) u0 (by omega) (by omega);rw[qm k.r u0 32 (by omega),show k.r*2^32+u0=k.r*4294967296+u0 from rfl]at P;by_cases hc:k.r*4294967296+u0<k.g*N
  ·have hd:=down (.inr hc)
   replace D:=D.resolve_right (fun e=>by grind)
   generalize k.g*N=gv at*
   refine bG (vV (aC Q (aC e3 (aC hv2 (aC aa (aC ab (aC S P)))))) (k:=f9 rfl (db (eG (dc D (k:=dc (aC e2 (aC hv1 e8)) (k:=?_)))))));by_cases B:4294967296<=k.r+j
   ·refine dc e9 (k:=f9 rfl (je ?_));refine⟨k.g-1,stop hd B,aj ⟨rfl,trivial⟩ ?_⟩;simp[wk]
   obtain⟨k',E,L⟩:=next hd (by omega);refine dc e9 (k:=fK rfl (db ?_));refine⟨k',by omega,aj ⟨rfl,trivial⟩ ?_⟩;simp[wk,E,L]
  have W:=H2.near Z (by omega) (af4 hc);generalize k.g*N=gv at*
  refine bG (vV (aC Q (aC e3 (aC hv2 (aC aa (aC ab (aC S P)))))) (k:=fK rfl (je ?_)));refine⟨k.g,⟨bq,W,by omega⟩,aj ⟨rfl,trivial⟩ ?_⟩;simp[wk]
 rintro g ⟨a9,ba,T⟩;subst hR;clear ad ac S a1 a2 a3 a4 bb bc bh k0;refine dm (k:=bG (dm (k:=?_)));refine gQ (G:=U2 u v g) (fun m=>⟨(.one (.sl 0 0 h (n+3))::cW v::jk::jk::jk::.raw (.int .i64 ((n+2:Nat):Int))::jk::.raw (.int .u64 (g:Int))::jk::.raw (.int .u64 (m.c:Int))::.raw (.int .u64 (m.b:Int))::j16 (j16 (j16 (j16 (j4 (jk::jk::jk::.raw (.int .i64 ((n+2:Nat):Int))::rN m.i::j16 (j16 (j16 (j16 (j16 (j4 (jk::jk::jk::[])))))))))))),Hm [(0,[⟨165,1,lc fU (pre++((m.us++u.drop m.i)++post))⟩])]⟩) (fun m=>n+2-m.i) (U2.start u v g) ?_ ?_
 ·refine aj ⟨?_,trivial⟩ ?_
  ·rfl
  simp[wk,U2.start]
 intro m;have cl:=m.hi;have al:=m.hc;have ah:=m.hb;have I:=m.len;by_cases ci:m.i<n+2
 ·obtain⟨x,X⟩:=getElem?_of_lt (l:=v) (k:=m.i) (by omega);obtain⟨y,Y⟩:=getElem?_of_lt (l:=u) (k:=m.i) (by omega);have av:=bV H.lv X;have a0:=bV H.lu Y;obtain⟨c1,c2⟩:=G4 T av al;have cg:g*x<=4294967296*4294967295:=acU T (by omega);have e4:(g:Int)*(x:Int)=((g*x:Nat):Int):=by simp
  have Q:(m.c:Int)+((g*x:Nat):Int)=((m.c+g*x:Nat):Int):=by simp
  have K:=EO I Y;have bn:=EQ (u:=u) I (by omega);have o:=o8 (post:=post) J K;have bl:(m.c+g*x)%4294967296<4294967296:=acM _ (by omega);obtain⟨b1,b2⟩:=bor y ((m.c+g*x)%4294967296) m.b a0 bl ah;obtain⟨m',E,L,q3,q4⟩:=Wh m (l:=(y+8589934592-((m.c+g*x)%4294967296+m.b))%4294967296) (b':=if y<(m.c+g*x)%4294967296+m.b then 1 else 0) T X Y H.lv (acM _ (by omega)) (by grind) (by grind);have q:=yb (post:=post) ((y+8589934592-((m.c+g*x)%4294967296+m.b))%4294967296) J (show m.i<(m.us++u.drop m.i).length by omega);rw[yc _ I (by omega)]at q;have e6:=BT (m.c+g*x);have D:=P3 (m.c+g*x);have bm:(pre++((m.us++u.drop m.i)++post)).length=h+(n+3)+post.length:=by grind
  generalize(m.c+g*x)%4294967296=lo at*
  generalize(m.c+g*x)/4294967296=hi' at*
  generalize g*x=gx at*
  generalize(if y<lo+m.b then 1 else 0:Nat)=nb at*
  generalize(y+8589934592-(lo+m.b))%4294967296=nl at*
  generalize ae:pre++((m.us++u.drop m.i)++post)=RR at*
  refine dm (k:=vL rfl (bG (eG (dm (k:=dc (aC X (aC e4 Q)) (k:=dc (aC o e6) (k:=dc (aC b1 (aC o (aC @cX q))) (k:=dc D (k:=rF b2 (k:=I2 (k:=?_)))))))))));refine⟨m',by omega,aj ⟨?_,trivial⟩ ?_⟩
  ·rw[E,L];rfl
  simp[wk,E,q3,q4]
 have U:m.i=n+2:=by omega
 have K:(m.us++u.drop m.i)[n+2]?=some w:=by
  have:=EO I (show u[m.i]?=some w by rw[U];exact H.hu2);grind
 have bn:=EQ (u:=u) I (by omega);have o:=o8 (post:=post) J K;have q:=fun t=>yb (post:=post) t J (show n+2<(m.us++u.drop m.i).length by omega)
 have ap: ∀t,(m.us++u.drop m.i).set (n+2) t=m.us++[t]:=fun t=>by
  grind [yc]
 simp only[ap]at q;obtain⟨b1,b2⟩:=bor w m.c m.b bu2 al ah;have bm:(pre++((m.us++u.drop m.i)++post)).length=h+(n+3)+post.length:=by grind
 by_cases an:m.c+m.b<=w
 ·have b3:(w:Int)-(m.c:Int)-(m.b:Int)=((w-(m.c+m.b):Nat):Int):=by omega
  have b4:Int.fdiv ((w-(m.c+m.b):Nat):Int) (2^(min 63 IntKind.u64.bits))=0:=by
   grind [Lh]
  have cm:w-(m.c+m.b)<4294967296:=by omega
  obtain⟨E,L⟩:=H.right m U a9 an;have hs:=q (w-(m.c+m.b));rw[L]at hs;have D:IntKind.u32.wrap (g:Int)=((natV u/natV v:Nat):Int):=by rw[BT,E];omega
  generalize w-(m.c+m.b)=nl at*
  generalize ae:pre++((m.us++u.drop m.i)++post)=RR at*
  refine dm (k:=vK rfl (dc (aC o b3) (k:=dc (aC @Nj (aC o (aC @cX hs))) (k:=bG (dc b4 (k:=f9 rfl (dc D (k:=?_))))))));refine eK ⟨.inr rfl,⟨(.one (.sl 0 0 h (n+3))::jk::jk::jk::.raw (.int .u32 ((natV u/natV v:Nat):Int))::j16 (j16 (j16 (j16 (j16 (j16 (j16 (j16 (j16 (j16 (j4 (jk::jk::[])))))))))))),Hm [(0,[⟨165,1,lc fU (pre++(bQ (n+3) (natV u%natV v)++post))⟩])]⟩,aj ⟨rfl,trivial⟩ (by simp[wk]),rfl,dA _,?_⟩;simp(disch:=omega) only[kd,results213]
 rw[if_pos (by omega)]at b2;obtain⟨t,ht⟩: ∃t,t=w+4294967296-(m.c+m.b):=⟨_,rfl⟩;have bp:t<4294967296:=by omega
 rw[show(w+8589934592-(m.c+m.b))%4294967296=t by omega]at b1;have hs:=q t;have a5:Lmb (m.us++[t]):=qh m.lmb bp;have cp:(m.us++[t]).length=n+3:=by grind
 have V:=fun a af=>H.left m U ba (by omega) ht a af
 have b5:(m.us++[t])[n+2]?=some t:=by grind
 clear q ap an ht;generalize ae:pre++((m.us++u.drop m.i)++post)=RR at*
 refine dm (k:=vK rfl (dc o (k:=dc (aC b1 (aC o (aC @cX hs))) (k:=bG (dc b2 (k:=fK rfl (db (dm (k:=bG (dm (k:=?_)))))))))));refine gQ (G:=X4 (m.us++[t]) v) (fun a=>⟨(.one (.sl 0 0 h (n+3))::cW v::jk::jk::jk::.raw (.int .i64 ((n+2:Nat):Int))::jk::.raw (.int .u64 (g:Int))::jk::.raw (.int .u64 (a.c:Int))::j16 (j16 (j16 (j16 (j16 (j16 (j16 (j4 (j4 (j4 (jk::.raw (.int .i64 ((n+2:Nat):Int))::rN a.i::j16 (j16 (jk::jk::[]))))))))))))),Hm [(0,[⟨165,1,lc fU (pre++((a.us++(m.us++[t]).drop a.i)++post))⟩])]⟩) (fun a=>n+2-a.i) (X4.start _ _) ?_ ?_
 ·refine aj ⟨?_,trivial⟩ ?_
  ·rfl
  simp[wk,X4.start]
 intro a;have af:=a.hi;have cc:=a.hc;have F:=a.len;generalize m.us++[t]=C at*
 have b0:=EQ (u:=C) F (by omega);have bx:(pre++((a.us++C.drop a.i)++post)).length=h+(n+3)+post.length:=by grind
 by_cases br:a.i<n+2
 ·obtain⟨x,X⟩:=getElem?_of_lt (l:=v) (k:=a.i) (by omega);obtain⟨y,Y⟩:=getElem?_of_lt (l:=C) (k:=a.i) (by omega);have av:=bV H.lv X;have a0:=bV a5 Y;have z:=o8 (post:=post) J (EO F Y);have f:=yb (post:=post) ((a.c+(y+x))%4294967296) J (show a.i<(a.us++C.drop a.i).length by omega);rw[yc _ F (by omega)]at f;obtain⟨a',E,L,q3⟩:=Vg a X Y H.lv a5;have e4:(a.c:Int)+((y:Int)+(x:Int))=((a.c+(y+x):Nat):Int):=by omega
  have e6:=BT (a.c+(y+x));have D:=P3 (a.c+(y+x));generalize(a.c+(y+x))%4294967296=nl at*
  generalize(a.c+(y+x))/4294967296=nc at*
  generalize a6:pre++((a.us++C.drop a.i)++post)=R2 at*
  refine dm (k:=vL rfl (bG (eG (dm (k:=vV (aC z (aC X e4)) (k:=dc (aC e6 (aC z (aC @cX f))) (k:=rF D (k:=I2 (k:=?_)))))))));refine⟨a',by omega,aj ⟨?_,trivial⟩ ?_⟩
  ·rw[E,L];rfl
  simp[wk,E,q3]
 have M:a.i=n+2:=by omega
 obtain⟨E,L⟩:=V a M;have z:(pre++((a.us++C.drop a.i)++post))[h+(n+2)]?=some t:=by
  have:=o8 (post:=post) J (EO F (show C[a.i]?=some t by grind));rwa[M]at this⊢
 have f:=yb (post:=post) ((t+a.c)%4294967296) J (show a.i<(a.us++C.drop a.i).length by omega);rw[yc _ F (by omega),aeE.2 (show C.length<=a.i+1 by omega),adc,L,M]at f;have e4:IntKind.u32.wrap ((t:Int)+(a.c:Int))=(((t+a.c)%4294967296:Nat):Int):=by rfl
 have Q:(g:Int)-1=((natV u/natV v:Nat):Int):=by omega
 have e6:IntKind.u32.wrap ((natV u/natV v:Nat):Int)=((natV u/natV v:Nat):Int):=by grind [BT]
 have e8:IntKind.u64.wrap ((natV u/natV v:Nat):Int)=((natV u/natV v:Nat):Int):=by
  grind [IntKind.wrap_u64]
 have a7:pre++((a.us++C.drop a.i)++post)=pre++((a.us++C.drop (n+2))++post):=by rw[M]
 generalize(t+a.c)%4294967296=nl at*
 rw[<- a7]at f;generalize a6:pre++((a.us++C.drop a.i)++post)=R2 at*
 refine dm (k:=vK rfl (dc (aC z (aC @Nj (aC e4 (aC @cX f)))) (k:=dc (aC Q (aC e8 e6)) (k:=?_))));refine eK ⟨.inr rfl,⟨(.one (.sl 0 0 h (n+3))::jk::jk::jk::.raw (.int .u32 ((natV u/natV v:Nat):Int))::j16 (j16 (j16 (j16 (j16 (j16 (j16 (j16 (j16 (j16 (j4 (jk::jk::[])))))))))))),Hm [(0,[⟨165,1,lc fU (pre++(bQ (n+3) (natV u%natV v)++post))⟩])]⟩,aj ⟨rfl,trivial⟩ (by simp[wk]),rfl,dA _,?_⟩;simp(disch:=omega) only[kd,results213]
section
theorem qn: ∀(k n x:Nat),bQ (k+n) x=bQ k x++bQ n (x/4294967296^k)
 |0,n,x=>by simp[bQ]
 |k+1,n,x=>by
  rw[show k+1+n=(k+n)+1 by omega,bQ,qn k n,bQ,adI,adk,adu 4294967296];rfl
theorem Aw: ∀(k x:Nat),bQ k (x%4294967296^k)=bQ k x
 |0,x=>rfl
 |k+1,x=>by
  rw[bQ,bQ,adk,adu (4294967296^k),Nat.mod_mul_right_mod,Nat.mod_mul_right_div_self,Aw k]
theorem uA (k n x y:Nat) (b:x<4294967296^k):bQ (k+n) (y*4294967296^k+x)=bQ k x++bQ n y:=by
 have c:0<4294967296^k:=adg (by omega);rw[qn,<- Aw k (y*4294967296^k+x),adu y,Nat.mul_add_mod,adR b,agk c,ae5 b,ac9]
theorem CY: ∀n,bQ n 0=List.replicate n 0
 |0=>rfl
 |n+1=>by rw[bQ,Nat.zero_mod,Nat.zero_div,CY n];rfl
def fQ (A V k:Nat):Nat:=A%(V*4294967296^k)
def nH (A V k:Nat):Nat:=A/(V*4294967296^k)*4294967296^k
section
variable {A V k:Nat} (hV:0<V)
include hV
theorem Tg:fQ A V (k+1)/4294967296^k<V*4294967296:=by
 have b:0<4294967296^k:=adg (by omega);rw[adM b];have:=acM A (show 0<V*4294967296^(k+1)from afX hV (adg (by omega)));rw[adk]at this;unfold fQ;grind
omit hV in
theorem Tj:fQ A V k=fQ A V (k+1)/4294967296^k%V*4294967296^k+fQ A V (k+1)%4294967296^k:=by
 unfold fQ;have e:V*4294967296^(k+1)=V*4294967296^k*4294967296:=by grind
 have b:A%(V*4294967296^k)=A%(V*4294967296^(k+1))%(V*4294967296^k):=by simp_all
 grind [Nat.mul_comm,Nat.mod_mul]
theorem S9:nH A V k=nH A V (k+1)+fQ A V (k+1)/4294967296^k/V*4294967296^k:=by
 unfold nH fQ;have c:0<4294967296^k:=adg (by omega);have e:V*4294967296^(k+1)=V*4294967296^k*4294967296:=by grind
 have b:=aeB A (V*4294967296^(k+1));grind [Nat.mul_assoc,Nat.mul_add_div,Nat.div_div_eq_div_mul,Nat.mul_comm]
theorem uH:fQ A V (k+1)/4294967296^k/V<4294967296:=by
 simp_all[adM,adu,Tg]
end
theorem WK {A V k m:Nat} (b:0<V) (l:k<m) (h:nH A V (k+1)<4294967296^m):(bQ m (nH A V (k+1))).set k (fQ A V (k+1)/4294967296^k/V)=bQ m (nH A V k):=by
 have j:=uH (A:=A) (k:=k) b;rw[S9 (A:=A) (k:=k) b];generalize fQ A V (k+1)/4294967296^k/V=d at*
 obtain⟨q,g⟩: ∃q,nH A V (k+1)=q*4294967296^(k+1):=⟨_,rfl⟩;rw[g];obtain⟨r,rfl⟩: ∃r,m=k+(1+r):=⟨m-(k+1),by omega⟩;have e:q*4294967296^(k+1)=(q*4294967296)*4294967296^k+0:=by grind
 have f:q*4294967296^(k+1)+d*4294967296^k=(q*4294967296+d)*4294967296^k+0:=by grind
 have c:0<4294967296^k:=adg (by omega);rw[f,uA _ _ _ _ c,e,uA _ _ _ _ c,adV _ _ (by grind [bU]),bU,aeq,adN 1 r,bQ,bQ,aew];grind
theorem WX {A V k nb na:Nat} (b:k+nb<=na):bQ (na+1) (fQ A V (k+1))=bQ k (fQ A V (k+1))++(bQ (nb+1) (fQ A V (k+1)/4294967296^k)++bQ (na-(k+nb)) (fQ A V (k+1)/4294967296^(k+nb+1))):=by
 conv=>lhs;rw[show na+1=k+((nb+1)+(na-(k+nb))) by omega]
 rw[qn,qn,adI,<- adv,show k+(nb+1)=k+nb+1 by omega]
theorem Ti {A V k nb na:Nat} (b:0<V) (c:V<=4294967296^nb) (l:k+nb<=na):bQ k (fQ A V (k+1))++(bQ (nb+1) (fQ A V (k+1)/4294967296^k%V)++bQ (na-(k+nb)) (fQ A V (k+1)/4294967296^(k+nb+1)))=bQ (na+1) (fQ A V k):=by
 have f:0<4294967296^k:=adg (by omega);have j:fQ A V (k+1)/4294967296^(k+nb+1)=0:=by
  apply ae5;have:=acM A (show 0<V*4294967296^(k+1)from afX b (adg (by omega)));unfold fQ;refine acp this ?_;have e:4294967296^(k+nb+1)=4294967296^nb*4294967296^(k+1):=by grind
  simp_all[acu]
 have m:=acM (fQ A V (k+1)/4294967296^k) b;rw[Tj (A:=A) (V:=V) (k:=k),j];generalize fQ A V (k+1)/4294967296^k%V=u at*
 rw[<- Aw k (fQ A V (k+1))];have h:=acM (fQ A V (k+1)) f;generalize fQ A V (k+1)%4294967296^k=x at*
 have g:u<4294967296^(nb+1):=by
  omega
 rw[show na+1=k+((nb+1)+(na-(k+nb))) by omega,uA _ _ _ _ h]
 congr 1
 have:=uA (nb+1) (na-(k+nb)) u 0 g;grind
/-! The shift. -/
theorem wT: ∀(x:Nat),x≠0->x<18446744073709551616->1<=Lib.bitLen x/\2^(Lib.bitLen x-1)<=x/\x<2^Lib.bitLen x:=fun x=>by
 induction x using Nat.strongRecOn with
 |_ x h=>
  intro c g;have f:=Lib.bitLen_half x c g;by_cases e:x/2=0
  ·have b:x=1:=by omega
   subst b;have:Lib.bitLen 1=1:=by decide
   grind
  obtain⟨j,l,m⟩:=h (x/2) (by omega) e (by omega);rw[f];refine⟨by omega,?_,?_⟩
  ·rw[show 1+Lib.bitLen (x/2)-1=(Lib.bitLen (x/2)-1)+1 by omega,adk];omega
  grind
def lz (x:Nat):Nat:=32-Lib.bitLen x
theorem Wd (b: n ≠ 0) (h: n < 4294967296) : lz n < 32 /\ 2147483648 <= n * 2 ^ lz n /\ n * 2 ^ lz n < 4294967296 := by
  obtain ⟨f, c, e⟩ := wT n b (by omega);have g := Lib.bitLen_le n 32 (by omega) (by omega);unfold lz;refine ⟨by omega, ?_, ?_⟩
  · calc 2147483648 = 2 ^ (Lib.bitLen n - 1) * 2 ^ (32 - Lib.bitLen n) := by
          rw [<- adv, show Lib.bitLen n - 1 + (32 - Lib.bitLen n) = 31 by omega]
      _ <= _ := acu _ c
  · calc n * 2 ^ (32 - Lib.bitLen n) < 2 ^ Lib.bitLen n * 2 ^ (32 - Lib.bitLen n) := aep e (afD _)
      _ = 4294967296 := by rw [<- adv, show Lib.bitLen n + (32 - Lib.bitLen n) = 32 by omega]
theorem Xe (r: (au n).length = m + 1) (p: (au n)[m]? = some j) (g: 2147483648 <= j * 2 ^ c /\ j * 2 ^ c < 4294967296) (f: c < 32) :
    n * 2 ^ c < 4294967296 ^ (m + 1) /\ 2147483648 * 4294967296 ^ m <= n * 2 ^ c := by
  have h := bI p;rw [ack (by omega), aG] at h;have q := gm (aI n) m;have t : 0 < 4294967296 ^ m := adg (by omega);have o := Hc f;constructor
  · -- n < (j + 1) B^m, and (j + 1) 2^c <= B, for j 2^c < B and 2^c divides B
    have l : (j + 1) * 2 ^ c <= 4294967296 := by
      have e : 4294967296 = 2 ^ (32 - c) * 2 ^ c := by rw [<- adv, show 32 - c + c = 32 by omega]
      rw [e] at g ⊢;exact acu _ (aex g.2)
    calc n * 2 ^ c < (j + 1) * 4294967296 ^ m * 2 ^ c := by
          refine aep ?_ (afD c);grind
      _ = (j + 1) * 2 ^ c * 4294967296 ^ m := by grind
      _ <= 4294967296 * 4294967296 ^ m := acu _ l
      _ = 4294967296 ^ (m + 1) := by omega
  · calc 2147483648 * 4294967296 ^ m <= j * 2 ^ c * 4294967296 ^ m := acu _ g.1
      _ = j * 4294967296 ^ m * 2 ^ c := by grind
      _ <= n * 2 ^ c := acu _ (by omega)
end
theorem Z4 {A k:Nat} (b:n<4294967296^(m+2)) (f:2147483648*4294967296^(m+1)<=n): ∃o p l j h,Bz (bQ (m+3) (fQ A n (k+1)/4294967296^k)) (bQ (m+2) n) m o p l j h/\natV (bQ (m+3) (fQ A n (k+1)/4294967296^k))=fQ A n (k+1)/4294967296^k/\natV (bQ (m+2) n)=n:=by
 have g:0<4294967296^(m+1):=adg (by omega);have e:0<n:=by omega
 have r:=Tg (A:=A) (k:=k) e;have c:fQ A n (k+1)/4294967296^k<4294967296^(m+3):=by
  grind
 refine⟨_,_,_,_,_,⟨qg _ _,qg _ _,bU _ _,bU _ _,jv (by omega),jv (by omega),jv (by omega),jv (by omega),jv (by omega),?_,?_⟩,jt c,jt b⟩
 ·have q:n/4294967296^(m+1)<4294967296:=by
   rw[adM g];grind
  simp_all[adR,afn]
 grind [jt]
theorem O7 {a s:Nat} (f:a<4294967296^(m+2+j)) (h:4294967296^(m+1)<=n):fQ (a*2^s) (n*2^s) (j+1)=a*2^s/\nH (a*2^s) (n*2^s) (j+1)=0:=by
 have g:a*2^s<n*2^s*4294967296^(j+1):=by
  have c:4294967296^(m+2+j)<=n*4294967296^(j+1):=by
   have e:4294967296^(m+2+j)=4294967296^(m+1)*4294967296^(j+1):=by grind
   simp_all[acu]
  rw[agL];exact aep (acp f c) (afD s)
 grind [fQ,nH,Nat.mod_eq_of_lt,Nat.div_eq_of_lt]
theorem WW {a b s:Nat}:fQ (a*2^s) (b*2^s) 0=a%b*2^s/\nH (a*2^s) (b*2^s) 0=a/b:=by
 grind [fQ,nH,Nat.mul_mod_mul_right,Nat.mul_div_mul_right]
theorem aao {k:Nat} (c:n<m*4294967296^j) (f:k<=j):nH n m k<4294967296^j:=by
 have g:0<4294967296^k:=adg (by omega);unfold nH;have b:n/(m*4294967296^k)<4294967296^(j-k):=by
  rw[<- adI];apply aeJ;apply aeJ;have e:4294967296^j=4294967296^k*4294967296^(j-k):=by rw[<- adv];grind
  grind
 have e:4294967296^j=4294967296^(j-k)*4294967296^k:=by rw[<- adv];grind
 simp_all
theorem Ii {n:Nat} (h:(au m).length=n+1): ∃x,(au m)[n]?=some x/\x≠0/\x<4294967296/\4294967296^n<=m:=by
 obtain⟨x,c⟩: ∃x,(au m)[n]?=some x:=⟨(au m)[n],by simp[h]⟩;have f:=cb m;unfold xO at f;rw[List.getLast?_eq_getElem?,h,Nat.add_sub_cancel,c]at f;have g:x≠0:=fun e=>f (by rw[e])
 have j:=bI c;rw[ack (by omega),aG]at j;refine⟨x,c,g,bV (aI m) c,?_⟩;rw[j];have:1*4294967296^n<=x*4294967296^n:=acu _ (by omega);omega
theorem Oo (h:(au m).length=1):(au m)[0]?=some m/\m<4294967296:=by
 obtain⟨x,c,_,e,_⟩:=Ii (n:=0) h;have f:=bI c;grind [aG,natV]
theorem GQ (a:Nat):a<4294967296^(au a).length:=by
 grind [fF,aI,aG]
theorem OY {x:Nat} (h:n<=m):(bQ m x).take n=bQ n x:=by
 obtain⟨d,rfl⟩: ∃d,m=n+d:=⟨m-n,by omega⟩;simp_all[qn,bU]
theorem abt (x:Nat) (h:x<4294967296):CallC prog 211 [.raw (.int .u32 (x:Int))] ⟨[],.raw (.int .i64 (lz x:Int))⟩:=by
 refine nj (by kernel_rfl) fun X w vs o f c=>?_
 obtain⟨q,m,g⟩:=y5 c (j:=0) rfl;obtain⟨rfl,_⟩:=aZ (ρ:=fun _ _=>none) (H:=fun _=>[]) g;obtain rfl:vs= #[.int .u32 (x:Int)]:=by
  grind
 have p:=Lib.bitLen_le x 32 (by omega) (by omega);have e:(32-(Lib.bitLen (x:Int).toNat:Int))=(lz x:Int):=by grind [lz]
 have:=Any.bits_LeadingZeros32 Tryz.lays133 (x:Int) w (by omega) (by omega);rw[e]at this;exact this.mono fun e r ⟨b,n⟩=>⟨_,b,fun l H Y=>b7 rfl,by grind [Ext.refl]⟩
theorem NN {P:Program} {f:FuncId} {args:List TV} (T:0<b.length) (K:callable P f=true) (h: ∀(X:Nat->Prop) (w:World) (vs:Array Value),(∀m,X m->m<w.heap.size)->vs.size=args.length-> (∀(j:Nat) t,args[j]?=some t-> ∃v:Value,vs[j]?=some v/\t.rel (fun _ _=>none) (fun _=>[]) X w v)->Calls P f vs w fun e D=> ∃v,e= .returned v/\D.ownsRow w.heap.size 165 1 v b.length ((b.map fun n:Nat=>(n:Int)).map (Value.int .u32))/\Ext w D):CallC P f args ⟨[⟨165,1,lc fU b⟩],.one (.sl 0 0 0 b.length)⟩:=
 ⟨K,fun X w vs E B J=>(h X w vs E B J).mono fun e D ⟨v,H,⟨_,I⟩,s⟩=>by
  rcases I with⟨_,U⟩|⟨g,cap,cur,W,S,L,A,y,N,V⟩
  ·omega
  have G:rho1 g cap 0 0=some (g,cap):=by simp[rho1]
  have u: ∀(i:Nat) z,b[i]?=some z->cur[i]?=some (.int .u32 (z:Int)):=fun i z O=>by
   have s:((b.map fun n:Nat=>(n:Int)).map (Value.int .u32))[i]?=some (.int .u32 (z:Int)):=by grind
   grind
  refine⟨v,H,rho1 g cap,⟨Gy s,fun a r o q=>?_,fun a r Q Z o Y m c R q M _ _=>?_,fun a r o m c q F=>?_,fun m F=>acp (E m F) s.size,fun a r o q=>?_⟩,?_⟩
  ·obtain⟨rfl,rfl,rfl⟩:=BI q;refine⟨fun e p=>?_,Nat.zero_lt_one,?_⟩
   ·obtain⟨z,_,rfl⟩:=acn.1 p;rfl
   rw[G];refine⟨cur,L,N,by grind [jY],y,fun i e j x p C=>?_⟩;simp only at p;rw[D8]at p;obtain⟨z,O,rfl⟩:=acf.1 p;cases j with
   |succ j=>simp[fU]at C
   |zero=>
    simp[fU]at C;subst C;exact⟨.int .u32 (z:Int),by grind,rfl,bS.raw _ rfl⟩
  ·grind [BI]
  ·grind [BI]
  ·grind [BI,dX,fm]
  exact⟨_,rfl,by simp[jY],.inr ⟨g,cap,cap,G,by omega,A,fun _=>rfl⟩⟩⟩
theorem Od (l:List Nat) (e:0<l.length) (r:l.length<=1073741824):CallC prog 209 [cW l] ⟨[⟨165,1,lc fU l⟩],.one (.sl 0 0 0 l.length)⟩:=by
 refine NN e (by kernel_rfl) fun X w vs p g f=>?_
 obtain⟨s,m,h⟩:=y5 f (j:=0) rfl;obtain⟨A,c,rfl,q,o⟩:=MK h;obtain rfl:vs= #[.slice A l.length c]:=by
  grind
 have b:(l.map fun n:Nat=>(n:Int)).length=l.length:=ac0 _;grind [zm]
end Go.Proofs.YtalmoejhjceflaaGreat
