/-
  Part 20 of a proof (walks and plain facts).
-/
import Derived.Test.YtalmoejhjceflaaGreatR18
import Derived.Lib.BitFns
set_option linter.all false
set_option maxRecDepth 100000
set_option maxHeartbeats 64000000
open Nat renaming reduceAdd → aa
open List renaming replicate → ae
namespace Go.Proofs.YtalmoejhjceflaaGreat
open Go.RowKit Go.Proofs.Tryz
variable {n m j c:Nat} {b:List Nat} {x:Int} {e:FuncId} {f:FF}
section
theorem Lm (f:b.length=n+2) (c:b[n+1]?=some m) (g:b[n]?=some j):natV b=(m*4294967296+j)*4294967296^n+natV (b.take n):=by
 have e:=bj c;grind [bj]
theorem Ln (g:b.length=n+3) (e:b[n+2]?=some m) (h:b[n+1]?=some j) (o:b[n]?=some c):natV b=((m*4294967296+j)*4294967296+c)*4294967296^n+natV (b.take n):=by
 have f:=bj e;grind [bj]
structure yG (u v:List Nat) (n v1 v2 u2 u1 u0:Nat):Prop where
 lu:Lmb u
 lv:Lmb v
 nu:u.length=n+3
 nv:v.length=n+2
 hv1:v[n+1]?=some v1
 hv2:v[n]?=some v2
 hu2:u[n+2]?=some u2
 hu1:u[n+1]?=some u1
 hu0:u[n]?=some u0
 top:2147483648<=v1
 lt:natV u<natV v*4294967296
section
variable {u v:List Nat} {n v1 v2 u2 u1 u0:Nat} (h:yG u v n v1 v2 u2 u1 u0)
include h
theorem yG.vpos:0<natV v:=by
 have:=h.lt;omega
theorem yG.bv1:v1<4294967296:=bW h.lv h.hv1
theorem yG.bv2:v2<4294967296:=bW h.lv h.hv2
theorem yG.bu2:u2<4294967296:=bW h.lu h.hu2
theorem yG.bu1:u1<4294967296:=bW h.lu h.hu1
theorem yG.bu0:u0<4294967296:=bW h.lu h.hu0
theorem yG.eV:natV v=(v1*4294967296+v2)*4294967296^n+natV (v.take n):=Lm h.nv h.hv1 h.hv2
theorem yG.eU:natV u=((u2*4294967296+u1)*4294967296+u0)*4294967296^n+natV (u.take n):=Ln h.nu h.hu2 h.hu1 h.hu0
theorem yG.vl:natV (v.take n)<4294967296^n:=fd h.lv n
theorem yG.ul:natV (u.take n)<4294967296^n:=fd h.lu n
theorem yG.q_lt:natV u/natV v<4294967296:=by
 rw[abH h.vpos,abj];exact h.lt
theorem yG.u2_le:u2<=v1:=by
 have b:=h.eV;have c:=h.eU;have f:=h.lt;have g:=h.vl;have j:=h.bv2;have p:0<4294967296^n:=abk (by omega);generalize 4294967296^n=L at*
 by_cases e:u2<=v1
 ·exact e
 exfalso;have l:(v1+1)*4294967296*4294967296*L<=natV u:=by
  rw[c];have:(v1+1)*4294967296*4294967296*L<=((u2*4294967296+u1)*4294967296+u0)*L:=aat _ (aaj (aat _ (aaj (aat _ (show v1+1<=u2 by omega)) (adS _ _))) (adS _ _));omega
 have m:natV v*4294967296<=(v1+1)*4294967296*4294967296*L:=by
  have o:natV v<=(v1+1)*4294967296*L:=by
   rw[b];have:(v1*4294967296+v2)*L+L<=(v1+1)*4294967296*L:=by
    have:=aat L (show v1*4294967296+v2+1<=(v1+1)*4294967296 by omega);grind
   omega
  grind
 omega
structure Yp (u v:List Nat) (v1 high:Nat) where
 g:Nat
 r:Nat
 eq:g*v1+r=high
 ge:natV u/natV v<=g
 le:g<=4294967297
 hr:r<4294967296
omit h in
theorem KN {a:Nat} (e:0<n) (h:a<(m+1)*n):a/n<=m:=by
 have:=(abH e).2 h;omega
theorem yG.first: ∃k:Yp u v v1 (u2*4294967296+u1),k.g=(u2*4294967296+u1)/v1/\k.r=(u2*4294967296+u1)%v1:=by
 have q:=h.top;have e:=h.bv1;have p:=aaQ (u2*4294967296+u1) (show 0<v1 by omega);have o:=ab5 (u2*4294967296+u1) v1;have f:=h.u2_le;have hu1:=h.bu1;have c:0<4294967296^n:=abk (by omega);refine⟨⟨(u2*4294967296+u1)/v1,(u2*4294967296+u1)%v1,by grind,?_,?_,by omega⟩,rfl,rfl⟩
 ·rw[ada (by omega)];have j:=h.eV;have b:=h.eU;have l:=h.ul;have m:=h.bu0;refine YU (U:=natV u) (V:=natV v) (L:=4294967296^n) ?_ ?_ (adq _ _) c
  ·grind
  rw[b];have:((u2*4294967296+u1)*4294967296+u0)*4294967296^n+4294967296^n<=(u2*4294967296+u1+1)*4294967296*4294967296^n:=by
   have:=aat (4294967296^n) (show(u2*4294967296+u1)*4294967296+u0+1<=(u2*4294967296+u1+1)*4294967296 by omega);grind
  omega
 refine KN (by omega) ?_;omega
theorem yG.down (k:Yp u v v1 (u2*4294967296+u1)) (b:4294967296<=k.g\/k.r*4294967296+u0<k.g*v2):natV u/natV v<k.g:=by
 rcases b with b|b
 ·have:=h.q_lt;omega
 have c:=h.eV;have e:=h.eU;have f:=h.ul;refine YT (U:=natV u) (V:=natV v) (L:=4294967296^n) (high:=u2*4294967296+u1) ?_ ?_ (adq _ _) k.eq b
 ·omega
 grind
theorem yG.near {r:Nat} (e:n*v1+r=u2*4294967296+u1) (c:n<=4294967296) (j:n*v2<=r*4294967296+u0):n<=natV u/natV v+1:=by
 have b:=h.eV;have f:=h.eU;have l:=h.top;refine SV (U:=natV u) (t3:=(u2*4294967296+u1)*4294967296+u0) b h.vl ?_ ?_ ?_ c (by omega)
 ·omega
 ·have:=Nat.lt_div_mul_add (a:=natV u) h.vpos;grind
 grind
theorem yG.vlt:natV v<=4294967296^(n+2):=acN (by have:=fH h.lv;rw[h.nv]at this;exact this)
theorem yG.right (f:RM u v m) (o:f.i=n+2) (j:natV u/natV v<=m) (q:f.c+f.b<=u2):m=natV u/natV v/\f.us++[u2-(f.c+f.b)]=bO (n+3) (natV u%natV v):=by
 have r:=f.val;rw[o,aar (by rw[h.nv];omega)]at r;have p:=bj h.hu2;rw[aar (by rw[h.nu];omega)]at p;have l:f.us.length=n+2:=by rw[f.len,o]
 have e:natV (f.us++[u2-(f.c+f.b)])+m*natV v=natV u:=by
  grind [oW,Nat.sub_add_cancel]
 obtain⟨s,t⟩:=OF rfl j e h.vpos;refine⟨s,Du (oh f.lmb ?_) (by simp[l]) t⟩;have:=h.bu2;omega
theorem yG.left (f:RM u v m) (x:f.i=n+2) (p:m<=natV u/natV v+1) (y:u2<f.c+f.b) (F:j=u2+4294967296-(f.c+f.b)) (a:UL (f.us++[j]) v) (l:a.i=n+2):
  m=natV u/natV v+1/\a.us++[(j+a.c)%4294967296]=bO (n+3) (natV u%natV v):=by
 have G:=f.val;rw[x,aar (by rw[h.nv];omega)]at G;have s:=bj h.hu2;rw[aar (by rw[h.nu];omega)]at s;have r:f.us.length=n+2:=by rw[f.len,x]
 have C:=h.bu2;have E:=f.hc;have D:=f.hb;have o:=a.val;have z:(f.us++[j]).take (n+2)=f.us:=by grind
 rw[l,z,aar (by rw[h.nv];omega)]at o;have w:=fH a.lmb;rw[a.len,l]at w;have e:natV f.us+j*4294967296^(n+2)+m*natV v=natV u+4294967296*4294967296^(n+2):=by
  rw[s];have:j*4294967296^(n+2)+(f.c+f.b)*4294967296^(n+2)=(u2+4294967296)*4294967296^(n+2):=by
   rw[<- abg,F,Nat.sub_add_cancel (by omega)]
  rw[abg u2]at this;omega
 have q:natV u<m*natV v:=by
  have A:=fH f.lmb;rw[r]at A;have B:(u2+1)*4294967296^(n+2)<=(f.c+f.b)*4294967296^(n+2):=aat _ (by omega);rw[abg u2 1,ach]at B;omega
 obtain⟨H,I,J⟩:=SU (T:=natV f.us) (t:=j) (c:=a.c) (W:=natV a.us) (Bn:=4294967296^(n+2)) rfl p e q h.vpos h.vlt w rfl o a.hc (by omega);refine⟨H,Du (oh a.lmb (aaQ _ (by omega))) (by simp[a.len,l]) ?_⟩;grind [oW]
end
end
theorem mY {pre post:List Nat} {i:Nat} (c:pre.length=n) (h:b[i]?=some m):(pre++(b++post))[n+i]?=some m:=by
 grind
theorem vy {pre post:List Nat} {i:Nat} (v:Nat) (e:pre.length=n) (c:i<b.length):(pre++(b++post)).set (n+i) v=pre++(b.set i v++post):=by
 grind
theorem vC {u:List Nat} {i:Nat} (v:Nat) (c:b.length=i) (f:i<u.length):(b++u.drop i).set i v=(b++[v])++u.drop (i+1):=by
 have e:u.drop i=u[i]::u.drop (i+1):=abE f;rw[e,abU _ _ (by omega),c,abQ,ac5,aaL];rfl
theorem B8 {u:List Nat} {i:Nat} (c:b.length=i) (e:u[i]?=some n):(b++u.drop i)[i]?=some n:=by
 grind
theorem Ca {u:List Nat} {i:Nat} (c:b.length=i) (e:i<=u.length):(b++u.drop i).length=u.length:=by
 grind
theorem M5 {P:Program} {k:Nat} {c z:Code} {Q:Exit->AS->Prop} {s:AS} (S:Nat->AS) (p:Nat->Prop) (f:eY P k c (iP (fun b=> ∃g,p g/\bD b (S g)) Q) s) (j: ∀g,p g->eY P k z Q (S g)):eY P k c (iP (eY P k z Q) Q) s:=f.mono fun e b h=>by
 cases e with
 |normal=>obtain⟨g,l,m⟩:=h;exact(j g l).weak m
 |_=>exact h
theorem bor (y c b:Nat) (g:y<4294967296) (e:c<4294967296) (f:b<=1):IntKind.u32.wrap (IntKind.u64.wrap (IntKind.u64.wrap ((y:Int)-(c:Int))-(b:Int)))=(((y+8589934592-(c+b))%4294967296:Nat):Int)/\
  Int.fdiv (IntKind.u64.wrap (IntKind.u64.wrap ((y:Int)-(c:Int))-(b:Int))) (2^(min 63 IntKind.u64.bits))=(((if y<c+b then 1 else 0):Nat):Int):=by
 constructor
 ·grind [IntKind.wrap_u32,IntKind.wrap_u64]
 rw[abb,abb];show Int.fdiv _ 9223372036854775808=_;grind
theorem yO (pre u post v:List Nat) (h n j N w O u0:Nat) (I:pre.length=h) (H:yG u v n j N w O u0) (bR:(pre++(u++post)).length<=536870912):
  tT prog 213 [.undef,cK v] 0 h (n+3) ⟨165,1,lc fU (pre++(u++post))⟩ ⟨165,1,lc fU (pre++(bO (n+3) (natV u%natV v)++post))⟩ (.raw (.int .u32 ((natV u/natV v:Nat):Int))):=by
 have nu:=H.nu;have nv:=H.nv;have hv1:=H.hv1;have hv2:=H.hv2;have bv1:=H.bv1;have bv2:=H.bv2;have bu2:=H.bu2;have bu1:=H.bu1;have bu0:=H.bu0;have top:=H.top;have bw:=H.q_lt;have a8:(pre++(u++post)).length=h+(n+3)+post.length:=by grind
 have ad:=mY (post:=post) I H.hu2;have ac:=mY (post:=post) I H.hu1;have S:=mY (post:=post) I H.hu0;refine wK func213 rfl (by kernel_rfl) (by simp) (by omega) (by simp[lc]at a8⊢;omega) (ez _ _) rfl (by simp[lc,bS,nu]) (ez _ _) rfl ?_;rw[ntmps213];have e2:((n+2:Nat):Int)-1=((n+1:Nat):Int):=by omega
 have e3:((n+2:Nat):Int)-2=((n:Nat):Int):=by omega
 refine Nk (k:=dp nv (k:=?_));have a1:=yz (a:=w) (s:=32) (by omega) (by omega);have a2:=BL (w*2^32) O (by omega) (by omega);rw[qa w O 32 (by omega),show w*2^32+O=w*4294967296+O from rfl]at a2;obtain⟨p,A⟩: ∃p,p=w*4294967296+O:=⟨_,rfl⟩;rw[<- A]at a2;obtain⟨k0,bb,bc⟩: ∃k:Yp u v j p,k.g=p/j/\k.r=p%j:=by rw[A];exact H.first
 have bh:=k0.le;have a3:Int.tdiv (p:Int) (j:Int)=(k0.g:Int):=by grind
 have a4:Int.tmod (p:Int) (j:Int)=(k0.r:Int):=by grind
 generalize hR:pre++(u++post)=R at*
 refine sY (aH @famH.eq_1 (aH ad (aH a1 (aH e2 (aH ac a2))))) (k:=sY (aH e2 (aH hv1 (aH a3 a4))) (k:=?_));refine bT (M5 (fun g=>⟨(.one (.sl 0 0 h (n+3))::cK v::jk::jk::jk::.raw (.int .i64 ((n+2:Nat):Int))::jk::.raw (.int .u64 (g:Int))::j16 (j16 (j16 (j16 (j16 (j16 (j16 (j16 (j16 (j16 (jk::jk::jk::[]))))))))))),Hm [(0,[⟨165,1,lc fU R⟩])]⟩) (fun g=>natV u/natV v<=g/\g<=natV u/natV v+1/\g<=4294967296) ?_ ?_)
 ·have H2:=H;subst A;refine jq (G:=Yp u v j (w*4294967296+O)) (fun k=>⟨(.one (.sl 0 0 h (n+3))::cK v::jk::jk::jk::.raw (.int .i64 ((n+2:Nat):Int))::jk::.raw (.int .u64 (k.g:Int))::.raw (.int .u64 (k.r:Int))::j16 (j16 (j16 (j16 (j16 (j16 (j16 (j16 (j16 (j16 (jk::jk::[]))))))))))),Hm [(0,[⟨165,1,lc fU R⟩])]⟩) (fun k=>k.g) k0 ?_ ?_
  ·refine aj ⟨rfl,trivial⟩ ?_;simp[wk]
  intro k;have kg:=k.le;have kr:=k.hr;have Z:=k.eq;have bq:=k.ge;have Q:=MK k.g
  -- the guess goes down
  have down:(4294967296<=k.g\/k.r*4294967296+u0<k.g*N)->natV u/natV v<k.g:=H2.down k;have next:natV u/natV v<k.g->k.r+j<4294967296-> ∃k':Yp u v j (w*4294967296+O),k'.g=k.g-1/\k'.r=k.r+j:=fun h1 h2=>by
   refine⟨⟨k.g-1,k.r+j,?_,by omega,by omega,h2⟩,rfl,rfl⟩;refine Eq.trans ?_ Z;have:k.g*j=(k.g-1)*j+j:=by
    obtain⟨m,hm⟩: ∃m,k.g=m+1:=⟨k.g-1,(adU (abZ (aaW _) h1)).symm⟩;grind [Nat.add_mul]
   omega
  have stop:natV u/natV v<k.g->4294967296<=k.r+j->natV u/natV v<=k.g-1/\k.g-1<=natV u/natV v+1/\k.g-1<=4294967296:=fun h1 h2=>by
   refine⟨by omega,?_,by omega⟩;refine H2.near (r:=k.r+j) ?_ (by omega) ?_
   ·refine Eq.trans ?_ Z;have:k.g*j=(k.g-1)*j+j:=by
     obtain⟨m,hm⟩: ∃m,k.g=m+1:=⟨k.g-1,(adU (abZ (aaW _) h1)).symm⟩;grind [Nat.add_mul]
    omega
   have h3:(k.g-1)*N<=4294967296*4294967295:=aaU (by omega) (by omega);omega
  have D:(k.g:Int)-1=((k.g-1:Nat):Int)\/k.g=0:=by omega
  have e8:(k.r:Int)+(j:Int)=((k.r+j:Nat):Int):=by omega
  have e9:=MK (k.r+j);by_cases ag:4294967296<=k.g
  ·have hd:=down (.inl ag)
   replace D:=D.resolve_right (by omega)
   refine bT (sY Q (k:=iA rfl (dM (fq (dp D (k:=dp (aH e2 (aH hv1 e8)) (k:=?_)))))));by_cases B:4294967296<=k.r+j
   ·refine dp e9 (k:=iA rfl (kq ?_));refine⟨k.g-1,stop hd B,aj ⟨rfl,trivial⟩ ?_⟩;simp[wk]
   obtain⟨k',K,L⟩:=next hd (by omega);refine dp e9 (k:=iz rfl (dM ?_));refine⟨k',by omega,aj ⟨rfl,trivial⟩ ?_⟩;simp[wk,K,L]
  have bt:k.g*N<=4294967295*4294967295:=aaU (by omega) (by omega);have aa:(k.g:Int)*(N:Int)=((k.g*N:Nat):Int):=by simp
  have ab:=yz (a:=k.r) (s:=32) (by omega) (by omega);have P:=BL (k.r*2^32) u0 (by omega) (by omega);rw[qa k.r u0 32 (by omega),show k.r*2^32+u0=k.r*4294967296+u0 from rfl]at P;by_cases hc:k.r*4294967296+u0<k.g*N
  ·have hd:=down (.inr hc)
   replace D:=D.resolve_right (fun e=>by grind)
   generalize k.g*N=gv at*
   refine bT (sY (aH Q (aH e3 (aH hv2 (aH aa (aH ab (aH S P)))))) (k:=iA rfl (dM (fq (dp D (k:=dp (aH e2 (aH hv1 e8)) (k:=?_)))))));by_cases B:4294967296<=k.r+j
   ·refine dp e9 (k:=iA rfl (kq ?_));refine⟨k.g-1,stop hd B,aj ⟨rfl,trivial⟩ ?_⟩;simp[wk]
   obtain⟨k',K,L⟩:=next hd (by omega);refine dp e9 (k:=iz rfl (dM ?_));refine⟨k',by omega,aj ⟨rfl,trivial⟩ ?_⟩;simp[wk,K,L]
  have W:=H2.near Z (by omega) (ade hc);generalize k.g*N=gv at*
  refine bT (sY (aH Q (aH e3 (aH hv2 (aH aa (aH ab (aH S P)))))) (k:=iz rfl (kq ?_)));refine⟨k.g,⟨bq,W,by omega⟩,aj ⟨rfl,trivial⟩ ?_⟩;simp[wk]
 rintro g ⟨a9,ba,T⟩;subst hR;clear ad ac S a1 a2 a3 a4 bb bc bh k0;refine eF (k:=bT (eF (k:=?_)));refine jq (G:=RM u v g) (fun m=>⟨(.one (.sl 0 0 h (n+3))::cK v::jk::jk::jk::.raw (.int .i64 ((n+2:Nat):Int))::jk::.raw (.int .u64 (g:Int))::jk::.raw (.int .u64 (m.c:Int))::.raw (.int .u64 (m.b:Int))::j16 (j16 (j16 (j16 (j4 (jk::jk::jk::.raw (.int .i64 ((n+2:Nat):Int))::rN m.i::j16 (j16 (j16 (j16 (j16 (j4 (jk::jk::jk::[])))))))))))),Hm [(0,[⟨165,1,lc fU (pre++((m.us++u.drop m.i)++post))⟩])]⟩) (fun m=>n+2-m.i) (RM.start u v g) ?_ ?_
 ·refine aj ⟨?_,trivial⟩ ?_
  ·rfl
  simp[wk,RM.start]
 intro m;have cl:=m.hi;have al:=m.hc;have ah:=m.hb;have F:=m.len;by_cases ci:m.i<n+2
 ·obtain⟨x,X⟩:=getElem?_of_lt (l:=v) (k:=m.i) (by omega);obtain⟨y,Y⟩:=getElem?_of_lt (l:=u) (k:=m.i) (by omega);have av:=bW H.lv X;have a0:=bW H.lu Y;obtain⟨c1,c2⟩:=D1 T av al;have cg:g*x<=4294967296*4294967295:=aaU T (by omega);have e4:(g:Int)*(x:Int)=((g*x:Nat):Int):=by simp
  have Q:(m.c:Int)+((g*x:Nat):Int)=((m.c+g*x:Nat):Int):=by simp
  have J:=B8 F Y;have bn:=Ca (u:=u) F (by omega);have o:=mY (post:=post) I J;have bl:(m.c+g*x)%4294967296<4294967296:=aaQ _ (by omega);obtain⟨b1,b2⟩:=bor y ((m.c+g*x)%4294967296) m.b a0 bl ah;obtain⟨m',K,L,q3,q4⟩:=Ta m (l:=(y+8589934592-((m.c+g*x)%4294967296+m.b))%4294967296) (b':=if y<(m.c+g*x)%4294967296+m.b then 1 else 0) T X Y H.lv (aaQ _ (by omega)) (by grind) (by grind);have q:=vy (post:=post) ((y+8589934592-((m.c+g*x)%4294967296+m.b))%4294967296) I (show m.i<(m.us++u.drop m.i).length by omega);rw[vC _ F (by omega)]at q;have e6:=Cp (m.c+g*x);have D:=MK (m.c+g*x);have bm:(pre++((m.us++u.drop m.i)++post)).length=h+(n+3)+post.length:=by grind
  generalize(m.c+g*x)%4294967296=lo at*
  generalize(m.c+g*x)/4294967296=hi' at*
  generalize g*x=gx at*
  generalize(if y<lo+m.b then 1 else 0:Nat)=nb at*
  generalize(y+8589934592-(lo+m.b))%4294967296=nl at*
  generalize ae:pre++((m.us++u.drop m.i)++post)=RR at*
  refine eF (k:=wm rfl (bT (fq (eF (k:=dp (aH X (aH e4 Q)) (k:=dp (aH o e6) (k:=dp (aH b1 (aH o (aH @cU q))) (k:=dp D (k:=tX b2 (k:=Kw (k:=?_)))))))))));refine⟨m',by omega,aj ⟨?_,trivial⟩ ?_⟩
  ·rw[K,L];rfl
  simp_all[wk]
 have U:m.i=n+2:=by omega
 have J:(m.us++u.drop m.i)[n+2]?=some w:=by
  have:=B8 F (show u[m.i]?=some w by rw[U];exact H.hu2);grind
 have bn:=Ca (u:=u) F (by omega);have o:=mY (post:=post) I J;have q:=fun t=>vy (post:=post) t I (show n+2<(m.us++u.drop m.i).length by omega)
 have ap: ∀t,(m.us++u.drop m.i).set (n+2) t=m.us++[t]:=fun t=>by
  grind [vC]
 simp only[ap]at q;obtain⟨b1,b2⟩:=bor w m.c m.b bu2 al ah;have bm:(pre++((m.us++u.drop m.i)++post)).length=h+(n+3)+post.length:=by grind
 by_cases an:m.c+m.b<=w
 ·have b3:(w:Int)-(m.c:Int)-(m.b:Int)=((w-(m.c+m.b):Nat):Int):=by omega
  have b4:Int.fdiv ((w-(m.c+m.b):Nat):Int) (2^(min 63 IntKind.u64.bits))=0:=by
   grind [Ig]
  have cm:w-(m.c+m.b)<4294967296:=by omega
  obtain⟨K,L⟩:=H.right m U a9 an;have hs:=q (w-(m.c+m.b));rw[L]at hs;have D:IntKind.u32.wrap (g:Int)=((natV u/natV v:Nat):Int):=by rw[Cp,K];omega
  generalize w-(m.c+m.b)=nl at*
  generalize ae:pre++((m.us++u.drop m.i)++post)=RR at*
  refine eF (k:=wl rfl (dp (aH o b3) (k:=dp (aH @J8 (aH o (aH @cU hs))) (k:=bT (dp b4 (k:=iA rfl (dp D (k:=?_))))))));refine iB ⟨.inr rfl,⟨(.one (.sl 0 0 h (n+3))::jk::jk::jk::.raw (.int .u32 ((natV u/natV v:Nat):Int))::j16 (j16 (j16 (j16 (j16 (j16 (j16 (j16 (j16 (j16 (j4 (jk::jk::[])))))))))))),Hm [(0,[⟨165,1,lc fU (pre++(bO (n+3) (natV u%natV v)++post))⟩])]⟩,aj ⟨rfl,trivial⟩ (by simp[wk]),rfl,eh _,?_⟩;simp(disch:=omega) only[kd,results213]
 rw[if_pos (by omega)]at b2;obtain⟨t,ht⟩: ∃t,t=w+4294967296-(m.c+m.b):=⟨_,rfl⟩;have bp:t<4294967296:=by omega
 rw[show(w+8589934592-(m.c+m.b))%4294967296=t by omega]at b1;have hs:=q t;have a5:Lmb (m.us++[t]):=oh m.lmb bp;have cp:(m.us++[t]).length=n+3:=by grind
 have V:=fun a af=>H.left m U ba (by omega) ht a af
 have b5:(m.us++[t])[n+2]?=some t:=by grind
 clear q ap an ht;generalize ae:pre++((m.us++u.drop m.i)++post)=RR at*
 refine eF (k:=wl rfl (dp o (k:=dp (aH b1 (aH o (aH @cU hs))) (k:=bT (dp b2 (k:=iz rfl (dM (eF (k:=bT (eF (k:=?_)))))))))));refine jq (G:=UL (m.us++[t]) v) (fun a=>⟨(.one (.sl 0 0 h (n+3))::cK v::jk::jk::jk::.raw (.int .i64 ((n+2:Nat):Int))::jk::.raw (.int .u64 (g:Int))::jk::.raw (.int .u64 (a.c:Int))::j16 (j16 (j16 (j16 (j16 (j16 (j16 (j4 (j4 (j4 (jk::.raw (.int .i64 ((n+2:Nat):Int))::rN a.i::j16 (j16 (jk::jk::[]))))))))))))),Hm [(0,[⟨165,1,lc fU (pre++((a.us++(m.us++[t]).drop a.i)++post))⟩])]⟩) (fun a=>n+2-a.i) (UL.start _ _) ?_ ?_
 ·refine aj ⟨?_,trivial⟩ ?_
  ·rfl
  simp[wk,UL.start]
 intro a;have af:=a.hi;have cc:=a.hc;have E:=a.len;generalize m.us++[t]=C at*
 have b0:=Ca (u:=C) E (by omega);have bx:(pre++((a.us++C.drop a.i)++post)).length=h+(n+3)+post.length:=by grind
 by_cases br:a.i<n+2
 ·obtain⟨x,X⟩:=getElem?_of_lt (l:=v) (k:=a.i) (by omega);obtain⟨y,Y⟩:=getElem?_of_lt (l:=C) (k:=a.i) (by omega);have av:=bW H.lv X;have a0:=bW a5 Y;have z:=mY (post:=post) I (B8 E Y);have f:=vy (post:=post) ((a.c+(y+x))%4294967296) I (show a.i<(a.us++C.drop a.i).length by omega);rw[vC _ E (by omega)]at f;obtain⟨a',K,L,q3⟩:=R9 a X Y H.lv a5;have e4:(a.c:Int)+((y:Int)+(x:Int))=((a.c+(y+x):Nat):Int):=by omega
  have e6:=Cp (a.c+(y+x));have D:=MK (a.c+(y+x));generalize(a.c+(y+x))%4294967296=nl at*
  generalize(a.c+(y+x))/4294967296=nc at*
  generalize a6:pre++((a.us++C.drop a.i)++post)=R2 at*
  refine eF (k:=wm rfl (bT (fq (eF (k:=sY (aH z (aH X e4)) (k:=dp (aH e6 (aH z (aH @cU f))) (k:=tX D (k:=Kw (k:=?_)))))))));refine⟨a',by omega,aj ⟨?_,trivial⟩ ?_⟩
  ·rw[K,L];rfl
  simp[wk,K,q3]
 have M:a.i=n+2:=by omega
 obtain⟨K,L⟩:=V a M;have z:(pre++((a.us++C.drop a.i)++post))[h+(n+2)]?=some t:=by
  have:=mY (post:=post) I (B8 E (show C[a.i]?=some t by grind));rwa[M]at this⊢
 have f:=vy (post:=post) ((t+a.c)%4294967296) I (show a.i<(a.us++C.drop a.i).length by omega);rw[vC _ E (by omega),acf.2 (show C.length<=a.i+1 by omega),abd,L,M]at f;have e4:IntKind.u32.wrap ((t:Int)+(a.c:Int))=(((t+a.c)%4294967296:Nat):Int):=by rfl
 have Q:(g:Int)-1=((natV u/natV v:Nat):Int):=by omega
 have e6:IntKind.u32.wrap ((natV u/natV v:Nat):Int)=((natV u/natV v:Nat):Int):=by grind [Cp]
 have e8:IntKind.u64.wrap ((natV u/natV v:Nat):Int)=((natV u/natV v:Nat):Int):=by
  grind [IntKind.wrap_u64]
 have a7:pre++((a.us++C.drop a.i)++post)=pre++((a.us++C.drop (n+2))++post):=by rw[M]
 generalize(t+a.c)%4294967296=nl at*
 rw[<- a7]at f;generalize a6:pre++((a.us++C.drop a.i)++post)=R2 at*
 refine eF (k:=wl rfl (dp (aH z (aH @J8 (aH e4 (aH @cU f)))) (k:=dp (aH Q (aH e8 e6)) (k:=?_))));refine iB ⟨.inr rfl,⟨(.one (.sl 0 0 h (n+3))::jk::jk::jk::.raw (.int .u32 ((natV u/natV v:Nat):Int))::j16 (j16 (j16 (j16 (j16 (j16 (j16 (j16 (j16 (j16 (j4 (jk::jk::[])))))))))))),Hm [(0,[⟨165,1,lc fU (pre++(bO (n+3) (natV u%natV v)++post))⟩])]⟩,aj ⟨rfl,trivial⟩ (by simp[wk]),rfl,eh _,?_⟩;simp(disch:=omega) only[kd,results213]
section
theorem ov: ∀(k n x:Nat),bO (k+n) x=bO k x++bO n (x/4294967296^k)
 |0,n,x=>by simp[bO]
 |k+1,n,x=>by
  rw[show k+1+n=(k+n)+1 by omega,bO,ov k n,bO,abF,aby,abj 4294967296];rfl
theorem xN: ∀(k x:Nat),bO k (x%4294967296^k)=bO k x
 |0,x=>rfl
 |k+1,x=>by
  rw[bO,bO,aby,abj (4294967296^k),Nat.mod_mul_right_mod,Nat.mod_mul_right_div_self,xN k]
theorem ry (k n x y:Nat) (b:x<4294967296^k):bO (k+n) (y*4294967296^k+x)=bO k x++bO n y:=by
 have c:0<4294967296^k:=abk (by omega);rw[ov,<- xN k (y*4294967296^k+x),abj y,adl,abP b,adk c,acK b,aa3]
theorem Ak: ∀n,bO n 0=ae n 0
 |0=>rfl
 |n+1=>by rw[bO,Nat.zero_mod,Nat.zero_div,Ak n];rfl
def eQ (A V k:Nat):Nat:=A%(V*4294967296^k)
def mi (A V k:Nat):Nat:=A/(V*4294967296^k)*4294967296^k
section
variable {A V k:Nat} (hV:0<V)
include hV
theorem PW:eQ A V (k+1)/4294967296^k<V*4294967296:=by
 have b:0<4294967296^k:=abk (by omega);rw[abH b];have:=aaQ A (show 0<V*4294967296^(k+1)from adI hV (abk (by omega)));rw[aby]at this;unfold eQ;grind
omit hV in
theorem PY:eQ A V k=eQ A V (k+1)/4294967296^k%V*4294967296^k+eQ A V (k+1)%4294967296^k:=by
 unfold eQ;have e:V*4294967296^(k+1)=V*4294967296^k*4294967296:=by grind
 have b:A%(V*4294967296^k)=A%(V*4294967296^(k+1))%(V*4294967296^k):=by simp_all
 grind [Nat.mul_comm,Nat.mod_mul]
theorem PM:mi A V k=mi A V (k+1)+eQ A V (k+1)/4294967296^k/V*4294967296^k:=by
 unfold mi eQ;have c:0<4294967296^k:=abk (by omega);have e:V*4294967296^(k+1)=V*4294967296^k*4294967296:=by grind
 have b:=ab5 A (V*4294967296^(k+1));grind [Nat.mul_assoc,Nat.mul_add_div,Nat.div_div_eq_div_mul,Nat.mul_comm]
theorem rB:eQ A V (k+1)/4294967296^k/V<4294967296:=by
 simp_all[abH,abj,PW]
end
theorem TA {A V k m:Nat} (b:0<V) (l:k<m) (h:mi A V (k+1)<4294967296^m):(bO m (mi A V (k+1))).set k (eQ A V (k+1)/4294967296^k/V)=bO m (mi A V k):=by
 have j:=rB (A:=A) (k:=k) b;rw[PM (A:=A) (k:=k) b];generalize eQ A V (k+1)/4294967296^k/V=d at*
 obtain⟨q,g⟩: ∃q,mi A V (k+1)=q*4294967296^(k+1):=⟨_,rfl⟩;rw[g];obtain⟨r,rfl⟩: ∃r,m=k+(1+r):=⟨m-(k+1),by omega⟩;have e:q*4294967296^(k+1)=(q*4294967296)*4294967296^k+0:=by grind
 have f:q*4294967296^(k+1)+d*4294967296^k=(q*4294967296+d)*4294967296^k+0:=by grind
 have c:0<4294967296^k:=abk (by omega);rw[f,ry _ _ _ _ c,e,ry _ _ _ _ c,abU _ _ (by grind [bS]),bS,abQ,abX 1 r,bO,bO,ac5];grind
theorem TL {A V k nb na:Nat} (b:k+nb<=na):bO (na+1) (eQ A V (k+1))=bO k (eQ A V (k+1))++(bO (nb+1) (eQ A V (k+1)/4294967296^k)++bO (na-(k+nb)) (eQ A V (k+1)/4294967296^(k+nb+1))):=by
 conv=>lhs;rw[show na+1=k+((nb+1)+(na-(k+nb))) by omega]
 rw[ov,ov,abF,<- abM,show k+(nb+1)=k+nb+1 by omega]
theorem PX {A V k nb na:Nat} (b:0<V) (c:V<=4294967296^nb) (l:k+nb<=na):bO k (eQ A V (k+1))++(bO (nb+1) (eQ A V (k+1)/4294967296^k%V)++bO (na-(k+nb)) (eQ A V (k+1)/4294967296^(k+nb+1)))=bO (na+1) (eQ A V k):=by
 have f:0<4294967296^k:=abk (by omega);have j:eQ A V (k+1)/4294967296^(k+nb+1)=0:=by
  apply acK;have:=aaQ A (show 0<V*4294967296^(k+1)from adI b (abk (by omega)));unfold eQ;refine aas this ?_;have e:4294967296^(k+nb+1)=4294967296^nb*4294967296^(k+1):=by grind
  simp_all[aat]
 have m:=aaQ (eQ A V (k+1)/4294967296^k) b;rw[PY (A:=A) (V:=V) (k:=k),j];generalize eQ A V (k+1)/4294967296^k%V=u at*
 rw[<- xN k (eQ A V (k+1))];have h:=aaQ (eQ A V (k+1)) f;generalize eQ A V (k+1)%4294967296^k=x at*
 have g:u<4294967296^(nb+1):=by
  omega
 rw[show na+1=k+((nb+1)+(na-(k+nb))) by omega,ry _ _ _ _ h]
 congr 1
 have:=ry (nb+1) (na-(k+nb)) u 0 g;grind
/-! The shift. -/
theorem uc: ∀(x:Nat),x≠0->x<18446744073709551616->1<=Lib.bitLen x/\2^(Lib.bitLen x-1)<=x/\x<2^Lib.bitLen x:=fun x=>by
 induction x using Nat.strongRecOn with
 |_ x h=>
  intro c g;have f:=Lib.bitLen_half x c g;by_cases e:x/2=0
  ·have b:x=1:=by omega
   subst b;have:Lib.bitLen 1=1:=by decide
   grind
  obtain⟨j,l,m⟩:=h (x/2) (by omega) e (by omega);rw[f];refine⟨by omega,?_,?_⟩
  ·rw[show 1+Lib.bitLen (x/2)-1=(Lib.bitLen (x/2)-1)+1 by omega,aby];omega
  grind
def lz (x:Nat):Nat:=32-Lib.bitLen x
theorem S6 (b: n ≠ 0) (h: n < 4294967296) : lz n < 32 /\ 2147483648 <= n * 2 ^ lz n /\ n * 2 ^ lz n < 4294967296 := by
  obtain ⟨f, c, e⟩ := uc n b (by omega);have g := Lib.bitLen_le n 32 (by omega) (by omega);unfold lz;refine ⟨by omega, ?_, ?_⟩
  · calc 2147483648 = 2 ^ (Lib.bitLen n - 1) * 2 ^ (32 - Lib.bitLen n) := by
          rw [<- abM, show Lib.bitLen n - 1 + (32 - Lib.bitLen n) = 31 by omega]
      _ <= _ := aat _ c
  · calc n * 2 ^ (32 - Lib.bitLen n) < 2 ^ Lib.bitLen n * 2 ^ (32 - Lib.bitLen n) := aco e (adm _)
      _ = 4294967296 := by rw [<- abM, show Lib.bitLen n + (32 - Lib.bitLen n) = 32 by omega]
theorem TZ (r: (au n).length = m + 1) (p: (au n)[m]? = some j) (g: 2147483648 <= j * 2 ^ c /\ j * 2 ^ c < 4294967296) (f: c < 32) :
    n * 2 ^ c < 4294967296 ^ (m + 1) /\ 2147483648 * 4294967296 ^ m <= n * 2 ^ c := by
  have h := bj p;rw [aar (by omega), az] at h;have q := fd (aE n) m;have t : 0 < 4294967296 ^ m := abk (by omega);have o := Ea f;constructor
  · -- n < (j + 1) B^m, and (j + 1) 2^c <= B, for j 2^c < B and 2^c divides B
    have l : (j + 1) * 2 ^ c <= 4294967296 := by
      have e : 4294967296 = 2 ^ (32 - c) * 2 ^ c := by rw [<- abM, show 32 - c + c = 32 by omega]
      rw [e] at g ⊢;exact aat _ (acu g.2)
    calc n * 2 ^ c < (j + 1) * 4294967296 ^ m * 2 ^ c := by
          refine aco ?_ (adm c);grind
      _ = (j + 1) * 2 ^ c * 4294967296 ^ m := by grind
      _ <= 4294967296 * 4294967296 ^ m := aat _ l
      _ = 4294967296 ^ (m + 1) := by omega
  · calc 2147483648 * 4294967296 ^ m <= j * 2 ^ c * 4294967296 ^ m := aat _ g.1
      _ = j * 4294967296 ^ m * 2 ^ c := by grind
      _ <= n * 2 ^ c := aat _ (by omega)
end
theorem WM {A k:Nat} (b:n<4294967296^(m+2)) (f:2147483648*4294967296^(m+1)<=n): ∃o p l j h,yG (bO (m+3) (eQ A n (k+1)/4294967296^k)) (bO (m+2) n) m o p l j h/\natV (bO (m+3) (eQ A n (k+1)/4294967296^k))=eQ A n (k+1)/4294967296^k/\natV (bO (m+2) n)=n:=by
 have g:0<4294967296^(m+1):=abk (by omega);have e:0<n:=by omega
 have r:=PW (A:=A) (k:=k) e;have c:eQ A n (k+1)/4294967296^k<4294967296^(m+3):=by
  grind
 refine⟨_,_,_,_,_,⟨og _ _,og _ _,bS _ _,bS _ _,iL (by omega),iL (by omega),iL (by omega),iL (by omega),iL (by omega),?_,?_⟩,iK c,iK b⟩
 ·have q:n/4294967296^(m+1)<4294967296:=by
   rw[abH g];grind
  simp_all[abP,ada]
 grind [iK]
theorem LO {a s:Nat} (f:a<4294967296^(m+2+j)) (h:4294967296^(m+1)<=n):eQ (a*2^s) (n*2^s) (j+1)=a*2^s/\mi (a*2^s) (n*2^s) (j+1)=0:=by
 have g:a*2^s<n*2^s*4294967296^(j+1):=by
  have c:4294967296^(m+2+j)<=n*4294967296^(j+1):=by
   have e:4294967296^(m+2+j)=4294967296^(m+1)*4294967296^(j+1):=by grind
   simp_all[aat]
  rw[aet];exact aco (aas f c) (adm s)
 grind [eQ,mi,Nat.mod_eq_of_lt,Nat.div_eq_of_lt]
theorem TK {a b s:Nat}:eQ (a*2^s) (b*2^s) 0=a%b*2^s/\mi (a*2^s) (b*2^s) 0=a/b:=by
 grind [eQ,mi,Nat.mul_mod_mul_right,Nat.mul_div_mul_right]
theorem W7 {k:Nat} (c:n<m*4294967296^j) (f:k<=j):mi n m k<4294967296^j:=by
 have g:0<4294967296^k:=abk (by omega);unfold mi;have b:n/(m*4294967296^k)<4294967296^(j-k):=by
  rw[<- abF];apply acD;apply acD;have e:4294967296^j=4294967296^k*4294967296^(j-k):=by rw[<- abM];grind
  grind
 have e:4294967296^j=4294967296^(j-k)*4294967296^k:=by rw[<- abM];grind
 simp_all
theorem EN {n:Nat} (h:(au m).length=n+1): ∃x,(au m)[n]?=some x/\x≠0/\x<4294967296/\4294967296^n<=m:=by
 obtain⟨x,c⟩: ∃x,(au m)[n]?=some x:=⟨(au m)[n],by simp[h]⟩;have f:=b7 m;unfold uW at f;rw[List.getLast?_eq_getElem?,h,Nat.add_sub_cancel,c]at f;have g:x≠0:=fun e=>f (by rw[e])
 have j:=bj c;rw[aar (by omega),az]at j;refine⟨x,c,g,bW (aE m) c,?_⟩;rw[j];have:1*4294967296^n<=x*4294967296^n:=aat _ (by omega);omega
theorem Lb (h:(au m).length=1):(au m)[0]?=some m/\m<4294967296:=by
 obtain⟨x,c,_,e,_⟩:=EN (n:=0) h;have f:=bj c;grind [az,natV]
theorem DO (a:Nat):a<4294967296^(au a).length:=by
 grind [fH,aE,az]
theorem LF {x:Nat} (h:n<=m):(bO m x).take n=bO n x:=by
 obtain⟨d,rfl⟩: ∃d,m=n+d:=⟨m-n,by omega⟩;simp_all[ov,bS]
theorem YR (x:Nat) (h:x<4294967296):CallC prog 211 [.raw (.int .u32 (x:Int))] ⟨[],.raw (.int .i64 (lz x:Int))⟩:=by
 refine lZ (by kernel_rfl) fun X w vs o f c=>?_
 obtain⟨q,m,g⟩:=wA c (j:=0) rfl;obtain⟨rfl,_⟩:=aV (ρ:=fun _ _=>none) (H:=fun _=>[]) g;obtain rfl:vs= #[.int .u32 (x:Int)]:=by
  grind
 have p:=Lib.bitLen_le x 32 (by omega) (by omega);have e:(32-(Lib.bitLen (x:Int).toNat:Int))=(lz x:Int):=by grind [lz]
 have:=Any.bits_LeadingZeros32 Tryz.lays133 (x:Int) w (by omega) (by omega);rw[e]at this;exact this.mono fun e r ⟨b,n⟩=>⟨_,b,fun l H Y=>bZ rfl,by grind [Ext.refl]⟩
theorem KF {P:Program} {args:List TV} (U:0<b.length) (L:callable P e=true) (h: ∀(X:Nat->Prop) (w:World) (vs:Array Value),(∀m,X m->m<w.heap.size)->vs.size=args.length-> (∀(j:Nat) t,args[j]?=some t-> ∃v:Value,vs[j]?=some v/\t.rel (fun _ _=>none) (fun _=>[]) X w v)->Calls P e vs w fun p E=> ∃v,p= .returned v/\E.ownsRow w.heap.size 165 1 v b.length ((b.map fun n:Nat=>(n:Int)).map (Value.int .u32))/\Ext w E):CallC P e args ⟨[⟨165,1,lc fU b⟩],.one (.sl 0 0 0 b.length)⟩:=
 ⟨L,fun X w vs F C K=>(h X w vs F C K).mono fun p E ⟨v,I,⟨_,J⟩,u⟩=>by
  rcases J with⟨_,V⟩|⟨g,cap,cur,Y,T,M,B,A,O,W⟩
  ·omega
  have H:rho1 g cap 0 0=some (g,cap):=by simp[rho1]
  have y: ∀(i:Nat) z,b[i]?=some z->cur[i]?=some (.int .u32 (z:Int)):=fun i z Q=>by
   have u:((b.map fun n:Nat=>(n:Int)).map (Value.int .u32))[i]?=some (.int .u32 (z:Int)):=by grind
   grind
  refine⟨v,I,rho1 g cap,⟨Dw u,fun a r o s=>?_,fun a r R r' o Z m c S s N _ _=>?_,fun a r o m c s G=>?_,fun m G=>aas (F m G) u.size,fun a r o s=>?_⟩,?_⟩
  ·obtain⟨rfl,rfl,rfl⟩:=s8 s;refine⟨fun p q=>?_,Nat.zero_lt_one,?_⟩
   ·obtain⟨z,_,rfl⟩:=aai.1 q;rfl
   rw[H];refine⟨cur,M,O,by grind [kC],A,fun i p j x q D=>?_⟩;simp only at q;rw[Bu]at q;obtain⟨z,Q,rfl⟩:=u6.1 q;cases j with
   |succ j=>simp[fU]at D
   |zero=>
    simp[fU]at D;subst D;exact⟨.int .u32 (z:Int),by grind,rfl,bQ.raw _ rfl⟩
  ·grind [s8]
  ·grind [s8]
  ·grind [s8,dE,ez]
  exact⟨_,rfl,by simp[kC],.inr ⟨g,cap,cap,H,by omega,B,fun _=>rfl⟩⟩⟩
theorem K2 (l:List Nat) (e:0<l.length) (r:l.length<=1073741824):CallC prog 209 [cK l] ⟨[⟨165,1,lc fU l⟩],.one (.sl 0 0 0 l.length)⟩:=by
 refine KF e (by kernel_rfl) fun X w vs p g f=>?_
 obtain⟨s,m,h⟩:=wA f (j:=0) rfl;obtain⟨A,c,rfl,q,o⟩:=JE h;obtain rfl:vs= #[.slice A l.length c]:=by
  grind
 have b:(l.map fun n:Nat=>(n:Int)).length=l.length:=aa0 _;grind [wN]
theorem Ou (a:Int) (c:0<=a) (b:a<=4611686018427387904):CallC prog 185 [.raw (.int .u64 a)] ⟨[],.raw (.int .i64 (Lib.bitLen a.toNat:Int))⟩:=by
 refine lZ (by kernel_rfl) fun X w vs o h g=>?_
 obtain⟨p,n,l⟩:=wA g (j:=0) rfl;obtain⟨rfl,_⟩:=aV (ρ:=fun _ _=>none) (H:=fun _=>[]) l;obtain rfl:vs= #[.int .u64 a]:=by
  grind
 exact(Any.bits_Len64 Tryz.lays129 a w c (by omega)).mono fun e q ⟨b,f⟩=>⟨_,b,fun m H Y=>bZ rfl,by rw[f];exact Ext.refl _⟩
/-! Newton's steps. -/
theorem Ox:isqF 0=0:=(dx (acp 0)).uniq ⟨acp _,by decide,by decide⟩
theorem n4 {a:Int} (c:0<=a) (e:a<=4611686018427387904):0<=isqF a/\isqF a<=2147483648:=by
 obtain⟨b,f,g⟩:=dx c;refine⟨b,ab8 fun h=>?_⟩;have:=aa9 (show 2147483649<=isqF a by omega) (show 2147483649<=isqF a by omega) (by omega) b;omega
theorem Lr {a r:Int} (c:Kb a x) (b:0<r):x<=(r+a/r)/2:=by
 obtain⟨l,m,n⟩:=c;refine ad5 (by omega) (ab8 fun h=>?_);have e:a/r<=2*x-1-r:=by omega
 have f:a<(a/r+1)*r:=ack a b;have g:(a/r+1)*r<=(2*x-r)*r:=abs (by omega) (by omega);have j:0<=(x-r)*(x-r):=by
  rcases acm 0 (x-r)with h|h
  ·exact aaZ h h
  exact aa4 h h
 grind
theorem GN {a r:Int} (f:Kb a x) (b:0<r) (g:x<=r) (h:r<=(r+a/r)/2):r=x:=by
 have c:r<=a/r:=by omega
 have e:r*r<=a:=(acl b).1 c;have:=(qV f).1 e;omega
theorem BH {a:Int} (c:0<a) (e:a<=4611686018427387904):(Lib.bitLen a.toNat:Int)<=63/\isqF a<=((2^((Lib.bitLen a.toNat+1)/2):Nat):Int)/\2^((Lib.bitLen a.toNat+1)/2)<=4294967296:=by
 have j:=Lib.bitLen_le a.toNat 63 (by omega) (by
  omega)
 have l:a.toNat<2^Lib.bitLen a.toNat:=(uc a.toNat (by omega) (by omega)).2.2;obtain⟨b,o,q⟩:=dx (show 0<=a by omega);refine⟨by omega,?_,?_⟩
 ·generalize n:(Lib.bitLen a.toNat+1)/2=m at*
  refine ab8 fun h=>?_
  have f:a.toNat<2^m*2^m:=by
   rw[<- abM];grind [Nat.lt_of_lt_of_le,Nat.pow_le_pow_right]
  generalize 2^m=p at*
  have g:=aa9 (show(p:Int)<=isqF a by omega) (show(p:Int)<=isqF a by omega) (by omega) b;omega
 exact aaE (by omega) (show(Lib.bitLen a.toNat+1)/2<=32 by omega)
structure NwG (a:Int) where
 r:Nat
 h0:0<r
 h1:isqF a<=(r:Int)
 h2:r<=4294967296
theorem YO {a:Int} (c:0<x):a/x=if Int.tmod a x<0 then Int.tdiv a x-1 else Int.tdiv a x:=by
 have e:=Int.mul_tdiv_add_tmod a x;have f:=Int.tmod_lt_of_pos a c;have g: -x<Int.tmod a x:=by
  simp_all[Int.lt_tmod_of_pos]
 split
 ·rename_i h;refine(adg (r:=Int.tmod a x+x) c).2 ⟨?_,by omega,by omega⟩|>.1;grind
 rename_i h;exact((adg (r:=Int.tmod a x) c).2 ⟨by omega,by omega,by omega⟩).1
theorem x4 (x:e=189\/e=140\/e=144) (a:Int) (j:0<=a) (w:a<=4611686018427387904):CallC prog e [.raw (.int .i64 a)] ⟨[],.raw (.int .i64 (isqF a))⟩:=by
 by_cases P:a=0
 ·subst P;rw[Ox];rcases x with rfl|rfl|rfl
  all_goals
   first
   |(refine fk func189 rfl (by kernel_rfl) ?_;rw[ntmps189])
   |(refine fk func140 rfl (by kernel_rfl) ?_;rw[ntmps140])
   |(refine fk func144 rfl (by kernel_rfl) ?_;rw[ntmps144])
   (first|refine ax fun _ K=>?_|refine ai (ax fun _ K=>?_)|refine ai (ai (ax fun _ K=>?_)));simp only[kd,ae];apply K
   (first|refine ax fun _ K=>?_|refine ai (ax fun _ K=>?_)|refine ai (ai (ax fun _ K=>?_)));simp(disch:=omega) only[kd];apply K
   first|refine aC rfl ?_|refine aZ rfl (fun _=>?_) (fun h=>by simp at h<;>omega)
   (first|refine ax fun _ K=>?_|refine ai (ax fun _ K=>?_)|refine ai (ai (ax fun _ K=>?_)));simp only[kd];apply K
   (refine aW ⟨.inr rfl,cd rfl ?_ rfl⟩;simp(disch:=omega) only[kd,results189,results140,results144])
 obtain⟨Q,A,B⟩:=BH (show 0<a by omega) w;have c:=dx j;have N:0<isqF a:=by
  obtain⟨T,U,V⟩:=c;grind
 have l:=Ou a j w;generalize Lib.bitLen a.toNat=L at*
 have C:IntKind.u64.wrap a=a:=by rw[abb];omega
 have D:Int.tdiv ((L:Int)+1) 2=(((L+1)/2:Nat):Int):=by rfl
 generalize S:(L+1)/2=m at*
 have y:m<=32:=by omega
 have E:IntKind.i64.wrap (2^min m IntKind.i64.bits)=((2^m:Nat):Int):=by
  rw[show min m IntKind.i64.bits=m from ac3 (show m<=64 by omega),show(2:Int)^m=((2^m:Nat):Int)from(Int.natCast_pow 2 m).symm];grind [aR]
 have o:0<2^m:=abk (by omega);generalize 2^m=p at*
 rcases x with rfl|rfl|rfl
 all_goals
  first
  |(refine fk func189 rfl (by kernel_rfl) ?_;rw[ntmps189])
  |(refine fk func140 rfl (by kernel_rfl) ?_;rw[ntmps140])
  |(refine fk func144 rfl (by kernel_rfl) ?_;rw[ntmps144])
  (first|refine ax fun _ K=>?_|refine ai (ax fun _ K=>?_)|refine ai (ai (ax fun _ K=>?_)));simp only[kd,ae];apply K
  (first|refine ax fun _ K=>?_|refine ai (ax fun _ K=>?_)|refine ai (ai (ax fun _ K=>?_)));simp(disch:=omega) only[kd];apply K
  first|refine aq rfl (ak ?_)|refine aZ rfl (fun h=>by simp at h<;>omega) (fun _=>ak ?_)
  show bo _ _ _ _
  (first|refine bC [⟨2,_,_,_,l⟩] [] fun _ K=>?_|refine ai (bC [⟨2,_,_,_,l⟩] [] fun _ K=>?_)|refine ai (ai (bC [⟨2,_,_,_,l⟩] [] fun _ K=>?_)));simp(disch:=omega) only[kd,aa,C,aR,D,aeL,E];apply K
  refine aF (G:=NwG a) (fun g=>⟨(.raw (.int .i64 a)::jk::jk::rN g.r::j16 (j4 ([]))),Hm []⟩) (fun g=>g.r) ⟨p,o,A,B⟩ ?_ ?_
  ·refine aj trivial ?_;simp[wk]
  rintro⟨r,J,s,M⟩;simp only;have n:=Lr (r:=(r:Int)) c (by omega);have H:0<=a/(r:Int):=abW j (by omega);have I:a/(r:Int)<=a:=acX _ j;have F:Int.tdiv a (r:Int)=a/(r:Int):=abB j;have v:Int.tdiv ((r:Int)+a/(r:Int)) 2=((r:Int)+a/(r:Int))/2:=abB (by omega);have b:=GN (r:=(r:Int)) c (by omega) s;have z:((r:Int)=0)=False:=eq_false (by omega);generalize a/(r:Int)=q at*
  obtain⟨t,O⟩: ∃t:Nat,((r:Int)+q)/2=(t:Int):=aaP (by omega);rw[O]at n b v;refine am ?_
  (first|refine ax fun _ K=>?_|refine ai (ax fun _ K=>?_)|refine ai (ai (ax fun _ K=>?_)));simp(disch:=omega) only[kd,aa,F,aR,v];apply K
  by_cases R:r<=t
  ·have u:=b (by omega)
   (first|refine ax fun _ K=>?_|refine ai (ax fun _ K=>?_)|refine ai (ai (ax fun _ K=>?_)));simp(disch:=omega) only[kd,aa];apply K
   first|refine aC rfl ?_|refine aZ rfl (fun _=>?_) (fun h=>by simp at h<;>omega)
   (first|refine ax fun _ K=>?_|refine ai (ax fun _ K=>?_)|refine ai (ai (ax fun _ K=>?_)));simp only[kd];apply K
   rw[u]
   (refine aW ⟨.inr rfl,cd rfl ?_ rfl⟩;simp(disch:=omega) only[kd,results189,results140,results144])
  (first|refine ax fun _ K=>?_|refine ai (ax fun _ K=>?_)|refine ai (ai (ax fun _ K=>?_)));simp(disch:=omega) only[kd,aa];apply K
  first|refine aq rfl (ak ?_)|refine aZ rfl (fun h=>by simp at h<;>omega) (fun _=>ak ?_)
  show bo _ _ _ _;refine ZJ (k:=?_);refine⟨⟨t,by omega,by omega,by omega⟩,by grind,aj trivial ?_⟩;simp[wk]
theorem oP (p:e=223\/e=141\/e=148) (a b:Int) (n:0<b) (o:b<=4611686018427387904) (s: -4611686018427387904<=a) (t:a<=4611686018427387904):CallC prog e [.raw (.int .i64 a),.raw (.int .i64 b)] ⟨[],.raw (.int .i64 (a/b))⟩:=by
 have c:=YO (a:=a) n;have u:(Int.tdiv a b).natAbs<=a.natAbs:=by
  rw[Int.natAbs_tdiv];exact acx _ _
 have g:(b=0)=False:=eq_false (by omega);rw[c];generalize r:Int.tdiv a b=q at*
 generalize l:Int.tmod a b=m at*
 rcases p with rfl|rfl|rfl
 all_goals
  first
  |(refine fk func223 rfl (by kernel_rfl) ?_;rw[ntmps223])
  |(refine fk func141 rfl (by kernel_rfl) ?_;rw[ntmps141])
  |(refine fk func148 rfl (by kernel_rfl) ?_;rw[ntmps148])
  (first|refine ax fun _ K=>?_|refine ai (ax fun _ K=>?_)|refine ai (ai (ax fun _ K=>?_)));simp only[kd,aa,ae];apply K
  (first|refine ax fun _ K=>?_|refine ai (ax fun _ K=>?_)|refine ai (ai (ax fun _ K=>?_)));simp(disch:=omega) only[kd,aa,r,aR];apply K
  by_cases j:m<0
  ·rw[if_pos j]
   (first|refine ax fun _ K=>?_|refine ai (ax fun _ K=>?_)|refine ai (ai (ax fun _ K=>?_)));simp(disch:=omega) only[kd,aa,l];apply K
   first|refine aC rfl ?_|refine aZ rfl (fun _=>?_) (fun h=>by simp at h<;>omega)
   refine bL (k:=?_);show bo _ _ _ _
   (first|refine ax fun _ K=>?_|refine ai (ax fun _ K=>?_)|refine ai (ai (ax fun _ K=>?_)));simp only[kd];apply K
   (refine aW ⟨.inr rfl,cd rfl ?_ rfl⟩;simp(disch:=omega) only[kd,results223,results141,results148])
  rw[if_neg j]
  (first|refine ax fun _ K=>?_|refine ai (ax fun _ K=>?_)|refine ai (ai (ax fun _ K=>?_)));simp(disch:=omega) only[kd,aa,l];apply K
  first|refine aq rfl (ak ?_)|refine aZ rfl (fun h=>by simp at h<;>omega) (fun _=>ak ?_)
  show bo _ _ _ _
  (first|refine ax fun _ K=>?_|refine ai (ax fun _ K=>?_)|refine ai (ai (ax fun _ K=>?_)));simp only[kd];apply K
  (refine aW ⟨.inr rfl,cd rfl ?_ rfl⟩;simp(disch:=omega) only[kd,results223,results141,results148])
def fl (c:Nat) (g:FF):Nat->Int:=fun k=>g (k/c) (k%c)
theorem YN (g:FF) {i:Nat} (b:m<n):fl n g (i*n+m)=g i m:=by
 grind [fl,Be]
theorem qO {e:FF} (h: ∀a b,a<n->b<m->f a b=e a b):aQ (n*m) (fl m f)=aQ (n*m) (fl m e):=eB fun k l=>by
 have j:0<m:=by
  grind
 exact h _ _ (acD (by grind)) (aaQ _ j)
theorem Oh {n c i:Nat} (g:FF) {v:Int} (p:i<n) (b:m<c):(aQ (n*c) (fl c g)).set (i*c+m) v=aQ (n*c) (fl c (upd g i m v)):=by
 rw[mn];refine eB fun k q=>?_
 have l:0<c:=by omega
 unfold fl upd;by_cases h:k=i*c+m
 ·subst h;have h:=Be (i:=i) (j:=m) (sz:=c) b;simp_all
 rw[if_neg h];by_cases e:k/c=i
 ·have f:k%c≠m:=fun o=>h (by
   grind [Nat.div_add_mod])
  simp_all
 grind
theorem Jg (l:List Int) (k:Nat) (v:Int):(lc fZ l).set k [.p (.raw (.bool (decide (v<0)))),.p (.sl (ls fU (au v.natAbs)))]=lc fZ (l.set k v):=by
 rw[<- tg];rfl
def Hj (d n c i:Nat):List (List AV):=(List.range n).map fun k=>if k<i then[.sl d 1 (k*c) c]else[.p (.sl [])]
def Ck (d n c i:Nat) (g:FF):List OObj:=[⟨85,1,Hj d n c i⟩,⟨65,2,lc fZ (aQ (n*c) (fl c g))⟩]
theorem Cl (d n c i:Nat):(Hj d n c i).length=n:=by simp[Hj]
theorem pg {d n c i k:Nat} (h:k<n):(Hj d n c i)[k]?=some (if k<i then[.sl d 1 (k*c) c]else[.p (.sl [])]):=by
 grind [Hj]
theorem JY {d n c i:Nat}:(Hj d n c i).set i [.sl d 1 (i*c) c]=Hj d n c (i+1):=by
 apply aay;grind [Cl,pg]
theorem EL (d n c:Nat):([⟨85,1,ae n [.raw (.slice none 0 0)]⟩]:List OObj).map zO=[⟨85,1,Hj d n c 0⟩]:=by
 simp[zO,Hj,E6,Fe,List.map_const']
theorem J1 (n c:Nat) (g:FF):([⟨65,2,ae (n*c) [.raw (.bool false),.raw (.slice none 0 0)]⟩]:List OObj).map zO=[⟨65,2,lc fZ (aQ (n*c) (fl c (part g 0 0)))⟩]:=by
 have b:aQ (n*c) (fl c (part g 0 0))=ae (n*c) 0:=by
  apply aay;grind [aB,fl,part,aI]
 simp[b,zO,lc,fZ,E6,Fe,ce,ls]
theorem EK (g d n c:Nat):dS ⟨g,1,Hj d n c 0⟩:=fun e b x f=>by
 simp only[Hj,aai]at b;obtain⟨k,_,rfl⟩:=b;simp at f;subst f;rfl
theorem JZ {H:OH} {d i:Nat} (h:H d=Ck d n m i f):uQ H d:=fun r o b e l x j=>by
 rw[h]at b
 match r,b with
 |0,b=>
  simp[Ck]at b;subst b;simp only[Hj,aai]at l;obtain⟨k,_,rfl⟩:=l;split at j
  ·simp at j;subst j;exact .inr ⟨1,_,_,⟨65,2,lc fZ (aQ (n*m) (fl m f))⟩,rfl,by rw[h];rfl,bF _ _ _⟩
  simp at j;subst j;exact .inl rfl
 |1,b=>
  simp[Ck]at b;subst b;exact .inl (bF _ _ _ e l x j)
 |r+2,b=>simp[Ck]at b
theorem LP {i:Nat} (g:FF) (b:i<n):((aQ (n*m) (fl m g)).take (i*m+m)).drop (i*m)=aQ m (g i):=by
 have e:i*m+m<=n*m:=by
  have:=aat m b;grind
 apply aay;grind [aB,YN,aI]
theorem QD {H:OH} {c:Nat} (_hc:1<=c) (h:H 5016=Ck 5016 n c n f):fc H 5016 (.one (.sl 5016 0 0 n))= .one (.p (.sl (ls (fR fZ) (mat n c f)))):=by
 have e:(H 5016)[0]?=some ⟨85,1,Hj 5016 n c n⟩:=by rw[h];rfl
 have j:(H 5016)[1]?=some ⟨65,2,lc fZ (aQ (n*c) (fl c f))⟩:=by rw[h];rfl
 simp only[fc,dN,if_true,e]
 congr 3
 rw[aaO,abL,aar (by grind [Cl])];apply aay;intro k;rw[u9,fX];by_cases b:k<n
 ·rw[pg b,if_pos b,bE c f b];simp only[aaT,aaC,aaR,nr,j,gR,Bt,LP f b,oS];rfl
 grind [Cl,aU]
theorem Uc (h:FuncId) (f:List PV) (n c:Nat) (g:FF) (I:1<=n) (F:n<=16) (r:1<=c) (C:c<=16)
  (D: ∀i j,i<n->j<c->CallC prog h [.raw (.int .i64 (i:Int)),.raw (.int .i64 (j:Int)),.one (.p (.ptr f))] ⟨[],tZ (g i j)⟩):
  CallC prog 234 [.raw (.int .i64 (n:Int)),.raw (.int .i64 (c:Int)),.fn h [.p (.ptr f)]] ⟨[],dF (mat n c g)⟩:=by
 have M:n*c<=256:=aaj (aaU F C) (by omega);have u:IntKind.i64.wrap ((n:Int)*(c:Int))=((n*c:Nat):Int):=by grind [aR]
 refine ay func234 rfl ntmps234 (aA (k:=aK u (k:=ar (k:=?_))));refine bo.weak ((gQ 14).trans ((gQ 16).trans ((lU 16 14 5016 (oa:=⟨85,1,Hj 5016 n c 0⟩) (oe:=⟨65,2,lc fZ (aQ (n*c) (fl c (part g 0 0)))⟩) ?_ ?_ rfl (EK _ _ _ _) (bF _ _ _) (by omega) (by omega) (by omega)).trans (aj (tm:=(jk::rN c::.fn h [.p (.ptr f)]::j4 (.one (.sl 5016 1 0 (n*c))::.one (.sl 5016 0 0 n)::j16 (j16 (j16 (jk::jk::[])))))) (l:=[(5016,Ck 5016 n c 0 (part g 0 0))]) ⟨rfl,trivial⟩ ?_)))) ?_
 ·exact EL 5016 n c
 ·exact J1 n c g
 ·simp_all[wk,mW,fY,pG]
 simp only[Ck];refine ai (bz (k:=?_));refine aF (G:=jo n) (fun q=>⟨(jk::rN c::.fn h [.p (.ptr f)]::j4 (.one (.sl 5016 1 0 (n*c))::.one (.sl 5016 0 0 n)::j4 (j4 (.one (.sl 5016 0 0 n)::rN n::rN q.i::j16 (j16 (j4 (jk::jk::jk::[]))))))),Hm [(5016,Ck 5016 n c q.i (part g q.i 0))]⟩) (fun q=>n-q.i) ⟨0,by omega⟩ ?_ ?_
 ·refine aj ⟨rfl,trivial⟩ ?_;simp[wk]
 rintro⟨i,N⟩;simp only;by_cases m:i<n
 ·have J:i*c<(i+1)*c:=by grind
  have K:(i+1)*c<=n*c:=aat _ m;have L:(i+1)*c-i*c=c:=by grind
  have w:IntKind.i64.wrap ((i:Int)*(c:Int))=((i*c:Nat):Int):=by grind [aR]
  have x:IntKind.i64.wrap (((i:Int)+1)*(c:Int))=(((i+1)*c:Nat):Int):=by
   grind [aR]
  have t1:=pg (d:=5016) (n:=n) (c:=c) (i:=i) m;rw[if_neg (aen i)]at t1;have t2:=JY (d:=5016) (n:=n) (c:=c) (i:=i);have t3:=pg (d:=5016) (n:=n) (c:=c) (i:=i+1) (k:=i) m;rw[if_pos (adT i)]at t3;refine ar (k:=bi rfl (ai (am (bz (k:=?_)))));simp only[Ck];refine aK (aH w (aH x (aH J (aH K (aH L (aH t1 t2)))))) (k:=aK t3 (k:=?_));refine aF (G:=jo c) (fun q=>⟨(jk::rN c::.fn h [.p (.ptr f)]::j4 (.one (.sl 5016 1 0 (n*c))::.one (.sl 5016 0 0 n)::rN i::j4 (jk::jk::jk::.one (.sl 5016 0 0 n)::rN n::rN i::j16 (j4 (jk::jk::rN c::rN q.i::j4 (j4 (j4 (jk::jk::jk::[])))))))),Hm [(5016,Ck 5016 n c (i+1) (part g i q.i))]⟩) (fun q=>c-q.i) ⟨0,by omega⟩ ?_ ?_
  ·refine aj ⟨rfl,trivial⟩ ?_;simp[wk]
  rintro⟨j,O⟩;simp only;by_cases o:j<c
  ·have A:=D i j m o;have E:i*c+j<n*c:=by omega
   have y:=aB (fl c (part g i j)) E;have z:=Oh (n:=n) (c:=c) (part g i j) (v:=g i j) m o;refine ar (k:=bi rfl (ai (am (bz (k:=?_)))));simp only[Ck];refine gf [⟨8,_,_,_,A⟩] (aH t3 (aH y (aH @Jg z))) (k:=bL (k:=?_));refine⟨⟨j+1,by omega⟩,by grind,aj ⟨?_,trivial⟩ ?_⟩
   ·show[_,_]=[_,_];grind [qO,io]
   simp[wk]
  have t:j=c:=by omega
  subst t;refine ar (k:=bv rfl (bL (k:=?_)));refine⟨⟨i+1,by omega⟩,by grind,aj ⟨?_,trivial⟩ ?_⟩
  ·show[_,_]=[_,_];grind [qO,jK]
  simp[wk]
 have s:i=n:=by omega
 subst s;refine ar (k:=bv rfl (bz (k:=?_)));refine bo.weak ((bH 5016 (JZ rfl)).trans (aj (tm:=(j4 (jk::jk::dF (mat i c g)::j16 (j16 (j16 (j4 ([]))))))) (l:=[]) trivial ?_)) ?_
 ·have e:=QD (c:=c) (H:=Hm [(5016,Ck 5016 i c i (part g i 0))]) r rfl;rw[gu fun a b B _=>jJ g a b B]at e;simp[wk];exact e.symm
 (refine aW ⟨.inr rfl,cd rfl ?_ rfl⟩;simp(disch:=omega) only[kd,results234,dF])
theorem Ud (m:FuncId) (f:List PV) (b:Nat) (w:TypeId) (h:List PV) (n c:Nat) (g:FF) (L:1<=n) (J:n<=16) (s:1<=c) (E:c<=16)
  (F: ∀i j,i<n->j<c->CallT prog b w m [.raw (.int .i64 (i:Int)),.raw (.int .i64 (j:Int)),.one (.p (.ptr f)),.raw (.pointer (some ⟨b,0,none⟩))] h ⟨[],tZ (g i j)⟩ h):
  CallT prog b w 234 [.raw (.int .i64 (n:Int)),.raw (.int .i64 (c:Int)),.fn m [.p (.ptr f),.p (.raw (.pointer (some ⟨b,0,none⟩)))]] h ⟨[],dF (mat n c g)⟩ h:=by
 have P:n*c<=256:=aaj (aaU J E) (by omega);have x:IntKind.i64.wrap ((n:Int)*(c:Int))=((n*c:Nat):Int):=by grind [aR]
 refine kA func234 rfl (by kernel_rfl) ?_;rw[ntmps234];refine US (k:=kP x (k:=db (k:=?_)));refine dW.weak ((gQ 14).trans ((gQ 16).trans ((lU 16 14 5016 (oa:=⟨85,1,Hj 5016 n c 0⟩) (oe:=⟨65,2,lc fZ (aQ (n*c) (fl c (part g 0 0)))⟩) ?_ ?_ rfl (EK _ _ _ _) (bF _ _ _) (by omega) (by omega) (by omega)).trans (aj (tm:=(jk::rN c::.fn m [.p (.ptr f),.p (.raw (.pointer (some ⟨b,0,none⟩)))]::j4 (.one (.sl 5016 1 0 (n*c))::.one (.sl 5016 0 0 n)::j16 (j16 (j16 (jk::jk::[])))))) (l:=[(5016,Ck 5016 n c 0 (part g 0 0))]) ⟨rfl,trivial⟩ ?_)))) ?_
 ·exact EL 5016 n c
 ·exact J1 n c g
 ·simp_all[wk,mW,fY,pG]
 simp only[Ck];refine b8 (db (k:=?_));refine kv (G:=jo n) (fun q=>⟨(jk::rN c::.fn m [.p (.ptr f),.p (.raw (.pointer (some ⟨b,0,none⟩)))]::j4 (.one (.sl 5016 1 0 (n*c))::.one (.sl 5016 0 0 n)::j4 (j4 (.one (.sl 5016 0 0 n)::rN n::rN q.i::j16 (j16 (j4 (jk::jk::jk::[]))))))),Hm [(5016,Ck 5016 n c q.i (part g q.i 0))]⟩) (fun _=>h) (fun q=>n-q.i) ⟨0,by omega⟩ ?_ rfl ?_
 ·refine aj ⟨rfl,trivial⟩ ?_;simp[wk]
 rintro⟨i,Q⟩;simp only;by_cases o:i<n
 ·have M:i*c<(i+1)*c:=by grind
  have N:(i+1)*c<=n*c:=aat _ o;have O:(i+1)*c-i*c=c:=by grind
  have y:IntKind.i64.wrap ((i:Int)*(c:Int))=((i*c:Nat):Int):=by grind [aR]
  have z:IntKind.i64.wrap (((i:Int)+1)*(c:Int))=(((i+1)*c:Nat):Int):=by
   grind [aR]
  have t1:=pg (d:=5016) (n:=n) (c:=c) (i:=i) o;rw[if_neg (aen i)]at t1;have t2:=JY (d:=5016) (n:=n) (c:=c) (i:=i);have t3:=pg (d:=5016) (n:=n) (c:=c) (i:=i+1) (k:=i) o;rw[if_pos (adT i)]at t3;refine db (k:=sU rfl (b8 (cY (db (k:=?_)))));simp only[Ck];refine kP (aH y (aH z (aH M (aH N (aH O (aH t1 t2)))))) (k:=kP t3 (k:=?_));refine kv (G:=jo c) (fun q=>⟨(jk::rN c::.fn m [.p (.ptr f),.p (.raw (.pointer (some ⟨b,0,none⟩)))]::j4 (.one (.sl 5016 1 0 (n*c))::.one (.sl 5016 0 0 n)::rN i::j4 (jk::jk::jk::.one (.sl 5016 0 0 n)::rN n::rN i::j16 (j4 (jk::jk::rN c::rN q.i::j4 (j4 (j4 (jk::jk::jk::[])))))))),Hm [(5016,Ck 5016 n c (i+1) (part g i q.i))]⟩) (fun _=>h) (fun q=>c-q.i) ⟨0,by omega⟩ ?_ rfl ?_
  ·refine aj ⟨rfl,trivial⟩ ?_;simp[wk]
  rintro⟨j,R⟩;simp only;by_cases r:j<c
  ·have C:=F i j o r;have I:i*c+j<n*c:=by omega
   have A:=aB (fl c (part g i j)) I;have B:=Oh (n:=n) (c:=c) (part g i j) (v:=g i j) o r;refine db (k:=sU rfl (b8 (cY (db (k:=?_)))));simp only[Ck];refine kw cf 8 C [] [] (by kernel_rfl) (by kernel_rfl) (by rfl) (by rfl) fun _ K=>?_;simp(disch:=omega) only[kd,tZ,aa,t3,fZ,A,Jg,B];apply K
   show dW _ _ _ _ _ _ _;refine uM (k:=?_);refine⟨⟨j+1,by omega⟩,by grind,aj ⟨?_,trivial⟩ ?_,rfl⟩
   ·show[_,_]=[_,_];grind [qO,io]
   simp[wk]
  have u:j=c:=by omega
  subst u;refine db (k:=sT rfl (uM (k:=?_)));refine⟨⟨i+1,by omega⟩,by grind,aj ⟨?_,trivial⟩ ?_,rfl⟩
  ·show[_,_]=[_,_];grind [qO,jK]
  simp[wk]
 have t:i=n:=by omega
 subst t;refine db (k:=sT rfl (db (k:=?_)));refine dW.weak ((bH 5016 (JZ rfl)).trans (aj (tm:=(j4 (jk::jk::dF (mat i c g)::j16 (j16 (j16 (j4 ([]))))))) (l:=[]) trivial ?_)) ?_
 ·have e:=QD (c:=c) (H:=Hm [(5016,Ck 5016 i c i (part g i 0))]) s rfl;rw[gu fun a b D _=>jJ g a b D]at e;simp[wk];exact e.symm
 (refine mw ⟨.inr rfl,rfl,cd rfl ?_ rfl⟩;simp(disch:=omega) only[kd,results234,dF])
end Go.Proofs.YtalmoejhjceflaaGreat
