/-
  Part 37 of a proof (walks and plain facts).
-/
import Derived.Test.YtalmoejhjceflaaGreatR35
set_option linter.all false
set_option maxRecDepth 100000
set_option maxHeartbeats 64000000
namespace Go.Proofs.YtalmoejhjceflaaGreat
open Go.RowKit Go.Proofs.Tryz
variable {n m:Nat} {b:List Nat}
theorem yc {a s:Nat} (h:a*2^s<18446744073709551616) (b:s<=64):IntKind.u64.wrap ((a:Int)*2^(min s IntKind.u64.bits))=((a*2^s:Nat):Int):=by
 rw[show min s IntKind.u64.bits=s from acW b,aa1];grind
theorem Ie {a s:Nat} (b:s<=64):Int.fdiv (a:Int) (2^(min s IntKind.u64.bits))=((a/2^s:Nat):Int):=by
 rw[show min s IntKind.u64.bits=s from acW b];grind
theorem qE (m:List Nat) (s:Nat) (A:Lmb m) (L:s<32) (N:m.length<=536870912):CallC prog 212 [cY m,.raw (.int .i64 (s:Int))] ⟨[⟨165,1,lc fU (bI (m.length+1) (natV m*2^s))⟩],.one (.sl 0 0 0 (m.length+1))⟩:=by
 have K:=D5 L;have E:(m.length:Int)+1=((m.length+1:Nat):Int):=by omega
 refine aA func212 rfl ntmps212 (aC (k:=aL (aH E @mw) (k:=bC (k:=ai (bC (k:=?_))))));refine aB (G:=jx m.length) (fun g=>⟨(cY m::rN s::jk::jk::jk::.one (.sl 12 0 0 (m.length+1))::.raw (.int .u64 (yB m s g.i:Nat))::j4 (jk::jk::cY m::rN m.length::rN g.i::j16 (j4 (j4 (jk::[]))))),Hm [(12,[⟨165,1,lc fU (bI g.i (natV m*2^s)++List.replicate (m.length+1-g.i) 0)⟩])]⟩) (fun g=>m.length-g.i) ⟨0,by omega⟩ ?_ ?_
 ·refine aj ⟨?_,trivial⟩ ?_
  ·rfl
  simp[wk,yB,natV]
 rintro⟨i,O⟩;simp only;have o:=Xh A s i;by_cases J:i<m.length
 ·obtain⟨a,n⟩:=getElem?_of_lt J;have F:=bZ A n;obtain⟨y,z⟩:=T0 (s:=s) n;have c:=Xi (m:=m) (s:=s) (i:=i+1) (j:=i) (by omega) (by omega);rw[<- y]at c;have x:a*2^s<=4294967295*2147483648:=aaT (by omega) K.1;have D:=yc (a:=a) (s:=s) (by omega) (by omega);have u:=BA (yB m s i) (a*2^s) (by omega) (by omega);rw[uK a (yB m s i) s o]at u;have l:IntKind.u32.wrap ((a*2^s+yB m s i:Nat):Int)=((natV m*2^s/4294967296^i%4294967296:Nat):Int):=by rw[E7,ab5,c]
  have v:Int.fdiv ((a*2^s+yB m s i:Nat):Int) (2^(min 32 IntKind.u64.bits))=((yB m s (i+1):Nat):Int):=by rw[ML,ab5,z]
  have q:m.length+1-i=(m.length-i)+1:=by omega
  have h:=tb (bI i (natV m*2^s)) (m.length-i);have b:=pU (bI i (natV m*2^s)) (m.length-i) (natV m*2^s/4294967296^i%4294967296);rw[bP]at h b;rw[<- zP]at b;rw[q];obtain⟨t,f⟩: ∃t,t=yB m s (i+1):=⟨_,rfl⟩;obtain⟨r,e⟩: ∃r,r=bI (i+1) (natV m*2^s):=⟨_,rfl⟩;rw[<- f]at v;rw[<- e]at b;clear y z c;generalize yB m s i=C at*
  generalize natV m*2^s/4294967296^i%4294967296=dg at*
  generalize bI i (natV m*2^s)=B at*
  generalize H:a*2^s=M at*
  refine ar (k:=be rfl (ai (am (aL n (k:=aL (aH D u) (k:=aL (aH l (aH h (aH @dq b))) (k:=jm v (k:=bS (k:=?_)))))))));refine⟨⟨i+1,by omega⟩,by grind,aj ⟨?_,trivial⟩ ?_⟩
  ·show _=[(⟨_,_,lc fU (bI (i+1) (natV m*2^s)++List.replicate (m.length+1-(i+1)) 0)⟩:OObj)];rw[show m.length+1-(i+1)=m.length-i by omega,<- e];rfl
  simp[wk,f]
 have p:i=m.length:=by omega
 subst p;have w:yB m s m.length=natV m*2^s/4294967296^m.length:=by simp_all[yB]
 have I:yB m s m.length%4294967296=yB m s m.length:=acz (by omega);have l:IntKind.u32.wrap ((yB m s m.length:Nat):Int)=((natV m*2^s/4294967296^m.length%4294967296:Nat):Int):=by rw[E7,w]
 have q:m.length+1-m.length=0+1:=by omega
 have h:=tb (bI m.length (natV m*2^s)) 0;have b:=pU (bI m.length (natV m*2^s)) 0 (natV m*2^s/4294967296^m.length%4294967296);rw[bP]at h b;rw[<- zP,adh,aa8]at b;rw[q];clear w I;generalize bI (m.length+1) (natV m*2^s)=R at*
 generalize bI m.length (natV m*2^s)=B at*
 generalize natV m*2^s/4294967296^m.length%4294967296=dg at*
 generalize yB m s m.length=C at*
 refine ar (k:=bv rfl (aL (aH l (aH h (aH @dq b))) (k:=bC (k:=?_))));refine aW ⟨.inr rfl,_,bG.refl _,?_⟩;refine⟨.one (.sl 12 0 0 (m.length+1)),12,?_,rfl,?_,rfl⟩
 ·simp(disch:=omega) only[kd,results212]
 show _=[_];simp[renO,iC]
def LU (l:List Nat) (b i:Nat):List Nat:=l.take i++bI (l.length-i) (natV (l.drop i)/b)
theorem TR (l:List Nat) (b:Nat) {i:Nat} (h:i<=l.length):(LU l b i).length=l.length:=by grind [LU,bP]
theorem un (l:List Nat) (b:Nat) (K:Lmb l) (h:0<b) (q:b<4294967296) (I:0<l.length) (M:l.length<=536870912):
  tn prog 210 [.undef,.raw (.int .u32 (b:Int))] 0 0 l.length ⟨165,1,lc fU l⟩ ⟨165,1,lc fU (bI l.length (natV l/b))⟩ (.raw (.int .u32 ((natV l%b:Nat):Int))):=by
 refine vT func210 rfl (by kernel_rfl) (by simp) I (by simp[lc]) (ec _ _) rfl (by simp[lc,bP]) (ec _ _) rfl ?_;rw[ntmps210];refine Nl (k:=j1 (k:=?_));have N:(l.length:Int)-1=(l.length:Int)-1:=rfl;refine db (j1 (k:=?_));refine ng (G:=jx l.length) (fun g=>⟨(.one (.sl 0 0 0 l.length)::.raw (.int .u32 (b:Int))::jk::jk::jk::.raw (.int .u64 ((natV (l.drop g.i)%b:Nat):Int))::.raw (.int .i64 ((g.i:Int)-1))::j16 (j4 (j4 (j4 (jk::[]))))),Hm [(0,[⟨165,1,lc fU (LU l b g.i)⟩])]⟩) (fun g=>g.i) ⟨l.length,by omega⟩ ?_ ?_
 ·refine aj ⟨?_,trivial⟩ ?_
  ·simp[LU,bI,famH]
  simp[wk,natV]
 rintro⟨i,H⟩;simp only;by_cases O:0<i
 ·obtain⟨j,rfl⟩: ∃j,i=j+1:=⟨i-1,by omega⟩;obtain⟨a,y⟩:=getElem?_of_lt (l:=l) (k:=j) (by omega);have p:=bZ K y;have E:((j+1:Nat):Int)-1=(j:Int):=by omega
  obtain⟨v,L⟩:=TS (b:=b) rfl (show j<l.length by omega) y p h;have z:=TR l b H;have c:(LU l b (j+1))[j]?=some a:=by
   grind [LU]
  change (LU l b (j+1)).set j _=LU l b j at v
  have J:=aaQ (natV (l.drop (j+1))) h;generalize natV (l.drop (j+1))%b=r at*
  obtain⟨n,u⟩: ∃n,n=natV (l.drop j)%b:=⟨_,rfl⟩;rw[<- u]at L;have e:((natV (l.drop j):Nat):Int)%(b:Int)=(n:Int):=by omega
  have A:=yc (a:=r) (s:=32) (by omega) (by omega);have x:=BA (r*2^32) a (by omega) (by omega);rw[sU r a 32 (by omega),show r*2^32+a=r*4294967296+a from rfl]at x;have B:Int.tdiv ((r*4294967296+a:Nat):Int) (b:Int)=(((r*4294967296+a)/b:Nat):Int):=(Int.ofNat_tdiv _ _).symm;have C:Int.tmod ((r*4294967296+a:Nat):Int) (b:Int)=(n:Int):=by grind
  have P:(r*4294967296+a)/b<4294967296:=by
   rw[abx h];omega
  generalize(r*4294967296+a)/b=m at*
  have D:IntKind.u64.wrap (m:Int)=(m:Int):=by rw[aa1];omega
  have o:IntKind.u32.wrap (m:Int)=(m:Int):=by rw[abQ];omega
  generalize LU l b (j+1)=S at*
  obtain⟨w,f⟩: ∃w,w=LU l b j:=⟨_,rfl⟩;rw[<- f]at v;refine db (dN E (k:=ma rfl (f7 (db (gN (dN (aH A (aH c x)) (k:=dN (aH B (aH D (aH o (aH c (aH @dq v))))) (k:=yT C (k:=Nk (k:=?_))))))))));refine⟨⟨j,by omega⟩,by simp,aj ⟨?_,trivial⟩ ?_⟩
  ·show _=[(⟨_,_,lc fU (LU l b j)⟩:OObj)];rw[<- f];rfl
  simp[wk,e]
 have t:i=0:=by omega
 subst t;have J:natV l%b<4294967296:=Nat.lt_trans (aaQ _ h) q;have F:LU l b 0=bI l.length (natV l/b):=by simp[LU]
 rw[F,abL];generalize natV l%b=r at*
 generalize bI l.length (natV l/b)=S at*
 have o:IntKind.u32.wrap (r:Int)=(r:Int):=by rw[abQ];omega
 refine db (j1 (k:=nd rfl (nf (dN o (k:=?_)))));refine qi ⟨.inr rfl,_,bG.refl _,rfl,fQ _,?_⟩;simp(disch:=omega) only[kd,results210]
def Fg (l:List Nat) (s i:Nat):List Nat:=(bI l.length (natV l/2^s)).take i++l.drop i
theorem T5 (l:List Nat) (s:Nat) {i:Nat} (h:i<=l.length):(Fg l s i).length=l.length:=by grind [Fg,bP]
theorem JK {s i a:Nat} (c:i<=n) (h:b[n]?=some a):(Fg b s i)[n]?=some a:=by
 grind [Fg,bP]
theorem yr (l:List Nat) (s:Nat) (j:Lmb l) (K:s<32) (H:0<l.length) (J:l.length<=536870912):
  tn prog 214 [.undef,.raw (.int .i64 (s:Int))] 0 0 l.length ⟨165,1,lc fU l⟩ ⟨165,1,lc fU (bI l.length (natV l/2^s))⟩ (.tup []):=by
 refine vT func214 rfl (by kernel_rfl) (by simp) H (by simp[lc]) (ec _ _) rfl (by simp[lc,bP]) (ec _ _) rfl ?_;rw[ntmps214];refine Nl (k:=?_);refine ng (G:=jx l.length) (fun g=>⟨(.one (.sl 0 0 0 l.length)::rN s::j4 (jk::rN l.length::rN g.i::j16 (j4 (j4 (j4 (jk::[])))))),Hm [(0,[⟨165,1,lc fU (Fg l s g.i)⟩])]⟩) (fun g=>l.length-g.i) ⟨0,by omega⟩ ?_ ?_
 ·refine aj ⟨?_,trivial⟩ ?_
  ·rfl
  simp[wk]
 rintro⟨i,F⟩;simp only;have z:=T5 l s F;by_cases r:i<l.length
 ·obtain⟨a,x⟩:=getElem?_of_lt r;have C:=bZ j x;have e:=JK (s:=s) (aar i) x;have E:l.getD i 0=a:=by grind
  have o:(i:Int)+1=((i+1:Nat):Int):=by omega
  obtain⟨u,f⟩: ∃u,u=Fg l s (i+1):=⟨_,rfl⟩;by_cases t:i+1<l.length
  ·obtain⟨b,y⟩:=getElem?_of_lt t;have D:=bZ j y;have h:=JK (s:=s) (show i<=i+1 by omega) y;have p:l.getD (i+1) 0=b:=by grind
   have c:=JL (v:=(b*4294967296+a)/2^s%4294967296) j (show s<=32 by omega) rfl r (by grind)
   change (Fg l s i).set i _=Fg l s (i+1)at c
   rw[<- f]at c;have A:=yc (a:=b) (s:=32) (by omega) (by omega);have w:=BA a (b*2^32) (by omega) (by omega);rw[uK b a 32 (by omega),show b*2^32+a=b*4294967296+a from rfl]at w;have m:=Ie (a:=b*4294967296+a) (s:=s) (by omega);have n:=E7 ((b*4294967296+a)/2^s);generalize(b*4294967296+a)/2^s=I at*
   generalize Fg l s i=S at*
   refine j1 (k:=AF rfl (db (gN (j1 (k:=dN e (k:=db (dN o (k:=ma rfl (yT (aH o (aH h (aH A w))) (k:=yT (aH m (aH n (aH e (aH @dq c)))) (k:=Nk (k:=?_))))))))))));refine⟨⟨i+1,by omega⟩,by grind,aj ⟨?_,trivial⟩ ?_⟩
   ·show _=[(⟨_,_,lc fU (Fg l s (i+1))⟩:OObj)];rw[<- f];rfl
   simp[wk]
  have p:l.getD (i+1) 0=0:=by grind
  have c:=JL (v:=a/2^s%4294967296) j (show s<=32 by omega) rfl r (by grind)
  change (Fg l s i).set i _=Fg l s (i+1)at c
  rw[<- f]at c;have m:=Ie (a:=a) (s:=s) (by omega);have n:=E7 (a/2^s);generalize a/2^s=I at*
  generalize Fg l s i=S at*
  refine j1 (k:=AF rfl (db (gN (j1 (k:=dN e (k:=db (dN o (k:=nd rfl (f7 (yT (aH m (aH n (aH e (aH @dq c)))) (k:=Nk (k:=?_))))))))))));refine⟨⟨i+1,by omega⟩,by grind,aj ⟨?_,trivial⟩ ?_⟩
  ·show _=[(⟨_,_,lc fU (Fg l s (i+1))⟩:OObj)];rw[<- f];rfl
  simp[wk]
 have q:i=l.length:=by omega
 subst q;have B:Fg l s l.length=bI l.length (natV l/2^s):=by
  grind [Fg,bP]
 rw[B];generalize bI l.length (natV l/2^s)=S at*
 refine j1 (k:=AE rfl ?_);refine⟨.inl rfl,_,bG.refl _,rfl,fQ _,?_⟩;simp(disch:=omega) only[kd,results214]
section
theorem Lm {y:Nat} (f:b.length=n+2) (c:b[n+1]?=some m) (g:b[n]?=some y):natV b=(m*4294967296+y)*4294967296^n+natV (b.take n):=by
 have e:=bj c;grind [bj]
theorem Ln {y z:Nat} (f:b.length=n+3) (c:b[n+2]?=some m) (g:b[n+1]?=some y) (h:b[n]?=some z):natV b=((m*4294967296+y)*4294967296+z)*4294967296^n+natV (b.take n):=by
 have e:=bj c;grind [bj]
structure yj (u v:List Nat) (n v1 v2 u2 u1 u0:Nat):Prop where
 lu:Lmb u
 lv:Lmb v
 nu:u.length=n+3
 nv:v.length=n+2
 hv1:v[n+1]?=some v1
 hv2:v[n]?=some v2
 hu2:u[n+2]?=some u2
 hu1:u[n+1]?=some u1
 hu0:u[n]?=some u0
 top:2147483648<=v1
 lt:natV u<natV v*4294967296
section
variable {u v:List Nat} {n v1 v2 u2 u1 u0:Nat} (h:yj u v n v1 v2 u2 u1 u0)
include h
theorem yj.vpos:0<natV v:=by
 have:=h.lt;omega
theorem yj.bv1:v1<4294967296:=bZ h.lv h.hv1
theorem yj.bv2:v2<4294967296:=bZ h.lv h.hv2
theorem yj.bu2:u2<4294967296:=bZ h.lu h.hu2
theorem yj.bu1:u1<4294967296:=bZ h.lu h.hu1
theorem yj.bu0:u0<4294967296:=bZ h.lu h.hu0
theorem yj.eV:natV v=(v1*4294967296+v2)*4294967296^n+natV (v.take n):=Lm h.nv h.hv1 h.hv2
theorem yj.eU:natV u=((u2*4294967296+u1)*4294967296+u0)*4294967296^n+natV (u.take n):=Ln h.nu h.hu2 h.hu1 h.hu0
theorem yj.vl:natV (v.take n)<4294967296^n:=eZ h.lv n
theorem yj.ul:natV (u.take n)<4294967296^n:=eZ h.lu n
theorem yj.q_lt:natV u/natV v<4294967296:=by
 rw[abx h.vpos,abB];exact h.lt
theorem yj.u2_le:u2<=v1:=by
 have b:=h.eV;have c:=h.eU;have f:=h.lt;have g:=h.vl;have j:=h.bv2;have p:0<4294967296^n:=abh (by omega);generalize 4294967296^n=L at*
 by_cases e:u2<=v1
 ·exact e
 exfalso;have l:(v1+1)*4294967296*4294967296*L<=natV u:=by
  rw[c];have:(v1+1)*4294967296*4294967296*L<=((u2*4294967296+u1)*4294967296+u0)*L:=aav _ (aap (aav _ (aap (aav _ (show v1+1<=u2 by omega)) (adJ _ _))) (adJ _ _));omega
 have m:natV v*4294967296<=(v1+1)*4294967296*4294967296*L:=by
  have o:natV v<=(v1+1)*4294967296*L:=by
   rw[b];have:(v1*4294967296+v2)*L+L<=(v1+1)*4294967296*L:=by
    have:=aav L (show v1*4294967296+v2+1<=(v1+1)*4294967296 by omega);grind
   omega
  grind
 omega
structure Yn (u v:List Nat) (v1 high:Nat) where
 g:Nat
 r:Nat
 eq:g*v1+r=high
 ge:natV u/natV v<=g
 le:g<=4294967297
 hr:r<4294967296
omit h in
theorem KM {a c:Nat} (e:0<m) (h:a<(c+1)*m):a/m<=c:=by
 have:=(abx e).2 h;omega
theorem yj.first: ∃k:Yn u v v1 (u2*4294967296+u1),k.g=(u2*4294967296+u1)/v1/\k.r=(u2*4294967296+u1)%v1:=by
 have q:=h.top;have e:=h.bv1;have p:=aaQ (u2*4294967296+u1) (show 0<v1 by omega);have o:=acn (u2*4294967296+u1) v1;have f:=h.u2_le;have hu1:=h.bu1;have c:0<4294967296^n:=abh (by omega);refine⟨⟨(u2*4294967296+u1)/v1,(u2*4294967296+u1)%v1,by grind,?_,?_,by omega⟩,rfl,rfl⟩
 ·rw[ac5 (by omega)];have j:=h.eV;have b:=h.eU;have l:=h.ul;have m:=h.bu0;refine YR (U:=natV u) (V:=natV v) (L:=4294967296^n) ?_ ?_ (adi _ _) c
  ·grind
  rw[b];have:((u2*4294967296+u1)*4294967296+u0)*4294967296^n+4294967296^n<=(u2*4294967296+u1+1)*4294967296*4294967296^n:=by
   have:=aav (4294967296^n) (show(u2*4294967296+u1)*4294967296+u0+1<=(u2*4294967296+u1+1)*4294967296 by omega);grind
  omega
 refine KM (by omega) ?_;omega
theorem yj.down (k:Yn u v v1 (u2*4294967296+u1)) (b:4294967296<=k.g\/k.r*4294967296+u0<k.g*v2):natV u/natV v<k.g:=by
 rcases b with b|b
 ·have:=h.q_lt;omega
 have c:=h.eV;have e:=h.eU;have f:=h.ul;refine YQ (U:=natV u) (V:=natV v) (L:=4294967296^n) (high:=u2*4294967296+u1) ?_ ?_ (adi _ _) k.eq b
 ·omega
 grind
theorem yj.near {r:Nat} (e:m*v1+r=u2*4294967296+u1) (c:m<=4294967296) (j:m*v2<=r*4294967296+u0):m<=natV u/natV v+1:=by
 have b:=h.eV;have f:=h.eU;have l:=h.top;refine SY (U:=natV u) (t3:=(u2*4294967296+u1)*4294967296+u0) b h.vl ?_ ?_ ?_ c (by omega)
 ·omega
 ·have:=Nat.lt_div_mul_add (a:=natV u) h.vpos;grind
 grind
theorem yj.vlt:natV v<=4294967296^(n+2):=acD (by have:=gy h.lv;rw[h.nv]at this;exact this)
theorem yj.right (f:RK u v m) (o:f.i=n+2) (j:natV u/natV v<=m) (q:f.c+f.b<=u2):m=natV u/natV v/\f.us++[u2-(f.c+f.b)]=bI (n+3) (natV u%natV v):=by
 have r:=f.val;rw[o,aaz (by rw[h.nv];omega)]at r;have p:=bj h.hu2;rw[aaz (by rw[h.nu];omega)]at p;have l:f.us.length=n+2:=by rw[f.len,o]
 have e:natV (f.us++[u2-(f.c+f.b)])+m*natV v=natV u:=by
  grind [oF,Nat.sub_add_cancel]
 obtain⟨s,t⟩:=Oz rfl j e h.vpos;refine⟨s,Dv (nJ f.lmb ?_) (by simp[l]) t⟩;have:=h.bu2;omega
theorem yj.left {t:Nat} (f:RK u v m) (w:f.i=n+2) (o:m<=natV u/natV v+1) (x:u2<f.c+f.b) (E:t=u2+4294967296-(f.c+f.b)) (a:UK (f.us++[t]) v) (j:a.i=n+2):
  m=natV u/natV v+1/\a.us++[(t+a.c)%4294967296]=bI (n+3) (natV u%natV v):=by
 have F:=f.val;rw[w,aaz (by rw[h.nv];omega)]at F;have r:=bj h.hu2;rw[aaz (by rw[h.nu];omega)]at r;have q:f.us.length=n+2:=by rw[f.len,w]
 have B:=h.bu2;have D:=f.hc;have C:=f.hb;have l:=a.val;have y:(f.us++[t]).take (n+2)=f.us:=by grind
 rw[j,y,aaz (by rw[h.nv];omega)]at l;have s:=gy a.lmb;rw[a.len,j]at s;have e:natV f.us+t*4294967296^(n+2)+m*natV v=natV u+4294967296*4294967296^(n+2):=by
  rw[r];have:t*4294967296^(n+2)+(f.c+f.b)*4294967296^(n+2)=(u2+4294967296)*4294967296^(n+2):=by
   rw[<- adb,E,Nat.sub_add_cancel (by omega)]
  rw[adb u2]at this;omega
 have p:natV u<m*natV v:=by
  have z:=gy f.lmb;rw[q]at z;have A:(u2+1)*4294967296^(n+2)<=(f.c+f.b)*4294967296^(n+2):=aav _ (by omega);rw[adb u2 1,aeA]at A;omega
 obtain⟨G,H,I⟩:=SX (T:=natV f.us) (t:=t) (c:=a.c) (W:=natV a.us) (Bn:=4294967296^(n+2)) rfl o e p h.vpos h.vlt s rfl l a.hc (by omega);refine⟨G,Dv (nJ a.lmb (aaQ _ (by omega))) (by simp[a.len,j]) ?_⟩;grind [oF]
end
end
theorem mF {pre post:List Nat} {i:Nat} (c:pre.length=n) (h:b[i]?=some m):(pre++(b++post))[n+i]?=some m:=by
 grind
theorem uP {pre post:List Nat} {i:Nat} (v:Nat) (e:pre.length=n) (c:i<b.length):(pre++(b++post)).set (n+i) v=pre++(b.set i v++post):=by
 grind
theorem uQ {u:List Nat} {i:Nat} (v:Nat) (c:b.length=i) (f:i<u.length):(b++u.drop i).set i v=(b++[v])++u.drop (i+1):=by
 have e:u.drop i=u[i]::u.drop (i+1):=abs f;rw[e,abG _ _ (by omega),c,abC,aeh,aaM];rfl
theorem BS {u:List Nat} {i:Nat} (c:b.length=i) (e:u[i]?=some n):(b++u.drop i)[i]?=some n:=by
 grind
theorem BU {u:List Nat} {i:Nat} (c:b.length=i) (e:i<=u.length):(b++u.drop i).length=u.length:=by
 grind
theorem M5 {P:Program} {k:Nat} {c z:Code} {Q:Exit->AS->Prop} {s:AS} (S:Nat->AS) (p:Nat->Prop) (f:fH P k c (jh (fun b=> ∃g,p g/\bG b (S g)) Q) s) (j: ∀g,p g->fH P k z Q (S g)):fH P k c (jh (fH P k z Q) Q) s:=f.mono fun e b h=>by
 cases e with
 |normal=>obtain⟨g,l,m⟩:=h;exact(j g l).weak m
 |_=>exact h
theorem bor (y c b:Nat) (g:y<4294967296) (e:c<4294967296) (f:b<=1):IntKind.u32.wrap (IntKind.u64.wrap (IntKind.u64.wrap ((y:Int)-(c:Int))-(b:Int)))=(((y+8589934592-(c+b))%4294967296:Nat):Int)/\
  Int.fdiv (IntKind.u64.wrap (IntKind.u64.wrap ((y:Int)-(c:Int))-(b:Int))) (2^(min 63 IntKind.u64.bits))=(((if y<c+b then 1 else 0):Nat):Int):=by
 constructor
 ·grind [IntKind.wrap_u32,IntKind.wrap_u64]
 rw[aa1,aa1];show Int.fdiv _ 9223372036854775808=_;grind
theorem yq (pre u post v:List Nat) (h n j N w O u0:Nat) (J:pre.length=h) (H:yj u v n j N w O u0) (bR:(pre++(u++post)).length<=536870912):
  tn prog 213 [.undef,cY v] 0 h (n+3) ⟨165,1,lc fU (pre++(u++post))⟩ ⟨165,1,lc fU (pre++(bI (n+3) (natV u%natV v)++post))⟩ (.raw (.int .u32 ((natV u/natV v:Nat):Int))):=by
 have nu:=H.nu;have nv:=H.nv;have hv1:=H.hv1;have hv2:=H.hv2;have bv1:=H.bv1;have bv2:=H.bv2;have bu2:=H.bu2;have bu1:=H.bu1;have bu0:=H.bu0;have top:=H.top;have bw:=H.q_lt;have a9:(pre++(u++post)).length=h+(n+3)+post.length:=by grind
 have ad:=mF (post:=post) J H.hu2;have ac:=mF (post:=post) J H.hu1;have S:=mF (post:=post) J H.hu0;refine vT func213 rfl (by kernel_rfl) (by simp) (by omega) (by simp[lc]at a9⊢;omega) (ec _ _) rfl (by simp[lc,bP,nu]) (ec _ _) rfl ?_;rw[ntmps213];have e2:((n+2:Nat):Int)-1=((n+1:Nat):Int):=by omega
 have e3:((n+2:Nat):Int)-2=((n:Nat):Int):=by omega
 refine Nl (k:=dN nv (k:=?_));have a1:=yc (a:=w) (s:=32) (by omega) (by omega);have a2:=BA (w*2^32) O (by omega) (by omega);rw[sU w O 32 (by omega),show w*2^32+O=w*4294967296+O from rfl]at a2;obtain⟨p,A⟩: ∃p,p=w*4294967296+O:=⟨_,rfl⟩;rw[<- A]at a2;obtain⟨k0,bc,bd⟩: ∃k:Yn u v j p,k.g=p/j/\k.r=p%j:=by rw[A];exact H.first
 have bh:=k0.le;have a3:Int.tdiv (p:Int) (j:Int)=(k0.g:Int):=by grind
 have a4:Int.tmod (p:Int) (j:Int)=(k0.r:Int):=by grind
 generalize hR:pre++(u++post)=R at*
 refine sk (aH @famH.eq_1 (aH ad (aH a1 (aH e2 (aH ac a2))))) (k:=sk (aH e2 (aH hv1 (aH a3 a4))) (k:=?_));refine db (M5 (fun g=>⟨(.one (.sl 0 0 h (n+3))::cY v::jk::jk::jk::.raw (.int .i64 ((n+2:Nat):Int))::jk::.raw (.int .u64 (g:Int))::j16 (j16 (j16 (j16 (j16 (j16 (j16 (j16 (j16 (j16 (jk::jk::jk::[]))))))))))),Hm [(0,[⟨165,1,lc fU R⟩])]⟩) (fun g=>natV u/natV v<=g/\g<=natV u/natV v+1/\g<=4294967296) ?_ ?_)
 ·have H2:=H;subst A;refine ng (G:=Yn u v j (w*4294967296+O)) (fun k=>⟨(.one (.sl 0 0 h (n+3))::cY v::jk::jk::jk::.raw (.int .i64 ((n+2:Nat):Int))::jk::.raw (.int .u64 (k.g:Int))::.raw (.int .u64 (k.r:Int))::j16 (j16 (j16 (j16 (j16 (j16 (j16 (j16 (j16 (j16 (jk::jk::[]))))))))))),Hm [(0,[⟨165,1,lc fU R⟩])]⟩) (fun k=>k.g) k0 ?_ ?_
  ·refine aj ⟨rfl,trivial⟩ ?_;simp[wk]
  intro k;have kg:=k.le;have kr:=k.hr;have Z:=k.eq;have bq:=k.ge;have Q:=ML k.g
  -- the guess goes down
  have down:(4294967296<=k.g\/k.r*4294967296+u0<k.g*N)->natV u/natV v<k.g:=H2.down k;have next:natV u/natV v<k.g->k.r+j<4294967296-> ∃k':Yn u v j (w*4294967296+O),k'.g=k.g-1/\k'.r=k.r+j:=fun h1 h2=>by
   refine⟨⟨k.g-1,k.r+j,?_,by omega,by omega,h2⟩,rfl,rfl⟩;refine Eq.trans ?_ Z;have:k.g*j=(k.g-1)*j+j:=by
    obtain⟨m,hm⟩: ∃m,k.g=m+1:=⟨k.g-1,(adL (abS (aaW _) h1)).symm⟩;grind [Nat.add_mul]
   omega
  have stop:natV u/natV v<k.g->4294967296<=k.r+j->natV u/natV v<=k.g-1/\k.g-1<=natV u/natV v+1/\k.g-1<=4294967296:=fun h1 h2=>by
   refine⟨by omega,?_,by omega⟩;refine H2.near (r:=k.r+j) ?_ (by omega) ?_
   ·refine Eq.trans ?_ Z;have:k.g*j=(k.g-1)*j+j:=by
     obtain⟨m,hm⟩: ∃m,k.g=m+1:=⟨k.g-1,(adL (abS (aaW _) h1)).symm⟩;grind [Nat.add_mul]
    omega
   have h3:(k.g-1)*N<=4294967296*4294967295:=aaT (by omega) (by omega);omega
  have D:(k.g:Int)-1=((k.g-1:Nat):Int)\/k.g=0:=by omega
  have e8:(k.r:Int)+(j:Int)=((k.r+j:Nat):Int):=by omega
  have e9:=ML (k.r+j);by_cases ag:4294967296<=k.g
  ·have hd:=down (.inl ag)
   replace D:=D.resolve_right (by omega)
   refine db (sk Q (k:=ma rfl (f7 (gN (dN D (k:=dN (aH e2 (aH hv1 e8)) (k:=?_)))))));by_cases B:4294967296<=k.r+j
   ·refine dN e9 (k:=ma rfl (nf ?_));refine⟨k.g-1,stop hd B,aj ⟨rfl,trivial⟩ ?_⟩;simp[wk]
   obtain⟨k',E,L⟩:=next hd (by omega);refine dN e9 (k:=nd rfl (f7 ?_));refine⟨k',by omega,aj ⟨rfl,trivial⟩ ?_⟩;simp[wk,E,L]
  have bt:k.g*N<=4294967295*4294967295:=aaT (by omega) (by omega);have aa:(k.g:Int)*(N:Int)=((k.g*N:Nat):Int):=by simp
  have ab:=yc (a:=k.r) (s:=32) (by omega) (by omega);have P:=BA (k.r*2^32) u0 (by omega) (by omega);rw[sU k.r u0 32 (by omega),show k.r*2^32+u0=k.r*4294967296+u0 from rfl]at P;by_cases hc:k.r*4294967296+u0<k.g*N
  ·have hd:=down (.inr hc)
   replace D:=D.resolve_right (fun e=>by grind)
   generalize k.g*N=gv at*
   refine db (sk (aH Q (aH e3 (aH hv2 (aH aa (aH ab (aH S P)))))) (k:=ma rfl (f7 (gN (dN D (k:=dN (aH e2 (aH hv1 e8)) (k:=?_)))))));by_cases B:4294967296<=k.r+j
   ·refine dN e9 (k:=ma rfl (nf ?_));refine⟨k.g-1,stop hd B,aj ⟨rfl,trivial⟩ ?_⟩;simp[wk]
   obtain⟨k',E,L⟩:=next hd (by omega);refine dN e9 (k:=nd rfl (f7 ?_));refine⟨k',by omega,aj ⟨rfl,trivial⟩ ?_⟩;simp[wk,E,L]
  have W:=H2.near Z (by omega) (acP hc);generalize k.g*N=gv at*
  refine db (sk (aH Q (aH e3 (aH hv2 (aH aa (aH ab (aH S P)))))) (k:=nd rfl (nf ?_)));refine⟨k.g,⟨bq,W,by omega⟩,aj ⟨rfl,trivial⟩ ?_⟩;simp[wk]
 rintro g ⟨ba,bb,T⟩;subst hR;clear ad ac S a1 a2 a3 a4 bc bd bh k0;refine j1 (k:=db (j1 (k:=?_)));refine ng (G:=RK u v g) (fun m=>⟨(.one (.sl 0 0 h (n+3))::cY v::jk::jk::jk::.raw (.int .i64 ((n+2:Nat):Int))::jk::.raw (.int .u64 (g:Int))::jk::.raw (.int .u64 (m.c:Int))::.raw (.int .u64 (m.b:Int))::j16 (j16 (j16 (j16 (j4 (jk::jk::jk::.raw (.int .i64 ((n+2:Nat):Int))::rN m.i::j16 (j16 (j16 (j16 (j16 (j4 (jk::jk::jk::[])))))))))))),Hm [(0,[⟨165,1,lc fU (pre++((m.us++u.drop m.i)++post))⟩])]⟩) (fun m=>n+2-m.i) (RK.start u v g) ?_ ?_
 ·refine aj ⟨?_,trivial⟩ ?_
  ·rfl
  simp[wk,RK.start]
 intro m;have ci:=m.hi;have al:=m.hc;have ah:=m.hb;have I:=m.len;by_cases ch:m.i<n+2
 ·obtain⟨x,X⟩:=getElem?_of_lt (l:=v) (k:=m.i) (by omega);obtain⟨y,Y⟩:=getElem?_of_lt (l:=u) (k:=m.i) (by omega);have a0:=bZ H.lv X;have a5:=bZ H.lu Y;obtain⟨c1,c2⟩:=DW T a0 al;have cg:g*x<=4294967296*4294967295:=aaT T (by omega);have e4:(g:Int)*(x:Int)=((g*x:Nat):Int):=by simp
  have Q:(m.c:Int)+((g*x:Nat):Int)=((m.c+g*x:Nat):Int):=by simp
  have K:=BS I Y;have bn:=BU (u:=u) I (by omega);have o:=mF (post:=post) J K;have bl:(m.c+g*x)%4294967296<4294967296:=aaQ _ (by omega);obtain⟨b1,b2⟩:=bor y ((m.c+g*x)%4294967296) m.b a5 bl ah;obtain⟨m',E,L,q3,q4⟩:=Td m (l:=(y+8589934592-((m.c+g*x)%4294967296+m.b))%4294967296) (b':=if y<(m.c+g*x)%4294967296+m.b then 1 else 0) T X Y H.lv (aaQ _ (by omega)) (by grind) (by grind);have q:=uP (post:=post) ((y+8589934592-((m.c+g*x)%4294967296+m.b))%4294967296) J (show m.i<(m.us++u.drop m.i).length by omega);rw[uQ _ I (by omega)]at q;have e6:=E7 (m.c+g*x);have D:=ML (m.c+g*x);have bm:(pre++((m.us++u.drop m.i)++post)).length=h+(n+3)+post.length:=by grind
  generalize(m.c+g*x)%4294967296=lo at*
  generalize(m.c+g*x)/4294967296=hi' at*
  generalize g*x=gx at*
  generalize(if y<lo+m.b then 1 else 0:Nat)=nb at*
  generalize(y+8589934592-(lo+m.b))%4294967296=nl at*
  generalize ae:pre++((m.us++u.drop m.i)++post)=RR at*
  refine j1 (k:=AF rfl (db (gN (j1 (k:=dN (aH X (aH e4 Q)) (k:=dN (aH o e6) (k:=dN (aH b1 (aH o (aH @dq q))) (k:=dN D (k:=yT b2 (k:=Nk (k:=?_)))))))))));refine⟨m',by omega,aj ⟨?_,trivial⟩ ?_⟩
  ·rw[E,L];rfl
  simp[wk,E,q3,q4]
 have U:m.i=n+2:=by omega
 have K:(m.us++u.drop m.i)[n+2]?=some w:=by
  have:=BS I (show u[m.i]?=some w by rw[U];exact H.hu2);grind
 have bn:=BU (u:=u) I (by omega);have o:=mF (post:=post) J K;have q:=fun t=>uP (post:=post) t J (show n+2<(m.us++u.drop m.i).length by omega)
 have av: ∀t,(m.us++u.drop m.i).set (n+2) t=m.us++[t]:=fun t=>by
  grind [uQ]
 simp only[av]at q;obtain⟨b1,b2⟩:=bor w m.c m.b bu2 al ah;have bm:(pre++((m.us++u.drop m.i)++post)).length=h+(n+3)+post.length:=by grind
 by_cases ap:m.c+m.b<=w
 ·have b3:(w:Int)-(m.c:Int)-(m.b:Int)=((w-(m.c+m.b):Nat):Int):=by omega
  have b4:Int.fdiv ((w-(m.c+m.b):Nat):Int) (2^(min 63 IntKind.u64.bits))=0:=by
   grind [Ie]
  have cl:w-(m.c+m.b)<4294967296:=by omega
  obtain⟨E,L⟩:=H.right m U ba ap;have hs:=q (w-(m.c+m.b));rw[L]at hs;have D:IntKind.u32.wrap (g:Int)=((natV u/natV v:Nat):Int):=by rw[E7,E];omega
  generalize w-(m.c+m.b)=nl at*
  generalize ae:pre++((m.us++u.drop m.i)++post)=RR at*
  refine j1 (k:=AE rfl (dN (aH o b3) (k:=dN (aH @J8 (aH o (aH @dq hs))) (k:=db (dN b4 (k:=ma rfl (dN D (k:=?_))))))));refine qi ⟨.inr rfl,⟨(.one (.sl 0 0 h (n+3))::jk::jk::jk::.raw (.int .u32 ((natV u/natV v:Nat):Int))::j16 (j16 (j16 (j16 (j16 (j16 (j16 (j16 (j16 (j16 (j4 (jk::jk::[])))))))))))),Hm [(0,[⟨165,1,lc fU (pre++(bI (n+3) (natV u%natV v)++post))⟩])]⟩,aj ⟨rfl,trivial⟩ (by simp[wk]),rfl,fQ _,?_⟩;simp(disch:=omega) only[kd,results213]
 rw[if_pos (by omega)]at b2;obtain⟨t,ht⟩: ∃t,t=w+4294967296-(m.c+m.b):=⟨_,rfl⟩;have bp:t<4294967296:=by omega
 rw[show(w+8589934592-(m.c+m.b))%4294967296=t by omega]at b1;have hs:=q t;have a6:Lmb (m.us++[t]):=nJ m.lmb bp;have cm:(m.us++[t]).length=n+3:=by grind
 have V:=fun a af=>H.left m U bb (by omega) ht a af
 have b5:(m.us++[t])[n+2]?=some t:=by grind
 clear q av ap ht;generalize ae:pre++((m.us++u.drop m.i)++post)=RR at*
 refine j1 (k:=AE rfl (dN o (k:=dN (aH b1 (aH o (aH @dq hs))) (k:=db (dN b2 (k:=nd rfl (f7 (j1 (k:=db (j1 (k:=?_)))))))))));refine ng (G:=UK (m.us++[t]) v) (fun a=>⟨(.one (.sl 0 0 h (n+3))::cY v::jk::jk::jk::.raw (.int .i64 ((n+2:Nat):Int))::jk::.raw (.int .u64 (g:Int))::jk::.raw (.int .u64 (a.c:Int))::j16 (j16 (j16 (j16 (j16 (j16 (j16 (j4 (j4 (j4 (jk::.raw (.int .i64 ((n+2:Nat):Int))::rN a.i::j16 (j16 (jk::jk::[]))))))))))))),Hm [(0,[⟨165,1,lc fU (pre++((a.us++(m.us++[t]).drop a.i)++post))⟩])]⟩) (fun a=>n+2-a.i) (UK.start _ _) ?_ ?_
 ·refine aj ⟨?_,trivial⟩ ?_
  ·rfl
  simp[wk,UK.start]
 intro a;have af:=a.hi;have cc:=a.hc;have F:=a.len;generalize m.us++[t]=C at*
 have b0:=BU (u:=C) F (by omega);have bx:(pre++((a.us++C.drop a.i)++post)).length=h+(n+3)+post.length:=by grind
 by_cases br:a.i<n+2
 ·obtain⟨x,X⟩:=getElem?_of_lt (l:=v) (k:=a.i) (by omega);obtain⟨y,Y⟩:=getElem?_of_lt (l:=C) (k:=a.i) (by omega);have a0:=bZ H.lv X;have a5:=bZ a6 Y;have z:=mF (post:=post) J (BS F Y);have f:=uP (post:=post) ((a.c+(y+x))%4294967296) J (show a.i<(a.us++C.drop a.i).length by omega);rw[uQ _ F (by omega)]at f;obtain⟨a',E,L,q3⟩:=R6 a X Y H.lv a6;have e4:(a.c:Int)+((y:Int)+(x:Int))=((a.c+(y+x):Nat):Int):=by omega
  have e6:=E7 (a.c+(y+x));have D:=ML (a.c+(y+x));generalize(a.c+(y+x))%4294967296=nl at*
  generalize(a.c+(y+x))/4294967296=nc at*
  generalize a7:pre++((a.us++C.drop a.i)++post)=R2 at*
  refine j1 (k:=AF rfl (db (gN (j1 (k:=sk (aH z (aH X e4)) (k:=dN (aH e6 (aH z (aH @dq f))) (k:=yT D (k:=Nk (k:=?_)))))))));refine⟨a',by omega,aj ⟨?_,trivial⟩ ?_⟩
  ·rw[E,L];rfl
  simp[wk,E,q3]
 have M:a.i=n+2:=by omega
 obtain⟨E,L⟩:=V a M;have z:(pre++((a.us++C.drop a.i)++post))[h+(n+2)]?=some t:=by
  have:=mF (post:=post) J (BS F (show C[a.i]?=some t by grind));rwa[M]at this⊢
 have f:=uP (post:=post) ((t+a.c)%4294967296) J (show a.i<(a.us++C.drop a.i).length by omega);rw[uQ _ F (by omega),acr.2 (show C.length<=a.i+1 by omega),aa8,L,M]at f;have e4:IntKind.u32.wrap ((t:Int)+(a.c:Int))=(((t+a.c)%4294967296:Nat):Int):=by rfl
 have Q:(g:Int)-1=((natV u/natV v:Nat):Int):=by omega
 have e6:IntKind.u32.wrap ((natV u/natV v:Nat):Int)=((natV u/natV v:Nat):Int):=by grind [E7]
 have e8:IntKind.u64.wrap ((natV u/natV v:Nat):Int)=((natV u/natV v:Nat):Int):=by
  grind [IntKind.wrap_u64]
 have a8:pre++((a.us++C.drop a.i)++post)=pre++((a.us++C.drop (n+2))++post):=by rw[M]
 generalize(t+a.c)%4294967296=nl at*
 rw[<- a8]at f;generalize a7:pre++((a.us++C.drop a.i)++post)=R2 at*
 refine j1 (k:=AE rfl (dN (aH z (aH @J8 (aH e4 (aH @dq f)))) (k:=dN (aH Q (aH e8 e6)) (k:=?_))));refine qi ⟨.inr rfl,⟨(.one (.sl 0 0 h (n+3))::jk::jk::jk::.raw (.int .u32 ((natV u/natV v:Nat):Int))::j16 (j16 (j16 (j16 (j16 (j16 (j16 (j16 (j16 (j16 (j4 (jk::jk::[])))))))))))),Hm [(0,[⟨165,1,lc fU (pre++(bI (n+3) (natV u%natV v)++post))⟩])]⟩,aj ⟨rfl,trivial⟩ (by simp[wk]),rfl,fQ _,?_⟩;simp(disch:=omega) only[kd,results213]
end Go.Proofs.YtalmoejhjceflaaGreat
