/-
  Part 37 of a proof (walks and plain facts).
-/
import Derived.Test.YtalmoejhjceflaaGreatQ35
set_option linter.all false
set_option maxRecDepth 100000
set_option maxHeartbeats 64000000
namespace Go.Proofs.YtalmoejhjceflaaGreat
open Go.RowKit Go.Proofs.Tryz
variable {n m j c p q:Nat} {b:List Nat}
theorem abx {U V L:Nat} (c:n*4294967296*L<=V) (g:U<(m+1)*4294967296*L) (h:j*V<=U) (f:0<L):j*n<=m:=by
 have e:j*(n*4294967296*L)<=j*V:=acq _ c;have b:(j*n)*(4294967296*L)<(m+1)*(4294967296*L):=by
  grind
 have:=aex b;omega
theorem abw {U V L high:Nat} (f:(n*4294967296+m)*L<=V) (t:U<(high*4294967296+j+1)*L) (l:q*V<=U) (u:c*n+p=high) (h:p*4294967296+j<c*m):q<c:=by
 by_cases b:q<c
 ·exact b
 exfalso;have o:c*((n*4294967296+m)*L)<=U:=acl (acU (af4 b) f) l;have e:(c*(n*4294967296+m))*L<(high*4294967296+j+1)*L:=by
  grind
 have s:=aex e;grind
theorem V4 {U vl t3:Nat} (l: n = (j * 4294967296 + c) * m + vl) (b: vl < m) (h: t3 * m <= U) (u: U < (q + 1) * n) (o: p * (j * 4294967296 + c) <= t3) (f: p <= 4294967296) (hv1: 1 <= j) : p <= q + 1 := by
  have r : p * n <= U + p * vl := by
    calc p * n = (p * (j * 4294967296 + c)) * m + p * vl := by grind
      _ <= t3 * m + p * vl := agv (acu _ o) _
      _ <= _ := agv h _
  have s : p * vl <= 4294967296 * m := acU f (aeR b);have t : 4294967296 * m <= n := by
    rw [l];have : 4294967296 * m <= (j * 4294967296 + c) * m := acu _ (by omega);omega
  have e : p * n < (q + 2) * n := by
    grind
  have := aex e;omega
structure U2 (u v:List Nat) (g:Nat) where
 i:Nat
 us:List Nat
 c:Nat
 b:Nat
 hi:i<=v.length
 len:us.length=i
 lmb:Lmb us
 hc:c<4294967296
 hb:b<=1
 val:natV us+g*natV (v.take i)=natV (u.take i)+(c+b)*4294967296^i
def U2.start (u v:List Nat) (g:Nat):U2 u v g:=⟨0,[],0,0,acL _,rfl,fun a h=>by simp at h,by omega,by omega,by simp[natV]⟩
theorem qS (l:List Nat) (a:Nat):natV (l++[a])=natV l+a*4294967296^l.length:=by
 grind [kD,natV]
theorem qh {a:Nat} (h:Lmb b) (f:a<4294967296):Lmb (b++[a]):=fun x e=>by
 rcases adh.1 e with c|c
 ·exact h x c
 grind
theorem G4 (b:n<=4294967296) (f:m<4294967296) (e:j<4294967296):j+n*m<18446744073709551616/\(j+n*m)/4294967296<4294967296:=by
 have:n*m<=4294967296*4294967295:=acU b (by omega);omega
theorem Wh {u v:List Nat} (e:U2 u v n) {l b':Nat} (q:n<=4294967296) (p:v[e.i]?=some m) (s:u[e.i]?=some j) (t:Lmb v) (r:l<4294967296) (h:b'<=1) (z:l+(e.c+n*m)%4294967296+e.b=j+b'*4294967296): ∃f:U2 u v n,f.i=e.i+1/\f.us=e.us++[l]/\f.c=(e.c+n*m)/4294967296/\f.b=b':=by
 have o:=bV t p;refine⟨⟨e.i+1,e.us++[l],(e.c+n*m)/4294967296,b',?_,by rw[acJ,e.len];rfl,qh e.lmb r,(G4 q o e.hc).2,h,?_⟩,rfl,rfl,rfl,rfl⟩
 ·grind
 have A:=e.val;rw[qS,e.len,bI p,bI s,adk];have w:e.c+n*m=(e.c+n*m)%4294967296+4294967296*((e.c+n*m)/4294967296):=by omega
 grind
structure X4 (u v:List Nat) where
 i:Nat
 us:List Nat
 c:Nat
 hi:i<=v.length
 len:us.length=i
 lmb:Lmb us
 hc:c<=1
 val:natV us+c*4294967296^i=natV (u.take i)+natV (v.take i)
def X4.start (u v:List Nat):X4 u v:=⟨0,[],0,acL _,rfl,fun a h=>by simp at h,by omega,by simp[natV]⟩
theorem Vg {v:List Nat} (e:X4 b v) (g:v[e.i]?=some n) (h:b[e.i]?=some m) (p:Lmb v) (o:Lmb b):
  ∃f:X4 b v,f.i=e.i+1/\f.us=e.us++[(e.c+(m+n))%4294967296]/\f.c=(e.c+(m+n))/4294967296:=by
 have j:=bV p g;have l:=bV o h;have q:=e.hc;refine⟨⟨e.i+1,e.us++[(e.c+(m+n))%4294967296],(e.c+(m+n))/4294967296,?_,by rw[acJ,e.len];rfl,qh e.lmb (acM _ (by omega)),by omega,?_⟩,rfl,rfl,rfl⟩
 ·grind
 have s:=e.val;rw[qS,e.len,bI g,bI h,adk];have r:e.c+(m+n)=(e.c+(m+n))%4294967296+4294967296*((e.c+(m+n))/4294967296):=by omega
 grind
theorem R5 (l:c=n/m) (f:c<=j) (h:p+j*m=n) (b:0<m):j=c/\p=n%m:=by
 have e:j<=n/m:=(afn b).2 (by omega);grind [Nat.div_add_mod,Nat.mul_comm]
theorem V0 {T Bn c t W:Nat} (s:p=n/m) (C:j<=p+1) (h:q+j*m=n+4294967296*Bn) (r:n<j*m) (l:0<m) (o:m<=Bn) (A:W<Bn) (z:q=T+t*Bn) (D:W+c*Bn=T+m) (B:c<=1) (u:t<4294967296):j=p+1/\(t+c)%4294967296=0/\W=n%m:=by
 have e:j=p+1:=by
  by_cases b:j=p+1
  ·exact b
  exfalso;have:j*m<=(n/m)*m:=acu _ (by omega);have:=afH n m;omega
 have f:=aeB n m;have v:=acM n l;rw[<- s]at f;subst e;have w:(p+1)*m=m*p+m:=by grind
 have x:W+(t+c)*Bn=n%m+4294967296*Bn:=by
  grind
 have y:t+c=4294967296:=by
  rcases adE (t+c) 4294967296 with b|b|b
  ·exfalso;have:(t+c)*Bn+Bn<=4294967296*Bn:=by
    have:=acu Bn (show t+c+1<=4294967296 by omega);grind
   omega
  ·exact b
  omega
 grind
def bQ:Nat->Nat->List Nat
 |0,_=>[]
 |n+1,x=>x%4294967296::bQ n (x/4294967296)
theorem bU: ∀n x,(bQ n x).length=n
 |0,_=>rfl
 |n+1,x=>by simp[bQ,bU n]
theorem qg: ∀n x,Lmb (bQ n x)
 |0,_=>fun a h=>by simp[bQ]at h
 |n+1,x=>by rw[bQ,dJ];exact⟨acM _ (by omega),qg n _⟩
theorem CO: ∀n x,natV (bQ n x)=x%4294967296^n
 |0,x=>by grind [bQ,natV]
 |n+1,x=>by
  rw[bQ,natV,CO n,adk,adu (4294967296^n),Nat.mod_mul]
theorem jt (h:m<4294967296^n):natV (bQ n m)=m:=by rw[CO,adR h]
theorem L9: ∀{l:List Nat},Lmb l->l=bQ l.length (natV l)
 |[],_=>rfl
 |a::l,h=>by
  rw[dJ]at h;have b:(a+4294967296*natV l)%4294967296=a:=by omega
  have c:(a+4294967296*natV l)/4294967296=natV l:=by omega
  show a::l=bQ (l.length+1) (natV (a::l));rw[bQ,natV,b,c,<- L9 h.2]
theorem Gw (h:Lmb b) (c:b.length=n) (e:natV b=m):b=bQ n m:=by
 grind [L9]
theorem jv: ∀{n x i:Nat},i<n->(bQ n x)[i]?=some (x/4294967296^i%4294967296)
 |0,_,_,h=>by omega
 |n+1,x,0,_=>by simp[bQ]
 |n+1,x,i+1,h=>by
  rw[bQ,adY,jv (by omega),adI,adk,adu 4294967296]
theorem wJ (h:m<4294967296^n):co (bQ n m)=au m:=by
 rw[dw (qg _ _),jt h]
theorem ur {i a:Nat} (h:b[i]?=some a):natV (b.drop i)=a+4294967296*natV (b.drop (i+1)):=by rw[ee h,natV]
/-! Short division. -/
theorem Tq {a Y:Nat} (c:0<n) (j:a<4294967296):(a+4294967296*Y)/n%4294967296=(Y%n*4294967296+a)/n/\(a+4294967296*Y)/n/4294967296=Y/n/\(a+4294967296*Y)%n=(Y%n*4294967296+a)%n:=by
 have g:=aeB Y n;have h:=acM Y c;generalize l:Y/n=q at*
 generalize m:Y%n=r at*
 have e:a+4294967296*Y=n*(4294967296*q)+(r*4294967296+a):=by grind
 have f:(r*4294967296+a)/n<4294967296:=by
  rw[adM c];omega
 simp_all[agk]
theorem W4 {l:List Nat} {i a b:Nat} (p:l.length=n) (o:i<n) (f:l[i]?=some a) (c:a<4294967296) (m:0<b):
  (l.take (i+1)++bQ (n-(i+1)) (natV (l.drop (i+1))/b)).set i ((natV (l.drop (i+1))%b*4294967296+a)/b)=l.take i++bQ (n-i) (natV (l.drop i)/b)/\
  (natV (l.drop (i+1))%b*4294967296+a)%b=natV (l.drop i)%b:=by
 obtain⟨g,h,j⟩:=Tq (Y:=natV (l.drop (i+1))) m c;rw[ur f];refine⟨?_,j.symm⟩;rw[show n-i=n-(i+1)+1 by omega,bQ,g,h,adU,f];simp only[Option.toList_some,acI,List.singleton_append];rw[adV _ _ (by simp;omega)];have e:i-(l.take i).length=0:=by simp;omega
 grind
/-! Shifts. -/
theorem Hc (b:m<32):2^m<=2147483648/\1<=2^m:=⟨by have:=acF (n:=2) (by omega) (show m<=31 by omega);omega,Nat.one_le_two_pow⟩
theorem TL (b:j<=32):(n+18446744073709551616*m)/2^j%4294967296=n/2^j%4294967296:=by
 have e:18446744073709551616*m=2^j*(2^(32-j)*(4294967296*m)):=by
  rw[<- ad1,<- adv,show j+(32-j)=32 by omega];grind
 grind [Nat.add_mul_div_left]
theorem abD (f:Lmb b) {i:Nat} (m:n<=32):natV b/2^n/4294967296^i%4294967296=(b.getD i 0+4294967296*b.getD (i+1) 0)/2^n%4294967296:=by
 have e:natV b/2^n/4294967296^i=natV (b.drop i)/2^n:=by
  rw[adI,adu,<- adI]
  congr 1
  by_cases r:i<=b.length
  ·have o:natV b=natV (b.take i)+4294967296^i*natV (b.drop i):=by
    grind [List.take_append_drop,kD]
   simp_all[gm,Nat.add_mul_div_left,adg]
  rw[aeE.2 (by omega)];have p:=fF f;have q:4294967296^b.length<=4294967296^i:=acF (by omega) (by omega);rw[ae5 (by omega)];rfl
 rw[e];have g: ∀j,natV (b.drop j)=b.getD j 0+4294967296*natV (b.drop (j+1)):=fun j=>by
  rw[acm];cases h:b[j]? with
  |none=>
   rw[List.getElem?_eq_none_iff]at h;rw[aeE.2 h,aeE.2 (by omega)];rfl
  |some a=>exact ur h
 rw[g i,g (i+1)];have c:b.getD i 0+4294967296*(b.getD (i+1) 0+4294967296*natV (b.drop (i+1+1)))=(b.getD i 0+4294967296*b.getD (i+1) 0)+18446744073709551616*natV (b.drop (i+1+1)):=by grind
 rw[c,TL m]
theorem MZ (h:Lmb b) {i v:Nat} (j:n<=32) (p:b.length=m) (g:i<m) (o:v=(b.getD i 0+4294967296*b.getD (i+1) 0)/2^n%4294967296):
  ((bQ m (natV b/2^n)).take i++b.drop i).set i v=(bQ m (natV b/2^n)).take (i+1)++b.drop (i+1):=by
 have c:=jv (n:=m) (x:=natV b/2^n) g;rw[abD h j,<- o]at c;have f:b.drop i=b[i]'(by omega)::b.drop (i+1):=adF (by omega);rw[adV _ _ (by grind),adU,c,f];have e:i-((bQ m (natV b/2^n)).take i).length=0:=by grind
 grind
def BS (m:List Nat) (s i:Nat):Nat:=natV (m.take i)*2^s/4294967296^i
theorem aax (c:Lmb b) (s i:Nat):BS b s i<2^s:=by
 simp_all[BS,adM,adg,adu,gm]
theorem Xf {s i a:Nat} (c:b[i]?=some a):BS b s i+a*2^s=natV (b.take (i+1))*2^s/4294967296^i/\(BS b s i+a*2^s)/4294967296=BS b s (i+1):=by
 have f:=bI c;have e:natV (b.take (i+1))*2^s=natV (b.take i)*2^s+4294967296^i*(a*2^s):=by grind
 grind [BS,Nat.add_mul_div_left,Nat.div_div_eq_div_mul]
theorem aay {m:List Nat} {s i j:Nat} (f:j<i) (c:i<=m.length):natV (m.take i)*2^s/4294967296^j%4294967296=natV m*2^s/4294967296^j%4294967296:=by
 have b:natV m=natV (m.take i)+4294967296^i*natV (m.drop i):=by
  grind [List.take_append_drop,kD]
 obtain⟨d,rfl⟩: ∃d,i=j+1+d:=⟨i-(j+1),by omega⟩;have e:natV m*2^s=natV (m.take (j+1+d))*2^s+4294967296^j*(4294967296*(4294967296^d*natV (m.drop (j+1+d))*2^s)):=by
  grind
 grind [Nat.add_mul_div_left]
theorem CX:bQ (n+1) m=bQ n m++[m/4294967296^n%4294967296]:=by
 apply acz;grind [jv,bU]
theorem Bs {a s:Nat} (h:a*2^s<18446744073709551616) (b:s<=64):IntKind.u64.wrap ((a:Int)*2^(min s IntKind.u64.bits))=((a*2^s:Nat):Int):=by
 rw[show min s IntKind.u64.bits=s from afd b,adb];grind
theorem Lh {a s:Nat} (b:s<=64):Int.fdiv (a:Int) (2^(min s IntKind.u64.bits))=((a/2^s:Nat):Int):=by
 rw[show min s IntKind.u64.bits=s from afd b];grind
theorem ud (m:List Nat) (s:Nat) (A:Lmb m) (L:s<32) (N:m.length<=536870912):CallC prog 212 [cW m,.raw (.int .i64 (s:Int))] ⟨[⟨165,1,lc fU (bQ (m.length+1) (natV m*2^s))⟩],.one (.sl 0 0 0 (m.length+1))⟩:=by
 have K:=Hc L;have E:(m.length:Int)+1=((m.length+1:Nat):Int):=by omega
 refine ax func212 rfl ntmps212 (aA (k:=aH (aC E @lj) (k:=bi (k:=ai (bi (k:=?_))))));refine ay (G:=fY m.length) (fun g=>⟨(cW m::rN s::jk::jk::jk::.one (.sl 12 0 0 (m.length+1))::.raw (.int .u64 (BS m s g.i:Nat))::j4 (jk::jk::cW m::rN m.length::rN g.i::j16 (j4 (j4 (jk::[]))))),Hm [(12,[⟨165,1,lc fU (bQ g.i (natV m*2^s)++List.replicate (m.length+1-g.i) 0)⟩])]⟩) (fun g=>m.length-g.i) ⟨0,by omega⟩ ?_ ?_
 ·refine aj ⟨?_,trivial⟩ ?_
  ·rfl
  simp[wk,BS,natV]
 rintro⟨i,O⟩;simp only;have o:=aax A s i;by_cases J:i<m.length
 ·obtain⟨a,n⟩:=getElem?_of_lt J;have F:=bV A n;obtain⟨y,z⟩:=Xf (s:=s) n;have c:=aay (m:=m) (s:=s) (i:=i+1) (j:=i) (by omega) (by omega);rw[<- y]at c;have x:a*2^s<=4294967295*2147483648:=acU (by omega) K.1;have D:=Bs (a:=a) (s:=s) (by omega) (by omega);have u:=Ew (BS m s i) (a*2^s) (by omega) (by omega);rw[x7 a (BS m s i) s o]at u;have l:IntKind.u32.wrap ((a*2^s+BS m s i:Nat):Int)=((natV m*2^s/4294967296^i%4294967296:Nat):Int):=by rw[BT,adN,c]
  have v:Int.fdiv ((a*2^s+BS m s i:Nat):Int) (2^(min 32 IntKind.u64.bits))=((BS m s (i+1):Nat):Int):=by rw[P3,adN,z]
  have q:m.length+1-i=(m.length-i)+1:=by omega
  have h:=wD (bQ i (natV m*2^s)) (m.length-i);have b:=sX (bQ i (natV m*2^s)) (m.length-i) (natV m*2^s/4294967296^i%4294967296);rw[bU]at h b;rw[<- CX]at b;rw[q];obtain⟨t,f⟩: ∃t,t=BS m s (i+1):=⟨_,rfl⟩;obtain⟨r,e⟩: ∃r,r=bQ (i+1) (natV m*2^s):=⟨_,rfl⟩;rw[<- f]at v;rw[<- e]at b;clear y z c;generalize BS m s i=C at*
  generalize natV m*2^s/4294967296^i%4294967296=dg at*
  generalize bQ i (natV m*2^s)=B at*
  generalize H:a*2^s=M at*
  refine ar (k:=aV rfl (ai (am (aH n (k:=aH (aC D u) (k:=aH (aC l (aC h (aC @cX b))) (k:=gL v (k:=bu (k:=?_)))))))));refine⟨⟨i+1,by omega⟩,by grind,aj ⟨?_,trivial⟩ ?_⟩
  ·show _=[(⟨_,_,lc fU (bQ (i+1) (natV m*2^s)++List.replicate (m.length+1-(i+1)) 0)⟩:OObj)];rw[show m.length+1-(i+1)=m.length-i by omega,<- e];rfl
  simp[wk,f]
 have p:i=m.length:=by omega
 subst p;have w:BS m s m.length=natV m*2^s/4294967296^m.length:=by simp_all[BS]
 have I:BS m s m.length%4294967296=BS m s m.length:=adR (by omega);have l:IntKind.u32.wrap ((BS m s m.length:Nat):Int)=((natV m*2^s/4294967296^m.length%4294967296:Nat):Int):=by rw[BT,w]
 have q:m.length+1-m.length=0+1:=by omega
 have h:=wD (bQ m.length (natV m*2^s)) 0;have b:=sX (bQ m.length (natV m*2^s)) 0 (natV m*2^s/4294967296^m.length%4294967296);rw[bU]at h b;rw[<- CX,afG,adc]at b;rw[q];clear w I;generalize bQ (m.length+1) (natV m*2^s)=R at*
 generalize bQ m.length (natV m*2^s)=B at*
 generalize natV m*2^s/4294967296^m.length%4294967296=dg at*
 generalize BS m s m.length=C at*
 refine ar (k:=aW rfl (aH (aC l (aC h (aC @cX b))) (k:=bi (k:=?_))));refine aQ ⟨.inr rfl,_,bJ.refl _,?_⟩;refine⟨.one (.sl 12 0 0 (m.length+1)),12,?_,rfl,?_,rfl⟩
 ·simp(disch:=omega) only[kd,results212]
 show _=[_];simp[renO,gT]
def Pd (l:List Nat) (b i:Nat):List Nat:=l.take i++bQ (l.length-i) (natV (l.drop i)/b)
theorem W3 (l:List Nat) (b:Nat) {i:Nat} (h:i<=l.length):(Pd l b i).length=l.length:=by grind [Pd,bU]
theorem xH (l:List Nat) (b:Nat) (K:Lmb l) (h:0<b) (q:b<4294967296) (I:0<l.length) (M:l.length<=536870912):
  wN prog 210 [.undef,.raw (.int .u32 (b:Int))] 0 0 l.length ⟨165,1,lc fU l⟩ ⟨165,1,lc fU (bQ l.length (natV l/b))⟩ (.raw (.int .u32 ((natV l%b:Nat):Int))):=by
 refine zi func210 rfl (by kernel_rfl) (by simp) I (by simp[lc]) (fm _ _) rfl (by simp[lc,bU]) (fm _ _) rfl ?_;rw[ntmps210];refine QE (k:=dm (k:=?_));have N:(l.length:Int)-1=(l.length:Int)-1:=rfl;refine bG (dm (k:=?_));refine gQ (G:=fY l.length) (fun g=>⟨(.one (.sl 0 0 0 l.length)::.raw (.int .u32 (b:Int))::jk::jk::jk::.raw (.int .u64 ((natV (l.drop g.i)%b:Nat):Int))::.raw (.int .i64 ((g.i:Int)-1))::j16 (j4 (j4 (j4 (jk::[]))))),Hm [(0,[⟨165,1,lc fU (Pd l b g.i)⟩])]⟩) (fun g=>g.i) ⟨l.length,by omega⟩ ?_ ?_
 ·refine aj ⟨?_,trivial⟩ ?_
  ·simp[Pd,bQ,famH]
  simp[wk,natV]
 rintro⟨i,H⟩;simp only;by_cases O:0<i
 ·obtain⟨j,rfl⟩: ∃j,i=j+1:=⟨i-1,by omega⟩;obtain⟨a,y⟩:=getElem?_of_lt (l:=l) (k:=j) (by omega);have p:=bV K y;have E:((j+1:Nat):Int)-1=(j:Int):=by omega
  obtain⟨v,L⟩:=W4 (b:=b) rfl (show j<l.length by omega) y p h;have z:=W3 l b H;have c:(Pd l b (j+1))[j]?=some a:=by
   grind [Pd]
  change (Pd l b (j+1)).set j _=Pd l b j at v
  have J:=acM (natV (l.drop (j+1))) h;generalize natV (l.drop (j+1))%b=r at*
  obtain⟨n,u⟩: ∃n,n=natV (l.drop j)%b:=⟨_,rfl⟩;rw[<- u]at L;have e:((natV (l.drop j):Nat):Int)%(b:Int)=(n:Int):=by omega
  have A:=Bs (a:=r) (s:=32) (by omega) (by omega);have x:=Ew (r*2^32) a (by omega) (by omega);rw[qm r a 32 (by omega),show r*2^32+a=r*4294967296+a from rfl]at x;have B:Int.tdiv ((r*4294967296+a:Nat):Int) (b:Int)=(((r*4294967296+a)/b:Nat):Int):=(Int.ofNat_tdiv _ _).symm;have C:Int.tmod ((r*4294967296+a:Nat):Int) (b:Int)=(n:Int):=by grind
  have P:(r*4294967296+a)/b<4294967296:=by
   rw[adM h];omega
  generalize(r*4294967296+a)/b=m at*
  have D:IntKind.u64.wrap (m:Int)=(m:Int):=by rw[adb];omega
  have o:IntKind.u32.wrap (m:Int)=(m:Int):=by rw[ad8];omega
  generalize Pd l b (j+1)=S at*
  obtain⟨w,f⟩: ∃w,w=Pd l b j:=⟨_,rfl⟩;rw[<- f]at v;refine bG (dc E (k:=f9 rfl (db (bG (eG (dc (aC A (aC c x)) (k:=dc (aC B (aC D (aC o (aC c (aC @cX v))))) (k:=rF C (k:=I2 (k:=?_))))))))));refine⟨⟨j,by omega⟩,by simp,aj ⟨?_,trivial⟩ ?_⟩
  ·show _=[(⟨_,_,lc fU (Pd l b j)⟩:OObj)];rw[<- f];rfl
  simp[wk,e]
 have t:i=0:=by omega
 subst t;have J:natV l%b<4294967296:=Nat.lt_trans (acM _ h) q;have F:Pd l b 0=bQ l.length (natV l/b):=by simp[Pd]
 rw[F,adC];generalize natV l%b=r at*
 generalize bQ l.length (natV l/b)=S at*
 have o:IntKind.u32.wrap (r:Int)=(r:Int):=by rw[ad8];omega
 refine bG (dm (k:=fK rfl (je (dc o (k:=?_)))));refine eK ⟨.inr rfl,_,bJ.refl _,rfl,dA _,?_⟩;simp(disch:=omega) only[kd,results210]
def IC (l:List Nat) (s i:Nat):List Nat:=(bQ l.length (natV l/2^s)).take i++l.drop i
theorem Xl (l:List Nat) (s:Nat) {i:Nat} (h:i<=l.length):(IC l s i).length=l.length:=by grind [IC,bU]
theorem MY {s i a:Nat} (c:i<=n) (h:b[n]?=some a):(IC b s i)[n]?=some a:=by
 grind [IC,bU]
theorem BK (l:List Nat) (s:Nat) (j:Lmb l) (K:s<32) (H:0<l.length) (J:l.length<=536870912):
  wN prog 214 [.undef,.raw (.int .i64 (s:Int))] 0 0 l.length ⟨165,1,lc fU l⟩ ⟨165,1,lc fU (bQ l.length (natV l/2^s))⟩ (.tup []):=by
 refine zi func214 rfl (by kernel_rfl) (by simp) H (by simp[lc]) (fm _ _) rfl (by simp[lc,bU]) (fm _ _) rfl ?_;rw[ntmps214];refine QE (k:=?_);refine gQ (G:=fY l.length) (fun g=>⟨(.one (.sl 0 0 0 l.length)::rN s::j4 (jk::rN l.length::rN g.i::j16 (j4 (j4 (j4 (jk::[])))))),Hm [(0,[⟨165,1,lc fU (IC l s g.i)⟩])]⟩) (fun g=>l.length-g.i) ⟨0,by omega⟩ ?_ ?_
 ·refine aj ⟨?_,trivial⟩ ?_
  ·rfl
  simp[wk]
 rintro⟨i,F⟩;simp only;have z:=Xl l s F;by_cases r:i<l.length
 ·obtain⟨a,x⟩:=getElem?_of_lt r;have C:=bV j x;have e:=MY (s:=s) (acs i) x;have E:l.getD i 0=a:=by grind
  have o:(i:Int)+1=((i+1:Nat):Int):=by omega
  obtain⟨u,f⟩: ∃u,u=IC l s (i+1):=⟨_,rfl⟩;by_cases t:i+1<l.length
  ·obtain⟨b,y⟩:=getElem?_of_lt t;have D:=bV j y;have h:=MY (s:=s) (show i<=i+1 by omega) y;have p:l.getD (i+1) 0=b:=by grind
   have c:=MZ (v:=(b*4294967296+a)/2^s%4294967296) j (show s<=32 by omega) rfl r (by grind)
   change (IC l s i).set i _=IC l s (i+1)at c
   rw[<- f]at c;have A:=Bs (a:=b) (s:=32) (by omega) (by omega);have w:=Ew a (b*2^32) (by omega) (by omega);rw[x7 b a 32 (by omega),show b*2^32+a=b*4294967296+a from rfl]at w;have m:=Lh (a:=b*4294967296+a) (s:=s) (by omega);have n:=BT ((b*4294967296+a)/2^s);generalize(b*4294967296+a)/2^s=I at*
   generalize IC l s i=S at*
   refine dm (k:=vL rfl (bG (eG (dm (k:=dc e (k:=bG (dc o (k:=f9 rfl (rF (aC o (aC h (aC A w))) (k:=rF (aC m (aC n (aC e (aC @cX c)))) (k:=I2 (k:=?_))))))))))));refine⟨⟨i+1,by omega⟩,by grind,aj ⟨?_,trivial⟩ ?_⟩
   ·show _=[(⟨_,_,lc fU (IC l s (i+1))⟩:OObj)];rw[<- f];rfl
   simp[wk]
  have p:l.getD (i+1) 0=0:=by grind
  have c:=MZ (v:=a/2^s%4294967296) j (show s<=32 by omega) rfl r (by grind)
  change (IC l s i).set i _=IC l s (i+1)at c
  rw[<- f]at c;have m:=Lh (a:=a) (s:=s) (by omega);have n:=BT (a/2^s);generalize a/2^s=I at*
  generalize IC l s i=S at*
  refine dm (k:=vL rfl (bG (eG (dm (k:=dc e (k:=bG (dc o (k:=fK rfl (db (rF (aC m (aC n (aC e (aC @cX c)))) (k:=I2 (k:=?_))))))))))));refine⟨⟨i+1,by omega⟩,by grind,aj ⟨?_,trivial⟩ ?_⟩
  ·show _=[(⟨_,_,lc fU (IC l s (i+1))⟩:OObj)];rw[<- f];rfl
  simp[wk]
 have q:i=l.length:=by omega
 subst q;have B:IC l s l.length=bQ l.length (natV l/2^s):=by
  grind [IC,bU]
 rw[B];generalize bQ l.length (natV l/2^s)=S at*
 refine dm (k:=vK rfl ?_);refine⟨.inl rfl,_,bJ.refl _,rfl,dA _,?_⟩;simp(disch:=omega) only[kd,results214]
section
theorem OD (f:b.length=n+2) (c:b[n+1]?=some m) (g:b[n]?=some j):natV b=(m*4294967296+j)*4294967296^n+natV (b.take n):=by
 have e:=bI c;grind [bI]
theorem OE (g:b.length=n+3) (e:b[n+2]?=some m) (h:b[n+1]?=some j) (o:b[n]?=some c):natV b=((m*4294967296+j)*4294967296+c)*4294967296^n+natV (b.take n):=by
 have f:=bI e;grind [bI]
structure Bz (u v:List Nat) (n v1 v2 u2 u1 u0:Nat):Prop where
 lu:Lmb u
 lv:Lmb v
 nu:u.length=n+3
 nv:v.length=n+2
 hv1:v[n+1]?=some v1
 hv2:v[n]?=some v2
 hu2:u[n+2]?=some u2
 hu1:u[n+1]?=some u1
 hu0:u[n]?=some u0
 top:2147483648<=v1
 lt:natV u<natV v*4294967296
section
variable {u v:List Nat} {n v1 v2 u2 u1 u0:Nat} (h:Bz u v n v1 v2 u2 u1 u0)
include h
theorem Bz.vpos:0<natV v:=by
 have:=h.lt;omega
theorem Bz.bv1:v1<4294967296:=bV h.lv h.hv1
theorem Bz.bv2:v2<4294967296:=bV h.lv h.hv2
theorem Bz.bu2:u2<4294967296:=bV h.lu h.hu2
theorem Bz.bu1:u1<4294967296:=bV h.lu h.hu1
theorem Bz.bu0:u0<4294967296:=bV h.lu h.hu0
theorem Bz.eV:natV v=(v1*4294967296+v2)*4294967296^n+natV (v.take n):=OD h.nv h.hv1 h.hv2
theorem Bz.eU:natV u=((u2*4294967296+u1)*4294967296+u0)*4294967296^n+natV (u.take n):=OE h.nu h.hu2 h.hu1 h.hu0
theorem Bz.vl:natV (v.take n)<4294967296^n:=gm h.lv n
theorem Bz.ul:natV (u.take n)<4294967296^n:=gm h.lu n
theorem Bz.q_lt:natV u/natV v<4294967296:=by
 rw[adM h.vpos,adu];exact h.lt
theorem Bz.u2_le:u2<=v1:=by
 have b:=h.eV;have c:=h.eU;have f:=h.lt;have g:=h.vl;have j:=h.bv2;have p:0<4294967296^n:=adg (by omega);generalize 4294967296^n=L at*
 by_cases e:u2<=v1
 ·exact e
 exfalso;have l:(v1+1)*4294967296*4294967296*L<=natV u:=by
  rw[c];have:(v1+1)*4294967296*4294967296*L<=((u2*4294967296+u1)*4294967296+u0)*L:=acu _ (acl (acu _ (acl (acu _ (show v1+1<=u2 by omega)) (af3 _ _))) (af3 _ _));omega
 have m:natV v*4294967296<=(v1+1)*4294967296*4294967296*L:=by
  have o:natV v<=(v1+1)*4294967296*L:=by
   rw[b];have:(v1*4294967296+v2)*L+L<=(v1+1)*4294967296*L:=by
    have:=acu L (show v1*4294967296+v2+1<=(v1+1)*4294967296 by omega);grind
   omega
  grind
 omega
structure KdG (u v:List Nat) (v1 high:Nat) where
 g:Nat
 r:Nat
 eq:g*v1+r=high
 ge:natV u/natV v<=g
 le:g<=4294967297
 hr:r<4294967296
omit h in
theorem NV {a:Nat} (e:0<m) (h:a<(j+1)*m):a/m<=j:=by
 have:=(adM e).2 h;omega
theorem Bz.first: ∃k:KdG u v v1 (u2*4294967296+u1),k.g=(u2*4294967296+u1)/v1/\k.r=(u2*4294967296+u1)%v1:=by
 have q:=h.top;have e:=h.bv1;have p:=acM (u2*4294967296+u1) (show 0<v1 by omega);have o:=aeB (u2*4294967296+u1) v1;have f:=h.u2_le;have hu1:=h.bu1;have c:0<4294967296^n:=adg (by omega);refine⟨⟨(u2*4294967296+u1)/v1,(u2*4294967296+u1)%v1,by grind,?_,?_,by omega⟩,rfl,rfl⟩
 ·rw[afn (by omega)];have j:=h.eV;have b:=h.eU;have l:=h.ul;have m:=h.bu0;refine abx (U:=natV u) (V:=natV v) (L:=4294967296^n) ?_ ?_ (afH _ _) c
  ·grind
  rw[b];have:((u2*4294967296+u1)*4294967296+u0)*4294967296^n+4294967296^n<=(u2*4294967296+u1+1)*4294967296*4294967296^n:=by
   have:=acu (4294967296^n) (show(u2*4294967296+u1)*4294967296+u0+1<=(u2*4294967296+u1+1)*4294967296 by omega);grind
  omega
 refine NV (by omega) ?_;omega
theorem Bz.down (k:KdG u v v1 (u2*4294967296+u1)) (b:4294967296<=k.g\/k.r*4294967296+u0<k.g*v2):natV u/natV v<k.g:=by
 rcases b with b|b
 ·have:=h.q_lt;omega
 have c:=h.eV;have e:=h.eU;have f:=h.ul;refine abw (U:=natV u) (V:=natV v) (L:=4294967296^n) (high:=u2*4294967296+u1) ?_ ?_ (afH _ _) k.eq b
 ·omega
 grind
theorem Bz.near {r:Nat} (e:m*v1+r=u2*4294967296+u1) (c:m<=4294967296) (j:m*v2<=r*4294967296+u0):m<=natV u/natV v+1:=by
 have b:=h.eV;have f:=h.eU;have l:=h.top;refine V4 (U:=natV u) (t3:=(u2*4294967296+u1)*4294967296+u0) b h.vl ?_ ?_ ?_ c (by omega)
 ·omega
 ·have:=Nat.lt_div_mul_add (a:=natV u) h.vpos;grind
 grind
theorem Bz.vlt:natV v<=4294967296^(n+2):=aeR (by have:=fF h.lv;rw[h.nv]at this;exact this)
theorem Bz.right (f:U2 u v m) (o:f.i=n+2) (j:natV u/natV v<=m) (q:f.c+f.b<=u2):m=natV u/natV v/\f.us++[u2-(f.c+f.b)]=bQ (n+3) (natV u%natV v):=by
 have r:=f.val;rw[o,ack (by rw[h.nv];omega)]at r;have p:=bI h.hu2;rw[ack (by rw[h.nu];omega)]at p;have l:f.us.length=n+2:=by rw[f.len,o]
 have e:natV (f.us++[u2-(f.c+f.b)])+m*natV v=natV u:=by
  grind [qS,Nat.sub_add_cancel]
 obtain⟨s,t⟩:=R5 rfl j e h.vpos;refine⟨s,Gw (qh f.lmb ?_) (by simp[l]) t⟩;have:=h.bu2;omega
theorem Bz.left (f:U2 u v m) (x:f.i=n+2) (p:m<=natV u/natV v+1) (y:u2<f.c+f.b) (F:j=u2+4294967296-(f.c+f.b)) (a:X4 (f.us++[j]) v) (l:a.i=n+2):
  m=natV u/natV v+1/\a.us++[(j+a.c)%4294967296]=bQ (n+3) (natV u%natV v):=by
 have G:=f.val;rw[x,ack (by rw[h.nv];omega)]at G;have s:=bI h.hu2;rw[ack (by rw[h.nu];omega)]at s;have r:f.us.length=n+2:=by rw[f.len,x]
 have C:=h.bu2;have E:=f.hc;have D:=f.hb;have o:=a.val;have z:(f.us++[j]).take (n+2)=f.us:=by grind
 rw[l,z,ack (by rw[h.nv];omega)]at o;have w:=fF a.lmb;rw[a.len,l]at w;have e:natV f.us+j*4294967296^(n+2)+m*natV v=natV u+4294967296*4294967296^(n+2):=by
  rw[s];have:j*4294967296^(n+2)+(f.c+f.b)*4294967296^(n+2)=(u2+4294967296)*4294967296^(n+2):=by
   rw[<- ae0,F,Nat.sub_add_cancel (by omega)]
  rw[ae0 u2]at this;omega
 have q:natV u<m*natV v:=by
  have A:=fF f.lmb;rw[r]at A;have B:(u2+1)*4294967296^(n+2)<=(f.c+f.b)*4294967296^(n+2):=acu _ (by omega);rw[ae0 u2 1,ag8]at B;omega
 obtain⟨H,I,J⟩:=V0 (T:=natV f.us) (t:=j) (c:=a.c) (W:=natV a.us) (Bn:=4294967296^(n+2)) rfl p e q h.vpos h.vlt w rfl o a.hc (by omega);refine⟨H,Gw (qh a.lmb (acM _ (by omega))) (by simp[a.len,l]) ?_⟩;grind [qS]
end
end
end Go.Proofs.YtalmoejhjceflaaGreat
