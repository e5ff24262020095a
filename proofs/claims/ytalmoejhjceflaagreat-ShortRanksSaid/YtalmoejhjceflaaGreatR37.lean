/-
  Part 38 of a proof (walks and plain facts).
-/
import Derived.Test.YtalmoejhjceflaaGreatR36
import Derived.Lib.BitFns
set_option linter.all false
set_option maxRecDepth 100000
set_option maxHeartbeats 64000000
open Nat renaming reduceAdd → aa
open List renaming replicate → ae
namespace Go.Proofs.YtalmoejhjceflaaGreat
open Go.RowKit Go.Proofs.Tryz
variable {n m j c:Nat} {x:Int}
section
theorem nM: ∀(k n x:Nat),bI (k+n) x=bI k x++bI n (x/4294967296^k)
 |0,n,x=>by simp[bI]
 |k+1,n,x=>by
  rw[show k+1+n=(k+n)+1 by omega,bI,nM k n,bI,abu,abl,abB 4294967296];rfl
theorem xf: ∀(k x:Nat),bI k (x%4294967296^k)=bI k x
 |0,x=>rfl
 |k+1,x=>by
  rw[bI,bI,abl,abB (4294967296^k),Nat.mod_mul_right_mod,Nat.mod_mul_right_div_self,xf k]
theorem qY (k n x y:Nat) (b:x<4294967296^k):bI (k+n) (y*4294967296^k+x)=bI k x++bI n y:=by
 have c:0<4294967296^k:=abh (by omega);rw[nM,<- xf k (y*4294967296^k+x),abB y,Nat.mul_add_mod,acz b,adS c,acO b,aa5]
theorem zQ: ∀n,bI n 0=ae n 0
 |0=>rfl
 |n+1=>by rw[bI,Nat.zero_mod,Nat.zero_div,zQ n];rfl
def eH (A V k:Nat):Nat:=A%(V*4294967296^k)
def lU (A V k:Nat):Nat:=A/(V*4294967296^k)*4294967296^k
section
variable {A V k:Nat} (hV:0<V)
include hV
theorem PR:eH A V (k+1)/4294967296^k<V*4294967296:=by
 have b:0<4294967296^k:=abh (by omega);rw[abx b];have:=aaQ A (show 0<V*4294967296^(k+1)from adA hV (abh (by omega)));rw[abl]at this;unfold eH;grind
omit hV in
theorem PT:eH A V k=eH A V (k+1)/4294967296^k%V*4294967296^k+eH A V (k+1)%4294967296^k:=by
 unfold eH;have e:V*4294967296^(k+1)=V*4294967296^k*4294967296:=by grind
 have b:A%(V*4294967296^k)=A%(V*4294967296^(k+1))%(V*4294967296^k):=by simp_all
 grind [Nat.mul_comm,Nat.mod_mul]
theorem PK:lU A V k=lU A V (k+1)+eH A V (k+1)/4294967296^k/V*4294967296^k:=by
 unfold lU eH;have c:0<4294967296^k:=abh (by omega);have e:V*4294967296^(k+1)=V*4294967296^k*4294967296:=by grind
 have b:=acn A (V*4294967296^(k+1));grind [Nat.mul_assoc,Nat.mul_add_div,Nat.div_div_eq_div_mul,Nat.mul_comm]
theorem rh:eH A V (k+1)/4294967296^k/V<4294967296:=by
 simp_all[abx,abB,PR]
end
theorem TB {A V k m:Nat} (b:0<V) (l:k<m) (h:lU A V (k+1)<4294967296^m):(bI m (lU A V (k+1))).set k (eH A V (k+1)/4294967296^k/V)=bI m (lU A V k):=by
 have j:=rh (A:=A) (k:=k) b;rw[PK (A:=A) (k:=k) b];generalize eH A V (k+1)/4294967296^k/V=d at*
 obtain⟨q,g⟩: ∃q,lU A V (k+1)=q*4294967296^(k+1):=⟨_,rfl⟩;rw[g];obtain⟨r,rfl⟩: ∃r,m=k+(1+r):=⟨m-(k+1),by omega⟩;have e:q*4294967296^(k+1)=(q*4294967296)*4294967296^k+0:=by grind
 have f:q*4294967296^(k+1)+d*4294967296^k=(q*4294967296+d)*4294967296^k+0:=by grind
 have c:0<4294967296^k:=abh (by omega);rw[f,qY _ _ _ _ c,e,qY _ _ _ _ c,abG _ _ (by grind [bP]),bP,abC,ab5 1 r,bI,bI,aeh];grind
theorem TM {A V k nb na:Nat} (b:k+nb<=na):bI (na+1) (eH A V (k+1))=bI k (eH A V (k+1))++(bI (nb+1) (eH A V (k+1)/4294967296^k)++bI (na-(k+nb)) (eH A V (k+1)/4294967296^(k+nb+1))):=by
 conv=>lhs;rw[show na+1=k+((nb+1)+(na-(k+nb))) by omega]
 rw[nM,nM,abu,<- abP,show k+(nb+1)=k+nb+1 by omega]
theorem PS {A V k nb na:Nat} (b:0<V) (c:V<=4294967296^nb) (l:k+nb<=na):bI k (eH A V (k+1))++(bI (nb+1) (eH A V (k+1)/4294967296^k%V)++bI (na-(k+nb)) (eH A V (k+1)/4294967296^(k+nb+1)))=bI (na+1) (eH A V k):=by
 have f:0<4294967296^k:=abh (by omega);have j:eH A V (k+1)/4294967296^(k+nb+1)=0:=by
  apply acO;have:=aaQ A (show 0<V*4294967296^(k+1)from adA b (abh (by omega)));unfold eH;refine aaA this ?_;have e:4294967296^(k+nb+1)=4294967296^nb*4294967296^(k+1):=by grind
  simp_all[aav]
 have m:=aaQ (eH A V (k+1)/4294967296^k) b;rw[PT (A:=A) (V:=V) (k:=k),j];generalize eH A V (k+1)/4294967296^k%V=u at*
 rw[<- xf k (eH A V (k+1))];have h:=aaQ (eH A V (k+1)) f;generalize eH A V (k+1)%4294967296^k=x at*
 have g:u<4294967296^(nb+1):=by
  omega
 rw[show na+1=k+((nb+1)+(na-(k+nb))) by omega,qY _ _ _ _ h]
 congr 1
 have:=qY (nb+1) (na-(k+nb)) u 0 g;grind
/-! The shift. -/
theorem tA: ∀(x:Nat),x≠0->x<18446744073709551616->1<=Lib.bitLen x/\2^(Lib.bitLen x-1)<=x/\x<2^Lib.bitLen x:=fun x=>by
 induction x using Nat.strongRecOn with
 |_ x h=>
  intro c g;have f:=Lib.bitLen_half x c g;by_cases e:x/2=0
  ·have b:x=1:=by omega
   subst b;have:Lib.bitLen 1=1:=by decide
   grind
  obtain⟨j,l,m⟩:=h (x/2) (by omega) e (by omega);rw[f];refine⟨by omega,?_,?_⟩
  ·rw[show 1+Lib.bitLen (x/2)-1=(Lib.bitLen (x/2)-1)+1 by omega,abl];omega
  grind
def lz (x:Nat):Nat:=32-Lib.bitLen x
theorem S8 (b: n ≠ 0) (h: n < 4294967296) : lz n < 32 /\ 2147483648 <= n * 2 ^ lz n /\ n * 2 ^ lz n < 4294967296 := by
  obtain ⟨f, c, e⟩ := tA n b (by omega);have g := Lib.bitLen_le n 32 (by omega) (by omega);unfold lz;refine ⟨by omega, ?_, ?_⟩
  · calc 2147483648 = 2 ^ (Lib.bitLen n - 1) * 2 ^ (32 - Lib.bitLen n) := by
          rw [<- abP, show Lib.bitLen n - 1 + (32 - Lib.bitLen n) = 31 by omega]
      _ <= _ := aav _ c
  · calc n * 2 ^ (32 - Lib.bitLen n) < 2 ^ Lib.bitLen n * 2 ^ (32 - Lib.bitLen n) := ab6 e (acX _)
      _ = 4294967296 := by rw [<- abP, show Lib.bitLen n + (32 - Lib.bitLen n) = 32 by omega]
theorem TZ (r: (au n).length = m + 1) (p: (au n)[m]? = some j) (g: 2147483648 <= j * 2 ^ c /\ j * 2 ^ c < 4294967296) (f: c < 32) :
    n * 2 ^ c < 4294967296 ^ (m + 1) /\ 2147483648 * 4294967296 ^ m <= n * 2 ^ c := by
  have h := bj p;rw [aaz (by omega), az] at h;have q := eZ (aE n) m;have t : 0 < 4294967296 ^ m := abh (by omega);have o := D5 f;constructor
  · -- n < (j + 1) B^m, and (j + 1) 2^c <= B, for j 2^c < B and 2^c divides B
    have l : (j + 1) * 2 ^ c <= 4294967296 := by
      have e : 4294967296 = 2 ^ (32 - c) * 2 ^ c := by rw [<- abP, show 32 - c + c = 32 by omega]
      rw [e] at g ⊢;exact aav _ (acj g.2)
    calc n * 2 ^ c < (j + 1) * 4294967296 ^ m * 2 ^ c := by
          refine ab6 ?_ (acX c);grind
      _ = (j + 1) * 2 ^ c * 4294967296 ^ m := by grind
      _ <= 4294967296 * 4294967296 ^ m := aav _ l
      _ = 4294967296 ^ (m + 1) := by omega
  · calc 2147483648 * 4294967296 ^ m <= j * 2 ^ c * 4294967296 ^ m := aav _ g.1
      _ = j * 4294967296 ^ m * 2 ^ c := by grind
      _ <= n * 2 ^ c := aav _ (by omega)
end
theorem WP {A k:Nat} (b:n<4294967296^(m+2)) (f:2147483648*4294967296^(m+1)<=n): ∃o p l j h,yj (bI (m+3) (eH A n (k+1)/4294967296^k)) (bI (m+2) n) m o p l j h/\natV (bI (m+3) (eH A n (k+1)/4294967296^k))=eH A n (k+1)/4294967296^k/\natV (bI (m+2) n)=n:=by
 have g:0<4294967296^(m+1):=abh (by omega);have e:0<n:=by omega
 have r:=PR (A:=A) (k:=k) e;have c:eH A n (k+1)/4294967296^k<4294967296^(m+3):=by
  grind
 refine⟨_,_,_,_,_,⟨nI _ _,nI _ _,bP _ _,bP _ _,ia (by omega),ia (by omega),ia (by omega),ia (by omega),ia (by omega),?_,?_⟩,g7 c,g7 b⟩
 ·have q:n/4294967296^(m+1)<4294967296:=by
   rw[abx g];grind
  simp_all[acz,ac5]
 grind [g7]
theorem LO {a s:Nat} (f:a<4294967296^(m+2+j)) (h:4294967296^(m+1)<=n):eH (a*2^s) (n*2^s) (j+1)=a*2^s/\lU (a*2^s) (n*2^s) (j+1)=0:=by
 have g:a*2^s<n*2^s*4294967296^(j+1):=by
  have c:4294967296^(m+2+j)<=n*4294967296^(j+1):=by
   have e:4294967296^(m+2+j)=4294967296^(m+1)*4294967296^(j+1):=by grind
   simp_all[aav]
  rw[aej];exact ab6 (aaA f c) (acX s)
 grind [eH,lU,Nat.mod_eq_of_lt,Nat.div_eq_of_lt]
theorem TL {a b s:Nat}:eH (a*2^s) (b*2^s) 0=a%b*2^s/\lU (a*2^s) (b*2^s) 0=a/b:=by
 grind [eH,lU,Nat.mul_mod_mul_right,Nat.mul_div_mul_right]
theorem W3 {k:Nat} (c:n<m*4294967296^j) (f:k<=j):lU n m k<4294967296^j:=by
 have g:0<4294967296^k:=abh (by omega);unfold lU;have b:n/(m*4294967296^k)<4294967296^(j-k):=by
  rw[<- abu];apply acv;apply acv;have e:4294967296^j=4294967296^k*4294967296^(j-k):=by rw[<- abP];grind
  grind
 have e:4294967296^j=4294967296^(j-k)*4294967296^k:=by rw[<- abP];grind
 simp_all
theorem EL {n:Nat} (h:(au m).length=n+1): ∃x,(au m)[n]?=some x/\x≠0/\x<4294967296/\4294967296^n<=m:=by
 obtain⟨x,c⟩: ∃x,(au m)[n]?=some x:=⟨(au m)[n],by simp[h]⟩;have f:=b9 m;unfold uw at f;rw[List.getLast?_eq_getElem?,h,Nat.add_sub_cancel,c]at f;have g:x≠0:=fun e=>f (by rw[e])
 have j:=bj c;rw[aaz (by omega),az]at j;refine⟨x,c,g,bZ (aE m) c,?_⟩;rw[j];have:1*4294967296^n<=x*4294967296^n:=aav _ (by omega);omega
theorem La (h:(au m).length=1):(au m)[0]?=some m/\m<4294967296:=by
 obtain⟨x,c,_,e,_⟩:=EL (n:=0) h;have f:=bj c;grind [az,natV]
theorem DM (a:Nat):a<4294967296^(au a).length:=by
 grind [gy,aE,az]
theorem LG {x:Nat} (h:n<=m):(bI m x).take n=bI n x:=by
 obtain⟨d,rfl⟩: ∃d,m=n+d:=⟨m-n,by omega⟩;simp_all[nM,bP]
theorem YO (x:Nat) (h:x<4294967296):CallC prog 211 [.raw (.int .u32 (x:Int))] ⟨[],.raw (.int .i64 (lz x:Int))⟩:=by
 refine jK (by kernel_rfl) fun X w vs o f c=>?_
 obtain⟨q,m,g⟩:=sC c (j:=0) rfl;obtain⟨rfl,_⟩:=aX (ρ:=fun _ _=>none) (H:=fun _=>[]) g;obtain rfl:vs= #[.int .u32 (x:Int)]:=by
  grind
 have p:=Lib.bitLen_le x 32 (by omega) (by omega);have e:(32-(Lib.bitLen (x:Int).toNat:Int))=(lz x:Int):=by grind [lz]
 have:=Any.bits_LeadingZeros32 Tryz.lays133 (x:Int) w (by omega) (by omega);rw[e]at this;exact this.mono fun e r ⟨b,n⟩=>⟨_,b,fun l H Y=>b7 rfl,by grind [Ext.refl]⟩
theorem KA {P:Program} {f:FuncId} {args:List TV} {l:List Nat} (S:0<l.length) (J:callable P f=true) (h: ∀(X:Nat->Prop) (w:World) (vs:Array Value),(∀b,X b->b<w.heap.size)->vs.size=args.length->
  (∀(j:Nat) t,args[j]?=some t-> ∃v:Value,vs[j]?=some v/\t.rel (fun _ _=>none) (fun _=>[]) X w v)->Calls P f vs w fun e C=> ∃v,e= .returned v/\C.ownsRow w.heap.size 165 1 v l.length ((l.map fun n:Nat=>(n:Int)).map (Value.int .u32))/\Ext w C):CallC P f args ⟨[⟨165,1,lc fU l⟩],.one (.sl 0 0 0 l.length)⟩:=
 ⟨J,fun X w vs D A I=>(h X w vs D A I).mono fun e C ⟨v,G,⟨_,H⟩,q⟩=>by
  rcases H with⟨_,T⟩|⟨g,cap,cur,V,R,K,y,u,M,U⟩
  ·omega
  have F:rho1 g cap 0 0=some (g,cap):=by simp[rho1]
  have s: ∀(i:Nat) z,l[i]?=some z->cur[i]?=some (.int .u32 (z:Int)):=fun i z N=>by
   have q:((l.map fun n:Nat=>(n:Int)).map (Value.int .u32))[i]?=some (.int .u32 (z:Int)):=by grind
   grind
  refine⟨v,G,rho1 g cap,⟨Dx q,fun a r o p=>?_,fun a r O Y o W b c Q p L _ _=>?_,fun a r o b c p E=>?_,fun b E=>aaA (D b E) q.size,fun a r o p=>?_⟩,?_⟩
  ·obtain⟨rfl,rfl,rfl⟩:=Dy p;refine⟨fun e m=>?_,Nat.zero_lt_one,?_⟩
   ·obtain⟨z,_,rfl⟩:=aau.1 m;rfl
   rw[F];refine⟨cur,K,M,by grind [my],u,fun i e j x m B=>?_⟩;simp only at m;rw[wL]at m;obtain⟨z,N,rfl⟩:=aak.1 m;cases j with
   |succ j=>simp[fU]at B
   |zero=>
    simp[fU]at B;subst B;exact⟨.int .u32 (z:Int),by grind,rfl,bM.raw _ rfl⟩
  ·grind [Dy]
  ·grind [Dy]
  ·grind [Dy,dG,ec]
  exact⟨_,rfl,by simp[my],.inr ⟨g,cap,cap,F,by omega,y,fun _=>rfl⟩⟩⟩
theorem K2 (l:List Nat) (e:0<l.length) (r:l.length<=1073741824):CallC prog 209 [cY l] ⟨[⟨165,1,lc fU l⟩],.one (.sl 0 0 0 l.length)⟩:=by
 refine KA e (by kernel_rfl) fun X w vs p g f=>?_
 obtain⟨s,m,h⟩:=sC f (j:=0) rfl;obtain⟨A,c,rfl,q,o⟩:=Jx h;obtain rfl:vs= #[.slice A l.length c]:=by
  grind
 have b:(l.map fun n:Nat=>(n:Int)).length=l.length:=ab0 _;grind [vW]
theorem K3 (a b:Nat) (F:0<b) (la:(au a).length<=268435456) (lb:(au b).length<=268435456):CallC prog 169 [cY (au a),cY (au b)] ⟨[],Dk a b⟩:=by
 have y:=wC (au a) (au b) (aE _) (aE _) (b9 _) (b9 _) (by omega) (by omega);rw[az,az]at y;by_cases B:a<b
 ·rw[ot B]at y;have z:=DC (au a) (by omega);unfold Dk;rw[acO B,acz B,cj];refine aA func169 rfl ntmps169 (aC (k:=ai (am (bL [⟨2,_,_,_,y⟩] (k:=ay rfl (bK [⟨1,_,_,_,z⟩] (k:=?_)))))));refine aW ⟨.inr rfl,W9 4 rfl rfl ?_ rfl⟩;simp(disch:=omega) only[kd,results169]
 obtain⟨c,H,a3⟩: ∃c,c=gD a b/\0<=c:=⟨_,rfl,IF (by omega)⟩;rw[<- H]at y;clear H;by_cases hs:(au a).length<=2
 ·have sb:(au b).length<=2:=aap (pD (show b<=a by omega)) hs;have ua:=gP hs;have ub:=gP sb;have T:=qG (au a) (aE _) hs;have U:=qG (au b) (aE _) sb;rw[az]at T U;have hq:a/b<=a:=aco _ _;have hr:a%b<b:=aaQ _ F;have h3:=iZ (a/b) (by omega);have h4:=iZ (a%b) (by omega);have ad:(b:Int)≠0:=by omega
  have C:IntKind.u64.wrap (Int.tdiv (a:Int) (b:Int))=((a/b:Nat):Int):=by
   grind [IntKind.wrap_u64]
  have Q:Int.tmod (a:Int) (b:Int)=((a%b:Nat):Int):=by
   rfl
  unfold Dk;generalize a/b=q at*
  generalize a%b=r at*
  refine aA func169 rfl ntmps169 (aC (k:=ai (am (bL [⟨2,_,_,_,y⟩] (k:=aq rfl (ar (k:=ay rfl (bK [⟨1,_,_,_,T⟩,⟨3,_,_,_,U⟩] (k:=mb [⟨3,_,_,_,h3⟩,⟨7,_,_,_,h4⟩] (aH (@ne_eq.{1}) (aH ad (aH @not_false_eq_true (aH C Q)))) (k:=aD @results169))))))))))
 by_cases T:(au b).length=1
 ·obtain⟨g0,X⟩:=La T;have z:=K2 (au a) (by omega) (by omega);have hw:=un (au a) b (aE _) F X (by omega) (by omega);rw[az]at hw;have hq:a/b<4294967296^(au a).length:=abS (aco _ _) (DM a);have hr:a%b<b:=aaQ _ F;have ht:=eA (bI (au a).length (a/b)) (by rw[bP];omega);rw[tg hq]at ht;have hf:=iZ (a%b) (by omega);have ag:=bP (au a).length (a/b);unfold Dk;generalize a%b=r at*
  generalize bI (au a).length (a/b)=R at*
  generalize a/b=q at*
  have C:IntKind.u64.wrap (r:Int)=(r:Int):=by rw[aa1];omega
  refine aA func169 rfl ntmps169 (aC (k:=ai (am (bL [⟨2,_,_,_,y⟩] (k:=aq rfl (ar (k:=aq rfl (ar (k:=ay rfl (bK [⟨1,_,_,_,z⟩] (k:=?_)))))))))))
  (refine vy 4 hw 41 0 [] [] (by simp[wk]) (by omega) (pO rfl) (ec _ _) (by simp[wk]) (by decide) fun K f=>?_;simp(disch:=omega) only[kd,aa,Int.reduceToNat,g0];apply f;refine⟨⟨rfl,rfl⟩,by simp,?_⟩;intro K f;simp only[kd,aa,Wu,cwD];apply f)
  refine bf.weak ((bD 41 (bO rfl)).trans (aj (tm:=(j4 (cY R::jk::jk::jk::.raw (.int .u32 (r:Int))::j16 (j16 (j16 (j16 (j16 (j4 (j4 (j4 (jk::jk::jk::[]))))))))))) (l:=[]) trivial (by simp[wk,ew,dF,ax,Hm,eY,eG,aaz,ag]))) ?_;refine im [⟨1,_,_,_,ht⟩,⟨4,_,_,_,hf⟩] C (k:=aD @results169)
 obtain⟨n,u⟩: ∃n,(au b).length=n+2:=⟨(au b).length-2,by grind [fD]⟩;obtain⟨m,W⟩: ∃m,(au a).length=n+2+m:=⟨(au a).length-(n+2),by have:=pD (show b<=a by omega);omega⟩;obtain⟨x,hx,av,v,ae⟩:=EL (n:=n+1) u;have hz:=YO x v;obtain⟨P,z2,z3⟩:=S8 av v;obtain⟨s,L⟩: ∃s,s=lz x:=⟨_,rfl⟩;rw[<- L]at hz P z2 z3;clear L;obtain⟨V1,V2⟩:=TZ u hx ⟨z2,z3⟩ P;have o:=acX s;have hV:0<b*2^s:=adA F o;have mY:=qE (au b) s (aE _) P (by omega);have O:=qE (au a) s (aE _) P (by omega);rw[az,u]at mY;rw[az,W]at O;have w:=DM a;rw[W]at w;obtain⟨a6,a7⟩:=LO (s:=s) w ae;have hA:a*2^s<b*2^s*4294967296^(m+1):=by
  have U:4294967296^(n+2+m)<=b*4294967296^(m+1):=by
   have e:4294967296^(n+2+m)=4294967296^(n+1)*4294967296^(m+1):=by grind
   simp_all[aav]
  rw[aej];exact ab6 (aaA w U) o
 obtain⟨ab,ac⟩:=TL (a:=a) (b:=b) (s:=s);have C:((n+2:Nat):Int)-1=((n+1:Nat):Int):=by omega
 have Q:((n+2+m:Nat):Int)-((n+2:Nat):Int)=(m:Int):=by omega
 have e3:(m:Int)+1=((m+1:Nat):Int):=by omega
 have tk:=LG (x:=b*2^s) (show n+2<=n+2+1 by omega);have a0:=fun k=>WP (A:=a*2^s) (k:=k) V1 V2
 have hQ: ∀k,k<=m+1->lU (a*2^s) (b*2^s) k<4294967296^(m+1):=fun k t=>W3 hA t
 have p:a%b*2^s<4294967296^(n+2+m+1):=by
  have h3:a%b<b:=aaQ _ F;have h4:a%b*2^s<=b*2^s:=aav _ (acD h3);omega
 have J:a%b<4294967296^(n+2+m+1):=abS (abz _ o) p;have ap:=fun k (t:k<=m)=>PS (A:=a*2^s) (V:=b*2^s) (k:=k) (nb:=n+2) (na:=n+2+m) hV (acD V1) (by omega)
 have al:=fun k (t:k<=m)=>TM (A:=a*2^s) (V:=b*2^s) (k:=k) (nb:=n+2) (na:=n+2+m) (by omega)
 have ah:=fun k (t:k<=m)=>TB (A:=a*2^s) (V:=b*2^s) (k:=k) (m:=m+1) hV (by omega) (hQ _ (by omega))
 have I:a/b<4294967296^(m+1):=by have:=hQ 0 (by omega);omega
 have sr:=yr (bI (n+2+m+1) (a%b*2^s)) s (nI _ _) P (by rw[bP];omega) (by rw[bP];omega);rw[g7 p,bP,aei _ o]at sr;have M:=eA (bI (m+1) (a/b)) (by rw[bP];omega);rw[tg I]at M;have N:=eA (bI (n+2+m+1) (a%b)) (by rw[bP];omega);rw[tg J]at N;have a4:=bP (n+2) (b*2^s);refine aA func169 rfl ntmps169 (aC (k:=?_));refine ai (l9 (S:=⟨(cY (au a)::cY (au b)::j16 (j16 (j16 (j16 (j16 (j16 (j4 (jk::jk::[])))))))),Hm []⟩) (am ?_) ?_)
 ·refine bL [⟨2,_,_,_,y⟩] (k:=aq rfl (ar (k:=aq rfl (ar (k:=?_)))));refine bi rfl (fun h=>by simp at h<;>omega) (fun _=>ak (aj trivial ?_));simp[wk]
 refine cO [⟨6,_,_,_,hz⟩] (aH u (aH C hx)) (k:=cO [⟨2,_,_,_,mY⟩] u (k:=?_));refine bf.weak ((bD 61 (bO rfl)).trans (aj (tm:=(cY (au a)::cY (au b)::j4 (jk::jk::jk::rN s::cY (bI (n+2) (b*2^s))::j16 (j16 (j16 (j16 (j16 (j4 (j4 (j4 (jk::[]))))))))))) (l:=[]) trivial (by simp[wk,ew,dF,ax,Hm,eY,eG,tk]))) ?_;generalize a5:bI (n+2) (b*2^s)=vv at*
 refine bK [⟨2,_,_,_,O⟩] (k:=aL (aH W (aH u (aH Q (aH e3 @mw)))) (k:=ai (aL (aH W (aH u Q)) (k:=?_))));generalize a1:a*2^s=A at*
 generalize a2:b*2^s=V at*
 refine aB (G:=jx (m+1)) (fun g=>⟨(jk::cY (au b)::jk::jk::.one (.sl 74 0 0 (m+1))::j4 (.raw (.int .i64 (s:Int))::cY vv::.one (.sl 67 0 0 (n+2+m+1))::.raw (.int .i64 ((g.i:Int)-1))::j16 (j16 (j16 (j16 (j16 (j4 (j4 (jk::jk::jk::[]))))))))),Hm [(67,[⟨165,1,lc fU (bI (n+2+m+1) (eH A V g.i))⟩]),(74,[⟨165,1,lc fU (bI (m+1) (lU A V g.i))⟩])]⟩) (fun g=>g.i) ⟨m+1,by omega⟩ ?_ ?_
 ·refine aj ⟨?_,?_,trivial⟩ ?_
  ·simp_all[ax]
  ·simp_all[ax,zQ]
  simp[wk]
 rintro⟨i,hi⟩;simp only;by_cases h0:0<i
 ·obtain⟨k,rfl⟩: ∃k,i=k+1:=⟨i-1,by omega⟩;have t:k<=m:=by omega
  have ek:((k+1:Nat):Int)-1=(k:Int):=by omega
  have Y:(k:Int)+((n+2:Nat):Int)+1=((k+n+3:Nat):Int):=by omega
  have Z:k+n+3-k=n+3:=by omega
  obtain⟨v1,v2,u2,u1,u0,K,nU,nV⟩:=a0 k;have w1:=ap k t;have w2:=al k t;rw[show n+2+1=n+3 from rfl]at w1 w2;have w3:=ah k t;have gq:=ia (x:=lU A V (k+1)) (show k<m+1 by omega);have j:=yq (bI k (eH A V (k+1))) _ (bI (n+2+m-(k+(n+2))) (eH A V (k+1)/4294967296^(k+(n+2)+1))) _ k n v1 v2 u2 u1 u0 (bP _ _) K (by grind [bP]);rw[nU,nV]at j;rw[w1,<- w2]at j;have qd:=rh (A:=A) (k:=k) hV;have l1:=bP (m+1) (lU A V (k+1));have l2:=bP (n+2+m+1) (eH A V (k+1));obtain⟨R',E⟩: ∃R',R'=bI (n+2+m+1) (eH A V k):=⟨_,rfl⟩;obtain⟨Q',D⟩: ∃Q',Q'=bI (m+1) (lU A V k):=⟨_,rfl⟩;rw[<- E]at j;rw[<- D]at w3;clear w1 w2 K nU nV;generalize eH A V (k+1)/4294967296^k/V=d at*
  generalize lU A V (k+1)/4294967296^k%4294967296=od at*
  generalize bI (m+1) (lU A V (k+1))=Q0 at*
  generalize bI (n+2+m+1) (eH A V (k+1))=R0 at*
  refine ai (aL ek (k:=ay rfl (ak (ai (am ?_)))))
  ((refine Fv 11 j 67 0 [] [] (by simp[wk]) (by omega) (pO rfl) (ec _ _) (by simp[wk]) (by decide) fun K f=>?_);simp(disch:=omega) only[kd,aa,u,aK,Y,Nat.reduceEqDiff,Nat.reduceLeDiff,Z];apply f;refine⟨⟨rfl,rfl⟩,by simp,?_⟩;intro K f;simp(disch:=omega) only[kd,aa,Wu,cwD,Nat.reduceEqDiff,gq,dq,w3];apply f)
  show bf _ _ _ _;refine bS (k:=?_);refine⟨⟨k,by omega⟩,by simp,aj ⟨?_,?_,trivial⟩ ?_⟩
  ·simp[ax,Hm,E]
  ·simp[ax,Hm,D]
  simp[wk]
 have af:i=0:=by omega
 subst af;rw[ab,ac];generalize bI (n+2+m+1) (a%b*2^s)=R0 at*
 unfold Dk;have l1:=bP (m+1) (a/b);have l2:=bP (n+2+m+1) (a%b);generalize bI (n+2+m+1) (a%b)=R1 at*
 generalize bI (m+1) (a/b)=Q1 at*
 generalize a/b=q at*
 generalize a%b=r at*
 refine ai (ar (k:=aq rfl (aZ ?_)));show bf _ _ _ _
 (refine vy 2 sr 67 0 [] [] (by simp[wk]) (by omega) (pO rfl) (ec _ _) (by simp[wk]) (by decide) fun K f=>?_;simp only[kd];apply f;refine⟨⟨rfl,rfl⟩,by simp,?_⟩;intro K f;simp only[kd,aa,Wu,cwD,Nat.reduceEqDiff];apply f)
 refine bf.weak ((bD 67 (bO rfl)).trans ((bD 74 (bO rfl)).trans (aj (tm:=(j4 (cY Q1::j4 (jk::jk::cY R1::j16 (j16 (j16 (j16 (j16 (j4 (j4 (j4 ([])))))))))))) (l:=[]) trivial (by simp[wk,ew,dF,ax,Hm,eY,eG,aaz,l1,l2])))) ?_;refine bK [⟨1,_,_,_,M⟩,⟨3,_,_,_,N⟩] (k:=aD @results169)
theorem WA {a:Int} (g:x≠0) (f:0<=a):a/x=f4 (decide (x<0)) (a.natAbs/x.natAbs)/\a%x=f4 false (a.natAbs%x.natAbs):=by
 have c:tr a x=f4 false (a.natAbs%x.natAbs):=by grind [tr]
 have e:tq a x=f4 (decide (x<0)) (a.natAbs/x.natAbs):=by grind [tq]
 grind [F8,f4]
theorem SL {a:Int} (g:x≠0) (f:a<0) (h:a.natAbs%x.natAbs=0):a/x=f4 (!decide (x<0)) (a.natAbs/x.natAbs)/\a%x=f4 false (a.natAbs%x.natAbs):=by
 have c:tr a x=f4 false (a.natAbs%x.natAbs):=by grind [tr,f4]
 have e:tq a x=f4 (!decide (x<0)) (a.natAbs/x.natAbs):=by grind [tq]
 grind [F8,f4]
theorem Wz {a:Int} (m:x≠0) (e:a<0) (h:a.natAbs%x.natAbs≠0):a/x=f4 (!decide (x<0)) (a.natAbs/x.natAbs+1)/\a%x=f4 false (x.natAbs-a.natAbs%x.natAbs):=by
 have l:tr a x= -((a.natAbs%x.natAbs:Nat):Int):=by unfold tr;rw[decide_eq_true e];rfl
 have f:a.natAbs%x.natAbs<x.natAbs:=aaQ _ (by omega);by_cases c:x<0
 ·obtain⟨g,j⟩:=IQ (a:=a) c (by omega);grind [tq,f4]
 obtain⟨g,j⟩:=IR (a:=a) (show 0<x by omega) (by omega);grind [tq,f4]
def Bd (z:Int):Prop:=Sz z 268435456
theorem zq (a b:Int) (c:b≠0) (w:Bd a) (y:Bd b):CallC prog 120 [tZ a,tZ b] ⟨[],.tup [(true,cZ (a/b)),(true,cZ (a%b)),(false,[.p (.raw (.bool true))])]⟩:=by
 have B:(au a.natAbs).length<=268435456:=lP w;have C:(au b.natAbs).length<=268435456:=lP y;have t1:=eA (au a.natAbs) (by omega);have t2:=eA (au b.natAbs) (by omega);rw[ii]at t1 t2;have A:(au b.natAbs).length≠0:=fun h=>c (by grind [fD])
 have o:=K3 a.natAbs b.natAbs (by omega) B C;unfold Dk at o;have m:=fD (n:=a.natAbs%b.natAbs);have t:a.natAbs%b.natAbs<b.natAbs:=aaQ _ (by omega);have G:=pD (show a.natAbs/b.natAbs<=a.natAbs from aco _ _);have D:=pD (acD t);by_cases l:a<0
 ·by_cases s:a.natAbs%b.natAbs=0
  ·obtain⟨g,j⟩:=SL c l s;have e:=eE (!decide (b<0)) (a.natAbs/b.natAbs);have f:=eE false (a.natAbs%b.natAbs);rw[<- g]at e;rw[<- j]at f;have z:(au (a.natAbs%b.natAbs)).length=0:=m.2 s;clear g j;generalize a.natAbs/b.natAbs=q at*
   generalize a.natAbs%b.natAbs=r at*
   generalize a/b=Q at*
   generalize a%b=R at*
   refine aA func120 rfl ntmps120 (aC (k:=bL [⟨2,_,_,_,t2⟩] (k:=ai (ar (k:=aq rfl (ak (bL [⟨2,_,_,_,t1⟩,⟨4,_,_,_,o⟩] (k:=ar (k:=ai (am (ai (am (ai (am (ai (ai (ar (k:=aq rfl (ak (ar (k:=ay rfl (aZ (bC (k:=aZ (bL [⟨2,_,_,_,e⟩,⟨4,_,_,_,f⟩] (k:=aD @results120))))))))))))))))))))))))))
  obtain⟨g,j⟩:=Wz c l s;have u:=zp (au (a.natAbs/b.natAbs)) [1] (aE _) (by intro x F;grind) (by omega) (by simp);rw[az,show natV [1]=1 from rfl,show cY [1]= .one (.p (.sl [[.raw (.int .u32 1)]]))from rfl]at u;have v:=sJ (au b.natAbs) (au (a.natAbs%b.natAbs)) (aE _) (aE _) D (by grind [az]) (by omega);rw[az,az]at v;have e:=eE (!decide (b<0)) (a.natAbs/b.natAbs+1);have f:=eE false (b.natAbs-a.natAbs%b.natAbs);rw[<- g]at e;rw[<- j]at f;have z:(au (a.natAbs%b.natAbs)).length≠0:=fun h=>s (m.1 h)
  clear g j;generalize b.natAbs-a.natAbs%b.natAbs=E at*
  generalize a.natAbs/b.natAbs=q at*
  generalize a.natAbs%b.natAbs=r at*
  generalize a/b=Q at*
  generalize a%b=R at*
  refine aA func120 rfl ntmps120 (aC (k:=bL [⟨2,_,_,_,t2⟩] (k:=ai (ar (k:=aq rfl (ak (bL [⟨2,_,_,_,t1⟩,⟨4,_,_,_,o⟩] (k:=ar (k:=ai (am (ai (am (ai (am (ai (ai (ar (k:=ay rfl (aZ (bL [⟨2,_,_,_,u⟩] (k:=Yw [⟨2,_,_,_,v⟩] (k:=bC (k:=aZ (bL [⟨2,_,_,_,e⟩,⟨4,_,_,_,f⟩] (k:=aD @results120)))))))))))))))))))))))))
 obtain⟨g,j⟩:=WA c (show 0<=a by omega);have e:=eE (decide (b<0)) (a.natAbs/b.natAbs);have f:=eE false (a.natAbs%b.natAbs);rw[<- g]at e;rw[<- j]at f;clear g j;generalize a.natAbs/b.natAbs=q at*
 generalize a.natAbs%b.natAbs=r at*
 generalize a/b=Q at*
 generalize a%b=R at*
 refine aA func120 rfl ntmps120 (aC (k:=bL [⟨2,_,_,_,t2⟩] (k:=ai (ar (k:=aq rfl (ak (bL [⟨2,_,_,_,t1⟩,⟨4,_,_,_,o⟩] (k:=ar (k:=ai (am (ai (am (ai (am (ai (ai (ar (k:=aq rfl (ak (ar (k:=aq rfl (ak (aZ (bL [⟨2,_,_,_,e⟩,⟨4,_,_,_,f⟩] (k:=aD @results120)))))))))))))))))))))))))
structure Z3 (M:List (List Int)) where
 i:Nat
 hi:i<=M.length
 ok: ∀r∈M.take i,r.length=(M.headD []).length
theorem Qf (M:List (List Int)):CallC prog 230 [cq M] ⟨[],Xf M⟩:=by
 by_cases q:M.length<1
 ·rw[fY (fun h=>by have:=h.1;omega)];refine aA func230 rfl ntmps230 (aC (k:=ai (ar (k:=ay rfl (bC (k:=aD @results230))))))
 by_cases s:16<M.length
 ·rw[fY (fun h=>by have:=h.2.1;omega)];refine aA func230 rfl ntmps230 (aC (k:=ai (ar (k:=ay rfl (bC (k:=aD @results230))))))
 have f:=iY (M:=M) (by omega);have b:M.headD []∈M:=aai f;by_cases n:(M.headD []).length<1
 ·rw[fY (fun h=>by have:=(h.2.2 _ b).1;omega)];refine aA func230 rfl ntmps230 (aC (k:=ai (ar (k:=aq rfl (ak (aL f (k:=ai (ar (k:=ay rfl (bC (k:=aD @results230)))))))))))
 by_cases o:16<(M.headD []).length
 ·rw[fY (fun h=>by have:=(h.2.2 _ b).2.1;omega)];refine aA func230 rfl ntmps230 (aC (k:=ai (ar (k:=aq rfl (ak (aL f (k:=ai (ar (k:=ay rfl (bC (k:=aD @results230)))))))))))
 refine aA func230 rfl ntmps230 (aC (k:=ai (ar (k:=aq rfl (ak (aL f (k:=ai (ar (k:=aq rfl (ak (ai (bC (k:=?_)))))))))))));refine aB (G:=Z3 M) (fun g=>⟨(cq M::j4 (.raw (.int .i64 ((M.headD []).length:Int))::j16 (j4 (cq M::rN M.length::rN g.i::j4 (j4 (jk::jk::jk::[])))))),Hm []⟩) (fun g=>M.length-g.i) ⟨0,by omega,fun r e=>by simp at e⟩ ?_ ?_
 ·refine aj trivial ?_;simp[wk]
 rintro⟨i,t,ok⟩;simp only;by_cases l:i<M.length
 ·obtain⟨r,e⟩:=getElem?_of_lt l;have c:r∈M:=aai e;refine ar (k:=be rfl (ai (am (aL e (k:=?_)))));by_cases p:r.length=(M.headD []).length
  ·refine ar (k:=aq rfl (ak (bS (k:=?_))));refine⟨⟨i+1,by omega,fun u m=>?_⟩,by simp only;omega,aj trivial ?_⟩
   ·grind [List.take_add_one]
   simp[wk]
  rw[fY (fun h=>by have:=(h.2.2 r c).2.2;omega)];refine ar (k:=ay rfl (bC (k:=aD @results230)))
 have j:Fu M:=⟨by omega,by omega,fun r e=>by
  grind⟩
 rw[ig j];refine ar (k:=bv rfl (bC (k:=aD @results230)))
theorem Eu (M:List (List Int)):CallC prog 239 [da M] ⟨[],Xf M⟩:=by
 by_cases q:M.length<1
 ·rw[fY (fun h=>by have:=h.1;omega)];refine aA func239 rfl ntmps239 (aC (k:=ai (ar (k:=ay rfl (bC (k:=aD @results239))))))
 by_cases s:16<M.length
 ·rw[fY (fun h=>by have:=h.2.1;omega)];refine aA func239 rfl ntmps239 (aC (k:=ai (ar (k:=ay rfl (bC (k:=aD @results239))))))
 have f:=iY (M:=M) (by omega);have b:M.headD []∈M:=aai f;by_cases n:(M.headD []).length<1
 ·rw[fY (fun h=>by have:=(h.2.2 _ b).1;omega)];refine aA func239 rfl ntmps239 (aC (k:=ai (ar (k:=aq rfl (ak (aL f (k:=ai (ar (k:=ay rfl (bC (k:=aD @results239)))))))))))
 by_cases o:16<(M.headD []).length
 ·rw[fY (fun h=>by have:=(h.2.2 _ b).2.1;omega)];refine aA func239 rfl ntmps239 (aC (k:=ai (ar (k:=aq rfl (ak (aL f (k:=ai (ar (k:=ay rfl (bC (k:=aD @results239)))))))))))
 refine aA func239 rfl ntmps239 (aC (k:=ai (ar (k:=aq rfl (ak (aL f (k:=ai (ar (k:=aq rfl (ak (ai (bC (k:=?_)))))))))))));refine aB (G:=Z3 M) (fun g=>⟨(da M::j4 (.raw (.int .i64 ((M.headD []).length:Int))::j16 (j4 (da M::rN M.length::rN g.i::j4 (j4 (jk::jk::jk::[])))))),Hm []⟩) (fun g=>M.length-g.i) ⟨0,by omega,fun r e=>by simp at e⟩ ?_ ?_
 ·refine aj trivial ?_;simp[wk]
 rintro⟨i,t,ok⟩;simp only;by_cases l:i<M.length
 ·obtain⟨r,e⟩:=getElem?_of_lt l;have c:r∈M:=aai e;refine ar (k:=be rfl (ai (am (aL e (k:=?_)))));by_cases p:r.length=(M.headD []).length
  ·refine ar (k:=aq rfl (ak (bS (k:=?_))));refine⟨⟨i+1,by omega,fun u m=>?_⟩,by simp only;omega,aj trivial ?_⟩
   ·grind [List.take_add_one]
   simp[wk]
  rw[fY (fun h=>by have:=(h.2.2 r c).2.2;omega)];refine ar (k:=ay rfl (bC (k:=aD @results239)))
 have j:Fu M:=⟨by omega,by omega,fun r e=>by
  grind⟩
 rw[ig j];refine ar (k:=bv rfl (bC (k:=aD @results239)))
abbrev pp (M:List (List Int)):AV:= .p (.ptr [.sl (ls (fR fI) M)])
theorem YJ {n c:Nat} {f:FF} {i:Nat} (h:i<n) (l:m<c) (q:c<=16) (r:n<=16) (e: -9223372036854775808<=f i m/\f i m<=9223372036854775807):
  CallC prog 232 [.raw (.int .i64 (i:Int)),.raw (.int .i64 (m:Int)),.one (pp (mat n c f))] ⟨[],tZ (f i m)⟩:=by
 have o:=aT n c f;have p:=bF c f h;have b:=aw (f i) l;have g:=nC (f i m) e.1 e.2;refine aA func232 rfl ntmps232 (pf @pp.eq_1 (k:=cO [⟨7,_,_,_,g⟩] (aH p b) (k:=aD @results232)))
def MF (d n c i:Nat) (g:FF):List OObj:=⟨85,1,ju d (ae i c)++ae (n-i) [.p (.sl [])]⟩::(mat i c g).map nW
theorem Ky (d n c:Nat) (g:FF):([⟨85,1,ae n [.raw (.slice none 0 0)]⟩]:List OObj).map zO=MF d n c 0 g:=by
 simp[MF,mat,zO,ju,Fa,Fi]
theorem Nx (d n c:Nat) (g:FF):MF d n c n g=gu d n c g:=by
 simp[MF]
theorem Ny {d i:Nat} (g:FF) (j:i<n) (l: ∀b,b<m->g i b=0):
  ((⟨85,1,(ju d (ae i m)++ae (n-i) [AV.p (PV.sl [])]).set i [.sl d (i+1) 0 m]⟩::(mat i m g).map nW++[⟨65,2,ae m [.raw (.bool false),.raw (.slice none 0 0)]⟩]:List OObj)).map zO=MF d n m (i+1) g:=by
 have e:(ju d (ae i m)++ae (n-i) [AV.p (PV.sl [])]).set i [.sl d (i+1) 0 m]=ju d (ae (i+1) m)++ae (n-(i+1)) [AV.p (PV.sl [])]:=by
  rw[abG _ _ (by simp[cJ]),cJ,aaL,abC,acu (n:=i),rF,aaL,aaM]
  congr 1
  rw[show n-i=n-(i+1)+1 by omega,acx];rfl
 have f:aN m (g i)=ae m 0:=by
  apply aaC;grind [aw,aI]
 have h:mat (i+1) m g=mat i m g++[aN m (g i)]:=by simp[mat,abg]
 rw[e];simp only[aca,aaI,abe,MF,h,abV]
 congr 1
 ·simp[zO,Vk,Fa,Fi]
 congr 1
 ·grind [List.map_congr_left,zO,nW,Y3]
 simp[f,zO,nW,lc,fZ,Fa,Fi,cj,ls]
end Go.Proofs.YtalmoejhjceflaaGreat
