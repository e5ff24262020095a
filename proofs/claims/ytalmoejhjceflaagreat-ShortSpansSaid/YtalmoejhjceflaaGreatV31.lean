/-
  Part 32 of a proof (walks and plain facts).
-/
import Derived.Test.YtalmoejhjceflaaGreatV30
set_option linter.all false
set_option maxRecDepth 100000
set_option maxHeartbeats 64000000
open Nat renaming reduceAdd → aa
open List renaming replicate → af
namespace Go.Proofs.YtalmoejhjceflaaGreat
open Go.RowKit Go.Proofs.Tryz
variable {b:List Int} {x:Int} {n:Nat} {c:Aa}
section
abbrev X3 (f:FF) (z:List Int) (i k:Nat):Int:=smF (fun j=>f i j*z.getD j 0) k
section
variable {n:Nat} {f:FF} {z:List Int}
theorem Pk {i:Nat} {g h:Nat->Int} (e: ∀a,a<n->(if a=i then x else g a)=h a):(lc fI (aA n g)).set i [AV.p (.raw (.int .i64 x))]=lc fI (aA n h):=by
 rw[show[AV.p (.raw (.int .i64 x))]=(fI x).map AV.p from rfl,tW,lQ,bG e]
theorem TI (b: ∀i j,i<n->j<n-> -262144<=f i j/\f i j<=262144) (e: ∀j,-524288<=z.getD j 0/\z.getD j 0<=524288) {i k:Nat} (c:i<n) (h:k<=n): -((k:Int)*137438953472)<=X3 f z i k/\X3 f z i k<=(k:Int)*137438953472:=
 Wy k fun j g=>mU (b i j c (by omega)) (e j) (by omega) (by omega)
theorem Yw (L:n<=8) (K:z.length=n) (r: ∀i j,i<n->j<n-> -262144<=f i j/\f i j<=262144) (t: ∀j,-524288<=z.getD j 0/\z.getD j 0<=524288):
  CallC prog 134 [bV (mat n n f),d7 z] ⟨[],d7 (aA n fun i=>X3 f z i n)⟩:=by
 have c:=aS n n f;have q: ∀j,j<n->z[j]?=some (z.getD j 0):=fun j l=>by grind
 have F:=fun i j (h:i<n) (l:j<n)=>mU (r i j h l) (t j) (by omega) (by omega)
 have s:=fun i k h E=>TI (n:=n) (f:=f) (z:=z) (i:=i) (k:=k) r t h E
 have C: ∀i j,X3 f z i j+f i j*z.getD j 0=X3 f z i (j+1):=fun _ _=>rfl
 have o: ∀i,X3 f z i 0=0:=fun _=>rfl
 generalize X3 f z=S at*
 refine aB func134 rfl ntmps134 (aE (k:=aF c (k:=aj (d9 c (k:=?_)))));refine ay (G:=fp n) (fun g=>⟨(jk::d7 z::jk::jk::jk::.one (.sl 12 0 0 n)::j4 (jk::jk::jk::bV (mat n n f)::rN n::rN g.i::j16 (j4 (j4 (jk::jk::[]))))),Hm [(12,[⟨2,1,lc fI (aA n fun a=>if a<g.i then S a n else 0)⟩])]⟩) (fun g=>n-g.i) ⟨0,by omega⟩ ?_ ?_
 ·refine ak ⟨?_,trivial⟩ ?_
  ·show[_]=[_];rw[show(aA n fun a=>if a<0 then S a n else 0)=af n 0 from aeW fun j=>by grind [aw,az]];simp[lc,fI]
  simp[wk]
 rintro⟨i,h⟩;simp only;by_cases m:i<n
 ·have H:=bA n f m;have w:IntKind.i64.wrap ((i:Int)+1)=((i+1:Nat):Int):=by rw[aH (by omega) (by omega)];omega
  refine ax (k:=aP rfl (aj (ao (aF H (k:=d9 @az (k:=?_))))));refine ay (G:=fp n) (fun g=>⟨(jk::d7 z::jk::jk::jk::.one (.sl 12 0 0 n)::rN i::j4 (jk::jk::bV (mat n n f)::rN n::rN i::j4 (d7 (aA n (f i))::rN n::rN g.i::j16 (jk::jk::jk::[])))),Hm [(12,[⟨2,1,lc fI (aA n fun a=>if a<i then S a n else if a=i then S i g.i else 0)⟩])]⟩) (fun g=>n-g.i) ⟨0,by omega⟩ ?_ ?_
  ·refine ak ⟨?_,trivial⟩ ?_
   ·show[_]=[_];rw[bG (g':=fun a=>if a<i then S a n else if a=i then S i 0 else 0) fun a _=>by simp[o]]
   simp[wk]
  rintro⟨j,l⟩;simp only;by_cases b:j<n
  ·have y:=aw (f i) b;have A:=q j b;have B:(aA n fun a=>if a<i then S a n else if a=i then S i j else 0)[i]?=some (S i j):=by grind [aw]
   obtain⟨M,N⟩:=F i j m b;have O:=s i j m l;have P:=s i (j+1) m b;have u:=C i j;have e:(lc fI (aA n fun a=>if a<i then S a n else if a=i then S i j else 0)).set i [AV.p (.raw (.int .i64 (S i (j+1))))]=lc fI (aA n fun a=>if a<i then S a n else if a=i then S i (j+1)else 0):=Pk fun a _=>by grind
   have x:IntKind.i64.wrap ((j:Int)+1)=((j+1:Nat):Int):=by rw[aH (by omega) (by omega)];omega
   have I: -9223372036854775808<=S i j+f i j*z.getD j 0:=by omega
   have J:S i j+f i j*z.getD j 0<=9223372036854775807:=by omega
   refine ax (k:=aP rfl (aj (ao (aF y (k:=jz (aG B (aG A (aG u e))) (k:=df x (k:=?_)))))));refine⟨⟨j+1,by omega⟩,by grind,ak ⟨rfl,trivial⟩ ?_⟩;simp[wk]
  obtain rfl:j=n:=by omega
  refine ax (k:=aQ rfl (df w (k:=?_)));refine⟨⟨i+1,by omega⟩,by grind,ak ⟨?_,trivial⟩ ?_⟩
  ·show[_]=[_];rw[bG (g':=fun a=>if a<i+1 then S a j else 0) fun a _=>by grind]
  simp[wk]
 obtain rfl:i=n:=by omega
 rw[bG (g':=fun a=>S a i) fun a D=>if_pos D];refine ax (k:=aQ rfl (aZ (k:=?_)));refine aM ⟨.inr rfl,dI 12 (bj rfl) ?_ rfl⟩;have v:List.take i (aA i fun a=>S a i)=aA i fun a=>S a i:=aeS (by rw[az];omega)
 simp(disch:=omega) only[kd,results134,v,d7]
structure DtG (n:Nat) (T:Nat->Int) where
 i:Nat
 P:Int
 N:Int
 hi:i<=n
 h0:0<=P
 h1:0<=N
 e:P-N=T i
 b:P+N<=(i:Int)*576460752303423488
abbrev wiO (p:Int):List OObj:=[⟨232,2,[[.p (.raw (.int .u64 0)),.p (.raw (.int .u64 p))]]⟩]
theorem adM {y:Nat->Int} (K:n<=8) (D:z.length=n) (u: ∀j,-524288<=z.getD j 0/\z.getD j 0<=524288) (t: ∀i,i<n-> -1099511627776<=y i/\y i<=1099511627776):
  CallC prog 133 [d7 z,d7 (aA n y)] ⟨[],tvI (smF (fun i=>z.getD i 0*y i) n) true⟩:=by
 have m: ∀j,j<n->z[j]?=some (z.getD j 0):=fun j J=>by grind
 have w: ∀i,smF (fun i=>z.getD i 0*y i) (i+1)=smF (fun i=>z.getD i 0*y i) i+z.getD i 0*y i:=fun _=>rfl
 have A:smF (fun i=>z.getD i 0*y i) 0=0:=rfl;generalize smF (fun i=>z.getD i 0*y i)=T at*
 refine aB func133 rfl ntmps133 (aE (k:=ax (k:=aj (d9 D (k:=?_)))));refine ay (G:=DtG n T) (fun g=>⟨(jk::d7 (aA n y)::j4 (.one (.ptr 6 0 0 0)::.one (.ptr 7 0 0 0)::j4 (jk::jk::jk::d7 z::rN n::rN g.i::j16 (j16 (j16 (j16 (j4 (jk::jk::jk::[])))))))),Hm [(6,wiO g.P),(7,wiO g.N)]⟩) (fun g=>n-g.i) ⟨0,0,0,by omega,by omega,by omega,by omega,by omega⟩ ?_ ?_
 ·refine ak ⟨rfl,rfl,trivial⟩ ?_;simp[wk]
 rintro⟨i,P,N,I,p,q,C,H⟩;simp only;by_cases s:i<n
 ·have E:=m i s;have F:=aw y s;have o:IntKind.i64.wrap ((i:Int)+1)=((i+1:Nat):Int):=by rw[aH (by omega) (by omega)];omega
  have L:=mU (u i) (t i s) (by omega) (by omega);obtain⟨Q,R⟩:=u i;obtain⟨M,O⟩:=t i s;have B:=w i;clear w u t m;generalize z.getD i 0=a at*
  generalize y i=b at*
  refine ax (k:=aP rfl (aj (ao (aF E (k:=aF F (k:=?_))))));by_cases r:0<=a
  ·by_cases e:0<=b
   ·have h:=aeQ r e;have c:=GI P a b p r (by omega) e (by omega) (by omega);refine ao (ax (k:=aC rfl (NP [⟨5,_,_,_,c⟩] (k:=df o (k:=?_)))));refine⟨⟨i+1,P+a*b,N,by omega,by omega,by omega,by omega,by omega⟩,by simp only;omega,ak ⟨rfl,rfl,trivial⟩ ?_⟩;simp[wk]
   have h:=aeQ r (show 0<= -b by omega);rw[ai7]at h;have c:=GI N a (-b) q r (by omega) (by omega) (by omega) (by rw[ai7];omega);rw[ai7]at c;refine ao (ax (k:=aq rfl (ax (k:=aq rfl (ax (k:=aq rfl (nU [⟨6,_,_,_,c⟩] @ahM (k:=df o (k:=?_)))))))));refine⟨⟨i+1,P,N+ -(a*b),by omega,by omega,by omega,by omega,by omega⟩,by simp only;omega,ak ⟨rfl,rfl,trivial⟩ ?_⟩;simp[wk]
  by_cases e:0<=b
  ·have h:=aeQ (show 0<= -a by omega) e;rw[ahZ]at h;have c:=GI N (-a) b q (by omega) (by omega) e (by omega) (by rw[ahZ];omega);rw[ahZ]at c;refine ao (ax (k:=aq rfl (ax (k:=aq rfl (ax (k:=aC rfl (nU [⟨6,_,_,_,c⟩] @ahM (k:=df o (k:=?_)))))))));refine⟨⟨i+1,P,N+ -(a*b),by omega,by omega,by omega,by omega,by omega⟩,by simp only;omega,ak ⟨rfl,rfl,trivial⟩ ?_⟩;simp[wk]
  have h:=aeQ (show 0<= -a by omega) (show 0<= -b by omega);rw[aii]at h;have c:=GI P (-a) (-b) p (by omega) (by omega) (by omega) (by omega) (by rw[aii];omega);rw[aii]at c;refine ao (ax (k:=aq rfl (ax (k:=aC rfl (nU [⟨7,_,_,_,c⟩] @ahM (k:=df o (k:=?_)))))));refine⟨⟨i+1,P+a*b,N,by omega,by omega,by omega,by omega,by omega⟩,by simp only;omega,ak ⟨rfl,rfl,trivial⟩ ?_⟩;simp[wk]
 obtain rfl:i=n:=by omega
 have c:=Ki P N p (by omega) q (by omega);have v:=Ki N P q (by omega) p (by omega);rw[<- C];refine ax (k:=aQ rfl ?_);show bv _ _ _ _;by_cases l:N<=P
 ·rw[if_pos l]at c;refine aj (bu [⟨2,_,_,_,c⟩] (k:=aZ (k:=aC rfl (aZ (k:=aI @results133)))))
 rw[if_neg l]at c;rw[if_pos (by omega)]at v;refine aj (bu [⟨2,_,_,_,c⟩] (k:=aZ (k:=aq rfl (al ?_))));have x:0-(N-P)=P-N:=by omega
 refine bu [⟨2,_,_,_,v⟩] (k:=aF x (k:=aI @results133))
end
end
section
section
variable {n:Nat} {f:FF} {B:Int}
theorem fL (f:FF) (z:List Int):gp n f z=BF n f (fun i=>z.getD i 0) (fun i=>z.getD i 0):=by
 refine au n fun i _=>?_
 show smF (fun b=>f i b*z.getD i 0*z.getD b 0) n=z.getD i 0*smF (fun j=>f i j*z.getD j 0) n;grind [aW]
theorem LV (c:RedR f n) (o:n<=4) (v: ∀i j,i<n->j<n-> -262144<=f i j/\f i j<=262144) (l:0<=B) (m:B<=65536) (h:b.length=n) (r:fq f n B 0 (aL n b)):
  CallC prog 40 [bV (mat n n f),d7 b] ⟨[],.raw (.int .i64 (gp n f b))⟩/\0<=gp n f b/\gp n f b<=B:=by
 have g:=lk.1 r;have u:aL n b=fun i=>b.getD i 0:=funext fun i=>nj h i
 rw[u]at g;have q:B*((2^n:Nat):Int)<=((4096:Nat):Int)*((4096:Nat):Int):=by
  have e:(2^n:Nat)<=256:=aeN (ae5 (by omega) o) (by decide);generalize(2^n:Nat)=p at*
  have:=ae0 m (aif.2 e) (by omega) (by omega);omega
 have s: ∀i,(b.getD i 0).natAbs<=524288:=fun i=>by
  by_cases t:i<n
  ·have:=Dt c (fun i=>b.getD i 0) l g q (n-i-1) i (by omega);have e:2^(n-i-1)<=2^7:=ae5 (by omega) (by omega);omega
  grind
 refine⟨Zs n f b 262144 524288 (by omega) h (fun i j t w=>by grind) s (by decide),?_,?_⟩
 ·rw[fL];have:=(jQ c.pd.1 c.pd.2 (fun i=>b.getD i 0) n 0 (by omega)).1;rwa[cf (f':=f) (fun i j _ _=>de f i j) (fun _ _=>rfl) (fun _ _=>rfl)]at this
 grind [fL]
theorem aa0 (o:qH n f B) (r:Nat) (I:List (Int×Int)) (b:I.length<=4000000) (p: ∀z,z.length=n->fq f n B 0 (aL n z)->CallC prog 40 [bV (mat n n f),d7 z] ⟨[],.raw (.int .i64 (gp n f z))⟩/\ju (gp n f z)):
  ∀(k:Nat) (y:List Int) (pre post:List (Int×Int)) (g:MapS),y.length+(k+1)=n->tn y->fq f n B (k+1) (aL n y)->I=pre++uz f n B k y++post->GB g->g.1+(e9 f n B (k+1) y).length<=4000000->CnC n f B r I k y pre.length g
 |0,y,pre,post,g,m,u,l,v,x,C=>aa1 o r 0 y I pre post g m u l v b x C (fun _ c s t=>p (c::y) (by omega) (o.step m l s t).1) fun j e=>absurd e (by omega)
 |k+1,y,pre,post,g,m,u,l,v,x,C=>aa1 o r (k+1) y I pre post g m u l v b x C (fun e=>absurd e (by omega)) fun j e c q h E s t w A D=>by
  obtain rfl:k=j:=by omega
  exact aa0 o r I b p k (c::y) q h E (by grind) (o.tcb m u l s t) (o.step m l s t).1 w A D
theorem NA:GB (0,fun _=>0):=fun _=>⟨afY _,afY _⟩
theorem YM (h:qH n f B) (u:1<=n) (e: ∀z,z.length=n->fq f n B 0 (aL n z)->CallC prog 40 [bV (mat n n f),d7 z] ⟨[],.raw (.int .i64 (gp n f z))⟩/\ju (gp n f z)) (q:(uz f n B (n-1) []).length<=4000000) (s:(e9 f n B n []).length<=4000000):
  Ew prog 2 2 45 [bV (mat n n f),slV (uz f n B (n-1) [])] (gF (gp n f) (0,fun _=>0) (e9 f n B n [])):=by
 have t:=h.n8;have j:fq f n B n (aL n []):=gN h.r.pd h.b0;have c:=fun r=>aa0 h r (uz f n B (n-1) []) q e (n-1) [] [] [] (0,fun _=>0) (by simp;omega) tn.nil (by grind) (by simp) NA (by grind)
 unfold CnC at c;rw[show n-1+1=n by omega]at c;have g:=aS n n f;have o:IntKind.i64.wrap ((n:Int)-1)=((n-1:Nat):Int):=by grind [aH]
 generalize gF (gp n f) (0,fun _=>0) (e9 f n B n [])=GT at*
 generalize uz f n B (n-1) []=I at*
 generalize mat n n f=R at*
 clear h j e;refine QB (d:=9) (S1:=⟨(jk::jk::.one (.ptr 2 0 0 0)::.one (.ptr 3 0 0 0)::j16 ([])),Hm [(2,[⟨26,1,[[.p (.sl (ls (fR fI) R))]]⟩]),(3,[⟨76,1,[[.p (.sl (ls fV I))]]⟩])]⟩) func45 rfl (by kernel_rfl) [] [] ?_ ⟨_,rfl,rfl,rfl,rfl⟩ fun r K b=>?_
 ·rw[ntmps45];refine aaT (k:=?_);refine⟨rfl,ak ⟨rfl,rfl,trivial⟩ ?_⟩;simp[wk]
 simp(disch:=omega) only[kd,aa,Nat.reduceEqDiff];apply b;clear b K;refine dh (aG g (aG (fI0 n) @afc)) (k:=bU (k:=bU (k:=?_)));refine eF.weak ((Ac 6 1 (n:=n) rfl).trans ((fw 3 8 (by decide) (by decide)).trans ((fw 7 8 (by decide) (by decide)).trans ((fw 6 8 (by decide) (by decide)).trans ((fw 5 8 (by decide) (by decide)).trans (fw 2 8 (by decide) (by decide))))))) ?_;refine eF.weak (ak (tm:=(jk::jk::.one (.ptr 8 6 0 0)::.one (.ptr 8 1 0 0)::jk::.one (.ptr 8 5 0 0)::.one (.ptr 8 3 0 0)::.one (.ptr 8 2 0 0)::.one (.ptr 8 0 0 0)::j4 (j4 (jk::jk::jk::[])))) (l:=[(8,[⟨131,1,[[.raw .nilFunc]]⟩,⟨76,1,[[.p (.sl (ls fV I))]]⟩,⟨3,1,[[.p (.raw (.int .i64 0))]]⟩,⟨35,1,[[.sl 8 4 0 n]]⟩,⟨2,1,jo n++lc fI []⟩,⟨79,1,[[.p (.raw (.map (some r)))]]⟩,⟨26,1,[[.p (.sl (ls (fR fI) R))]]⟩])]) ⟨?_,trivial⟩ (by simp[wk,oc,iD,tH,aK])) ?_
 ·simp_all[aK,BC,iD,tH,jo,lc]
 refine dh (aG @lB.eq_1 @od.eq_1) (k:=?_);have m:=c r;refine aR (iF 4 m 8 [] [] (by kernel_rfl) (by omega) (by decide) fun K b=>?_);simp(disch:=omega) only[kd,aa,g,o];refine b _ ⟨⟨rfl,?_⟩,?_⟩
 ·grind [N2,be,Fy]
 clear b K;intro K b;simp(disch:=omega) only[kd,aa,CO,cwD,cnP,qy,oJ,Nat.reduceBEq,j5];apply b;clear b K;show eF _ _ _ _ _ _ _;refine bU (k:=?_);refine dX ⟨.inr rfl,rfl,_,bN.refl _,?_⟩;simp(disch:=omega) only[kd,results45]
end
end
section
theorem vW {a:Int} (h:a<=x):rng a x=a::rng (a+1) x:=by
 unfold rng;rw[show(x-a+1).toNat=(x-(a+1)+1).toNat+1 by omega,agl,aeX,aga];rw[show a+((0:Nat):Int)=a by omega];refine congrArg (List.cons a) (ae1 fun i _=>?_);grind
theorem qa {a:Int} (h:x<a):rng a x=[]:=by
 grind [rng]
theorem p9 (a b:Int):(rng a b).length=(b-a+1).toNat:=by
 simp_all[rng]
def sL (n:Nat) (c:List Int):Int:=smF (fun i=>c.getD i 0) n
def ctL (g:Int->List Int->Bool×List Int):List Int->List Int->Bool×List Int
 |[],c=>(true,c)
 |x::l,c=>if(g x c).1=true then ctL g l (g x c).2 else(false,(g x c).2)
def AC (m:Nat) (d:Int) (c:List Int):List Int:=c.set m (c.getD m 0+(d+1))
section
variable (n:Nat) (f:FF) (B bud:Int)
noncomputable def AF (k:Nat) (y c:List Int) (K:List Int->Bool×List Int):Bool×List Int:=
 if dy f n B k (aL n y)<cu f n B k (aL n y)then(true,c)else if bud<=dy f n B k (aL n y)-cu f n B k (aL n y)then(false,c)else
 if bud<sL n (AC y.length (dy f n B k (aL n y)-cu f n B k (aL n y)) c)then(false,AC y.length (dy f n B k (aL n y)-cu f n B k (aL n y)) c)else K (AC y.length (dy f n B k (aL n y)-cu f n B k (aL n y)) c)
noncomputable def CU:Nat->List Int->List Int->Bool×List Int
 |0,y,c=>AF n f B bud 0 y c fun b=>(true,b)
 |k+1,y,c=>AF n f B bud (k+1) y c fun b=>ctL (fun x=>CU k (x::y)) (rng (cu f n B (k+1) (aL n y)) (dy f n B (k+1) (aL n y))) b
end
section
variable {n:Nat} {f:FF} {B bud:Int}
def CtP (n:Nat) (bud:Int) (c:List Int):Prop:=c.length=n/\(∀i,i<n->0<=c.getD i 0)/\sL n c<=bud
theorem UP {i:Nat} (e:n<b.length):(b.set n x).getD i 0=if i=n then x else b.getD i 0:=by
 grind
theorem zk {d:Int}:(AC n d b).length=b.length:=by simp[AC]
theorem AD {m i:Nat} {d:Int} {c:List Int} (b:m<c.length):(AC m d c).getD i 0=if i=m then c.getD m 0+(d+1)else c.getD i 0:=UP b
theorem uZ {m:Nat} {d:Int} (e:b.length=n) (g:m<n):sL n (AC m d b)=sL n b+(d+1):=by
 grind [sL,mt,AD]
theorem AE {m:Nat} {d:Int} (e:b.length=n) (l:m<n) (g:0<=d) (h: ∀i,i<n->0<=b.getD i 0): ∀i,i<n->0<=(AC m d b).getD i 0:=fun i j=>by
 grind [AD]
theorem D9 (h: ∀i,i<n->0<=b.getD i 0) {i:Nat} (g:i<n):b.getD i 0<=sL n b:=by
 have e:=mt (F:=fun j=>b.getD j 0) (G:=fun j=>if j=i then 0 else b.getD j 0) (i:=i) (m:=n) g fun a _ l=>by omega
 have o:=jG (F:=fun j=>if j=i then 0 else b.getD j 0) n fun a p=>by
  grind
 simp only[if_true]at e;show _<=smF (fun i=>b.getD i 0) n;omega
theorem Ug {g:Int->List Int->Bool×List Int} {m:Int->Nat}: ∀(l:List Int) (c:List Int),(∀x∈l,∀c,CtP n bud c->(g x c).2.length=n/\((g x c).1=true->CtP n bud (g x c).2/\(g x c).2.getD (n-1) 0=c.getD (n-1) 0+(m x:Int)))->CtP n bud c->
  (ctL g l c).2.length=n/\((ctL g l c).1=true->CtP n bud (ctL g l c).2/\(ctL g l c).2.getD (n-1) 0=c.getD (n-1) 0+((l.map m).sum:Nat))
 |[],c,_,b=>⟨b.1,fun _=>⟨b,by simp[ctL]⟩⟩
 |x::l,c,e,b=>by
  obtain⟨q,j⟩:=e x (by simp) c b;rw[ctL];by_cases h:(g x c).1=true
  ·rw[if_pos h];obtain⟨o,r⟩:=j h;obtain⟨s,t⟩:=Ug l (g x c).2 (fun z p=>e z (by simp[p])) o;grind
  grind
theorem mh (k:Nat) (y:List Int):(e9 f n B (k+1) y).length=((rng (cu f n B k (aL n y)) (dy f n B k (aL n y))).map fun x=>(e9 f n B k (x::y)).length).sum:=by
 simp_all[e9]
theorem Uf {k:Nat} {c:List Int} {K:List Int->Bool×List Int} (q:b.length+(k+1)=n) (e:CtP n bud c) {M:Nat} (p:dy f n B k (aL n b)<cu f n B k (aL n b)->M=0) (o:cu f n B k (aL n b)<=dy f n B k (aL n b)-> ∀g,CtP n bud g->g=AC b.length (dy f n B k (aL n b)-cu f n B k (aL n b)) c->(K g).2.length=n/\((K g).1=true->CtP n bud (K g).2/\(K g).2.getD (n-1) 0=c.getD (n-1) 0+(M:Int))):
  (AF n f B bud k b c K).2.length=n/\((AF n f B bud k b c K).1=true->CtP n bud (AF n f B bud k b c K).2/\(AF n f B bud k b c K).2.getD (n-1) 0=c.getD (n-1) 0+(M:Int)):=by
 unfold AF;by_cases j:dy f n B k (aL n b)<cu f n B k (aL n b)
 ·rw[if_pos j];exact⟨e.1,fun _=>⟨e,by grind⟩⟩
 rw[if_neg j];by_cases l:bud<=dy f n B k (aL n b)-cu f n B k (aL n b)
 ·rw[if_pos l];exact⟨e.1,fun h=>by cases h⟩
 rw[if_neg l];by_cases m:bud<sL n (AC b.length (dy f n B k (aL n b)-cu f n B k (aL n b)) c)
 ·rw[if_pos m];exact⟨by rw[zk];exact e.1,fun h=>by cases h⟩
 rw[if_neg m];exact o (by omega) _ ⟨by rw[zk];exact e.1,AE e.1 (by omega) (by omega) e.2.1,by omega⟩ rfl
theorem zB {b:Type} (l:List b):(l.map fun _=>1).sum=l.length:=by
 induction l with
 |nil=>rfl
 |cons x l c=>grind
theorem pH: ∀(k:Nat) (y c:List Int),y.length+(k+1)=n->CtP n bud c->
  (CU n f B bud k y c).2.length=n/\((CU n f B bud k y c).1=true->CtP n bud (CU n f B bud k y c).2/\(CU n f B bud k y c).2.getD (n-1) 0=c.getD (n-1) 0+((e9 f n B (k+1) y).length:Int))
 |0,y,c,q,j=>by
  have e:(e9 f n B 1 y).length=(dy f n B 0 (aL n y)-cu f n B 0 (aL n y)+1).toNat:=by
   grind [mh,e9,zB,p9]
  rw[show CU n f B bud 0 y c=AF n f B bud 0 y c fun b=>(true,b)from rfl];refine Uf q j (fun h=>by grind) fun r b l o=>⟨l.1,fun _=>⟨l,?_⟩⟩
  show b.getD (n-1) 0=_;rw[o,AD (by rw[j.1];omega),if_pos (by omega),e,show y.length=n-1 by omega];omega
 |k+1,y,c,q,j=>by
  rw[show CU n f B bud (k+1) y c=AF n f B bud (k+1) y c fun b=>ctL (fun x=>CU n f B bud k (x::y)) (rng (cu f n B (k+1) (aL n y)) (dy f n B (k+1) (aL n y))) b from rfl];refine Uf q j (fun h=>by rw[mh,qa h];rfl) fun r b l o=>?_
  have p:=Ug (n:=n) (bud:=bud) (g:=fun x=>CU n f B bud k (x::y)) (m:=fun x=>(e9 f n B (k+1) (x::y)).length) (rng (cu f n B (k+1) (aL n y)) (dy f n B (k+1) (aL n y))) b
   (fun x _ c j=>pH k (x::y) c (by grind) j) l
  refine⟨p.1,fun s=>⟨(p.2 s).1,?_⟩⟩;rw[(p.2 s).2,o,AD (by rw[j.1];omega),if_neg (by omega),mh]
end
def dN (f:FF):Nat->Int
 |0=>0
 |k+1=>if dN f k<f k k then f k k else dN f k
theorem Fg {f:FF} {M:Int} (b:0<=M): ∀k,(∀i,i<k->f i i<=M)->0<=dN f k/\dN f k<=M
 |0,_=>⟨afY _,b⟩
 |k+1,h=>by
  have:=Fg b k fun i c=>h i (by omega)
  grind [dN]
theorem xk {f:FF}: ∀k i,i<k->f i i<=dN f k
 |0,i,h=>by omega
 |k+1,i,h=>by
  unfold dN;by_cases e:i=k
  ·grind
  have:=xk (f:=f) k i (by omega);omega
abbrev wq (d:List Int) (e:Int):TV:= .tup [(false,[.p (.sl (ls fI d))]),(false,[.p (.raw (.int .i64 e))])]
end
section
variable {n:Nat} {f:FF} {B:Int}
theorem Y7 {d:Int} (b:0<d) (c:0<=x):isqF (x*d)/d=isqF (x/d):=by
 have l:=dU (aeQ c (afA b));have m:=dU (af9 c (afA b));refine NC.uniq ?_ m;obtain⟨j,p,s⟩:=l;generalize isqF (x*d)=r at*
 have g:0<=r/d:=af9 j (afA b);have h:=aih r (show d≠0 by omega);have o:=agE r b;generalize r/d=q at*
 refine⟨g,?_,?_⟩
 ·rw[agH b];have e:q*q*d*d<=x*d:=by
   have:(q*d)*(q*d)<=r*r:=ae0 h h (aeQ g (afA b)) j;grind
  simp_all
 rw[Int.ediv_lt_iff_lt_mul b];have e:x*d<(q+1)*(q+1)*d*d:=by
  have:(r+1)*(r+1)<=((q+1)*d)*((q+1)*d):=ae0 (by omega) (by omega) (by omega) (by omega);grind
 simp_all
theorem Bw (c:0<dk f 1) (b:0<=B):cu f 1 B 0 (aL 1 [])= -isqF (B/dk f 1)/\dy f 1 B 0 (aL 1 [])=isqF (B/dk f 1):=by
 have g:jU f 1 0 (aL 1 [])=0:=by rfl
 have e:gE f 1 B 0 (aL 1 [])=B*dk f 1:=by
  grind [BF,aL,smF,gE,b8]
 grind [cu,dy,Y7]
theorem ZX {a c:Int} (h:a<=c) (g:c<=x+1):rng a x=rng a (c-1)++rng c x:=by
 obtain⟨m,e⟩: ∃m:Nat,c=a+m:=⟨(c-a).toNat,by omega⟩;subst e;clear h
 induction m generalizing a with
 |zero=>
  grind [lP]
 |succ m j=>
  rw[jM (a:=a) (b:=x) (by omega),jM (a:=a) (by omega)];grind
noncomputable def toL (f:FF) (n:Nat) (B:Int):Nat->List Int->Nat
 |0,y=>(rng (cu f n B 0 (aL n y)) (dy f n B 0 (aL n y))).length
 |k+1,y=>(rng (cu f n B (k+1) (aL n y)) (dy f n B (k+1) (aL n y))).length+((rng (cu f n B (k+1) (aL n y)) (dy f n B (k+1) (aL n y))).map fun c=>toL f n B k (c::y)).sum
theorem PA {F G:Int->Nat}: ∀l:List Int,(∀c,F c<=1+G c)->(l.map F).sum<=l.length+(l.map G).sum
 |[],_=>by simp
 |c::l,h=>by
  have:=PA l h;grind
theorem Ll: ∀(k:Nat) (y:List Int),(uz f n B k y).length<=1+toL f n B k y
 |0,y=>by show 1<=_;omega
 |k+1,y=>by
  have:=PA (rng (cu f n B (k+1) (aL n y)) (dy f n B (k+1) (aL n y))) fun c=>Ll k (c::y)
  grind [uz,toL,List.length_flatMap]
theorem zA {F G:Int->Nat}: ∀l:List Int,(∀c,c∈l->F c<=G c)->(l.map F).sum<=(l.map G).sum
 |[],_=>by simp
 |c::l,h=>by
  have:=zA l fun c b=>h c (by simp[b])
  grind
theorem PB {G:Int->Nat} {a c:Int} (h:a<=c):((rng c x).map G).sum<=((rng a x).map G).sum:=by
 by_cases e:c<=x+1
 ·rw[ZX h e,afv,List.sum_append];omega
 grind [lP]
theorem nZ: ∀(k:Nat) (y:List Int),(e9 f n B (k+1) y).length<=toL f n B k y
 |0,y=>by
  rw[mh];show((rng _ _).map fun _=>1).sum<=_;rw[zB];exact aeJ _
 |k+1,y=>by
  rw[mh];simp only[toL];exact aeN (zA _ fun c _=>nZ k (c::y)) (by omega)
/-! Steps. -/
structure OkG (n:Nat) (g:Aa):Prop where
 s:g.stop=false
 l:0<=g.left
 ln:g.steps.length=n
 p: ∀i,i<n->0<=g.steps.getD i 0
structure EA (n T V:Nat) (g:Aa) (r:Aa×Bool):Prop where
 ok:(T:Int)<=g.left->r.2=true/\OkG n r.1/\r.1.left=g.left-T/\r.1.steps.getD (n-1) 0=g.steps.getD (n-1) 0+V/\sL n r.1.steps=sL n g.steps+T
 no:g.left<T->r.2=false/\r.1.stop=true
theorem EA.comp {e o m p:Nat} {b r:Aa×Bool} (q:EA n e o c b) (s:b.2=true->OkG n b.1->EA n m p b.1 r) (t:b.2=false->r=(b.1,false)):EA n (e+m) (o+p) c r:=by
 by_cases u:(e:Int)<=c.left
 ·obtain⟨j,l,v,w,x⟩:=q.ok u;have k:=s j l;refine⟨fun h=>?_,fun h=>?_⟩
  ·obtain⟨y,z,A,C,D⟩:=k.ok (by omega);grind
  exact k.no (by omega)
 obtain⟨j,l⟩:=q.no (by omega);rw[t j];exact⟨fun h=>by omega,fun _=>⟨rfl,l⟩⟩
theorem XV {g:Aa} (j:OkG n g) {m c:Nat} (r:1<=m) (q:m<=n):EA n c (if m=n then c else 0) g (Gw n m c g):=by
 have b:=j.ln;refine⟨fun h=>?_,fun h=>?_⟩
 ·unfold Gw;rw[if_neg (by omega)];have l:=uZ (n:=n) (m:=m-1) (d:=(c:Int)-1) j.ln (by omega);have e:=fun i=>AD (m:=m-1) (i:=i) (d:=(c:Int)-1) (c:=g.steps) (by omega)
  unfold AC at l e;rw[show(c:Int)-1+1=c by omega]at l e;refine⟨rfl,⟨rfl,by grind,by simp[b],fun i o=>?_⟩,rfl,?_,l⟩
  ·show 0<=(g.steps.set (m-1) (g.steps.getD (m-1) 0+c)).getD i 0;rw[e i];have:=j.p i o;grind
  grind
 grind [Gw]
theorem Vk {b:Int->Aa->Aa×Bool} {T V:Int->Nat} {hi:Int}: ∀(m:Nat) (x:Int) (g:Aa),hi-x+1=m->OkG n g->(∀c g,x<=c->c<=hi->OkG n g->EA n (T c) (V c) g (b c g))->EA n ((rng x hi).map T).sum ((rng x hi).map V).sum g (lpM b m x g)
 |0,x,g,s,e,_=>by
  rw[lP (by omega)];refine⟨fun _=>⟨rfl,e,?_,?_,?_⟩,fun h=>?_⟩
  ·simp[lpM]
  ·simp[lpM]
  ·simp[lpM]
  have:=e.l;grind
 |m+1,x,g,s,e,j=>by
  rw[jM (by omega)];simp only[aeX,aiF];refine(j x g (afY _) (by omega) e).comp (fun o p=>?_) fun o=>?_
  ·have:=Vk m (x+1) (b x g).1 (by omega) p fun c g t q r=>j c g (by omega) q r
   grind [lpM]
  grind [lpM]
theorem PZ (o:qH n f B): ∀(k:Nat) (y:List Int) (g:Aa),y.length+(k+1)=n->tn y->fq f n B (k+1) (aL n y)->OkG n g->EA n (toL f n B k y) (e9 f n B (k+1) y).length g (lY (Gw n) f n B k y g)
 |0,y,g,l,p,j,r=>by
  have s:=(o.lohi l p j).2.2;have h:=XV r (m:=n) (c:=(rng (cu f n B 0 (aL n y)) (dy f n B 0 (aL n y))).length) (by omega) (aeJ _);rw[if_pos rfl]at h;have e:(e9 f n B (0+1) y).length=(rng (cu f n B 0 (aL n y)) (dy f n B 0 (aL n y))).length:=by
   rw[mh];show((rng _ _).map fun _=>1).sum=_;rw[zB]
  rw[e];have q:(((rng (cu f n B 0 (aL n y)) (dy f n B 0 (aL n y))).length:Nat):Int)=dy f n B 0 (aL n y)-cu f n B 0 (aL n y)+1:=by rw[p9];omega
  rw[q]at h;exact h
 |k+1,y,g,l,p,j,r=>by
  have s:=(o.lohi l p j).2.2;have h:=XV r (m:=n-(k+1)) (c:=(rng (cu f n B (k+1) (aL n y)) (dy f n B (k+1) (aL n y))).length) (by omega) (by omega);rw[if_neg (by omega)]at h;have q:(((rng (cu f n B (k+1) (aL n y)) (dy f n B (k+1) (aL n y))).length:Nat):Int)=dy f n B (k+1) (aL n y)-cu f n B (k+1) (aL n y)+1:=by rw[p9];omega
  rw[q]at h;rw[mh,show((rng (cu f n B (k+1) (aL n y)) (dy f n B (k+1) (aL n y))).map fun x=>(e9 f n B (k+1) (x::y)).length).sum=0+((rng (cu f n B (k+1) (aL n y)) (dy f n B (k+1) (aL n y))).map fun x=>(e9 f n B (k+1) (x::y)).length).sum by omega];unfold toL lY;refine h.comp (fun v w=>?_) fun v=>?_
  ·have:=Vk (b:=fun c=>lY (Gw n) f n B k (c::y)) (T:=fun c=>toL f n B k (c::y)) (V:=fun c=>(e9 f n B (k+1) (c::y)).length) (hi:=dy f n B (k+1) (aL n y)) (dy f n B (k+1) (aL n y)-cu f n B (k+1) (aL n y)+1).toNat (cu f n B (k+1) (aL n y)) _ (by omega) w fun c g t u z=>PZ o k (c::y) g (by grind) (o.tcb l p j t u) (o.step l j t u).1 z
   grind
  grind
theorem ada (b:qH n f B) (o:1<=n) (m:OkG n c): ∃t,EA n (toL f n B (n-1) []) (e9 f n B n []).length c (PM (Gw n) f n B c,t):=by
 have j:fq f n B n (aL n []):=gN b.r.pd b.b0;have h:=PZ b (n-1) [] c (by simp;omega) tn.nil (by grind) m;rw[show n-1+1=n by omega]at h;by_cases e:n=1
 ·subst e;have l:=b.d (k:=1) (by omega);obtain⟨l1,p⟩:=Bw (f:=f) l.1 b.b0;grind [lY,PM]
 grind [PM]
end
section
structure Rf (M:List (List Int)) (n:Nat) (f:FF):Prop where
 red:isReducedM M=true
 e:M=mat n n f
 n1:1<=n
 n8:n<=4
 r:RedR f n
 b: ∀i j,i<n->j<n-> -262144<=f i j/\f i j<=262144
 en:ent M=f
 l:M.length=n
theorem Pg {M:List (List Int)} (h:isReducedM M=true):Rf M M.length (ent M):=by
 obtain⟨e,b,c,g,f⟩:=Jm h;exact⟨h,e,b,c,g,f,rfl,rfl⟩
section
variable {M:List (List Int)} {n:Nat} {f:FF} {B k:Int}
theorem Rf.vs (h:Rf M n f) (b:0<=B) (c:B<=65536):qH n f B:=acI h.r h.n8 b (by omega)
theorem Zv (b:0<=k):OkG n ⟨k,af n 0,false⟩:=⟨rfl,b,by simp,fun i _=>by
 grind⟩
theorem CA (h:Rf M n f) (g:0<=B) (j:B<=65536) (m:0<=k) (o:k<=1000000):
  ((toL f n B (n-1) []:Int)<=k-> ∃L:List Int,sxA M B k= .tup [(false,[.p (.sl (ls fI L))]),(false,[.p (.raw (.int .i64 0))])]/\L.length=n/\(∀i,i<n->0<=L.getD i 0)/\sL n L=toL f n B (n-1) []/\L.getD (n-1) 0=((e9 f n B n []).length:Int))/\
  (k<(toL f n B (n-1) []:Int)->sxA M B k=sxE 9):=by
 have q:sxA M B k=sxR (PM (Gw n) f n B ⟨k,af n 0,false⟩):=by
  unfold sxA;rw[h.l,h.en]
 obtain⟨t,e⟩:=ada (h.vs g j) h.n1 (Zv (n:=n) m);rw[q];have w:(af n (0:Int)).getD (n-1) 0=0:=by
  grind
 have r:sL n (af n (0:Int))=0:=by
  simp_all[sL,au,b7]
 refine⟨fun c=>?_,fun c=>?_⟩
 ·obtain⟨_,b,_,u,v⟩:=e.ok c;refine⟨_,by unfold sxR;rw[if_neg (by rw[b.s];decide)],b.ln,b.p,?_,?_⟩
  ·grind
  grind
 obtain⟨_,b⟩:=e.no c;grind [sxR]
theorem acq (h:Rf M n f) (c:0<=B) (l:B<=65536) (o:(uz f n B (n-1) []).length<=2000000):CallC prog 94 [bV M,.raw (.int .i64 B)] ⟨[],slV (uz f n B (n-1) [])⟩:=by
 have g:=h.vs c l;rw[h.e];by_cases e:n=1
 ·subst e;have m:=g.d (k:=1) (aeJ 1);have j:dk f 1=f 0 0:=by show bk f 0 0 0=f 0 0;exact de f 0 0
  obtain⟨l1,p⟩:=Bw (f:=f) m.1 c;have:=Y4 f B (by omega) (by omega) c (by omega);show CallC _ _ _ ⟨[],slV [(cu f 1 B 0 (aL 1 []),dy f 1 B 0 (aL 1 []))]⟩;rw[l1,p,j];exact this
 have:=h.n1;exact Y5 g (Me h.r h.n1 h.n8 h.b) (by omega) o
theorem ace (h:Rf M n f) (c:0<=B) (e:B<=65536) (g:0<=k) (b:k<=1000000):
  ((toL f n B (n-1) []:Int)<=k->CallC prog 44 [bV M,.raw (.int .i64 B),.raw (.int .i64 k)] ⟨[],.tup [(false,[.p (.sl (ls fV (uz f n B (n-1) [])))]),(false,[.p (.raw (.int .i64 0))])]⟩)/\
  (k<(toL f n B (n-1) []:Int)->CallC prog 44 [bV M,.raw (.int .i64 B),.raw (.int .i64 k)] ⟨[],sxE 9⟩):=by
 have j:=BA h.red c e g b;grind [CA,Ll,Yg,acq,Yf]
noncomputable def thL (f:FF) (n b:Nat):List Int:=aA (b+1) fun m=>(gF (gp n f) (0,fun _=>0) (e9 f n (b:Int) n [])).2 m
theorem G7 (h:Rf M n f) (b:Nat) (hb:b<=1000) (V:0<=k) (D:k<=1000000) (H:(toL f n (b:Int) (n-1) []:Int)<=k):
  CallC prog 19 [bV M,.raw (.int .i64 (b:Int)),.raw (.int .i64 k)] ⟨[],.tup [(false,[.p (.sl (ls fI (thL f n b)))]),(false,[.p (.raw (.int .i64 0))])]⟩:=by
 have J:=h.vs (B:=(b:Int)) (by omega) (by omega);have X:=h.l;have Q:=h.n1;have R:=h.n8;have O:=ge M h.red;have N:=(ace h (B:=(b:Int)) (by omega) (by omega) V D).1 H;have w:=Ll (f:=f) (n:=n) (B:=(b:Int)) (n-1) [];have g:=nZ (f:=f) (n:=n) (B:=(b:Int)) (n-1) [];rw[show n-1+1=n by omega]at g;have F:=YM J Q (fun z E S=>by
  obtain⟨L,Y,Z⟩:=LV h.r R h.b (by omega) (by omega) E S;exact⟨L,by constructor<;>omega⟩) (by omega) (by omega)
 rw[<- h.e]at F;have o:=(UL (nm:=gp n f) (e9 f n (b:Int) n []) NA);have q: ∀j,0<=(gF (gp n f) (0,fun _=>0) (e9 f n (b:Int) n [])).2 j/\(gF (gp n f) (0,fun _=>0) (e9 f n (b:Int) n [])).2 j<=4000000:=fun j=>by
  have:=o.1 j;omega
 unfold thL;generalize gF (gp n f) (0,fun _=>0) (e9 f n (b:Int) n [])=G at*
 generalize uz f n (b:Int) (n-1) []=I at*
 clear o g w H J;have P:IntKind.i64.wrap ((b:Int)+1)=((b+1:Nat):Int):=aH (by omega) (by omega);have t:((b:Int)<0)=False:=eq_false (by omega);have u:(1000<(b:Int))=False:=eq_false (by omega);refine aB func19 rfl ntmps19 (aE (k:=aj (ao (bu [⟨1,_,_,_,O⟩] (k:=aq rfl (aj (d9 t (k:=aq rfl (df u (k:=aq rfl (al (bu [⟨3,_,_,_,N⟩] (k:=aj (ax (k:=aq rfl (al (Yq 2 34 F [] [] (by decide) rfl fun K c=>?_)))))))))))))))));simp only[kd];refine c _ ⟨rfl,by simp[xH,jE],?_⟩;clear c K;intro r K c;simp only[kd,aa];apply c;clear c K;have E:af (b+1) [AV.p (.raw (.int .i64 0))]=lc fI (aA (b+1) fun j=>if j<0 then G.2 (j:Int)else 0):=by
  have h0:(aA (b+1) fun j=>if j<0 then G.2 (j:Int)else 0)=af (b+1) 0:=aeW fun i=>by
   grind [aA]
  grind [fI0]
 refine dh P (k:=aR (bU (k:=?_)));refine dT (G:=fp (b+1)) (fun v=>⟨(j4 (j4 (jk::jk::.raw (.map (some r))::.one (.sl 37 0 0 (b+1))::j16 (j4 (j4 (jk::jk::jk::.raw (.int .i64 ((b+1:Nat):Int))::rN v.i::j4 (j4 (jk::jk::[])))))))),Hm [(37,[⟨2,1,lc fI (aA (b+1) fun j=>if j<v.i then G.2 (j:Int)else 0)⟩])]⟩) (fun _=>G) (fun v=>b+1-v.i) ⟨0,by omega⟩ ?_ rfl ?_
 ·refine ak ⟨?_,trivial⟩ ?_
  ·rw[<- E];rfl
  simp[wk]
 rintro⟨i,hi⟩;simp only;by_cases W:i<b+1
 ·have A:=az (b+1) (fun j=>if j<i then G.2 (j:Int)else 0);have y:=aw (fun j=>if j<i then G.2 (j:Int)else 0) W;have s:(lc fI (aA (b+1) fun j=>if j<i then G.2 (j:Int)else 0)).set i [AV.p (.raw (.int .i64 (G.2 (i:Int))))]=lc fI (aA (b+1) fun j=>if j<i+1 then G.2 (j:Int)else 0):=by
   rw[show[AV.p (.raw (.int .i64 (G.2 (i:Int))))]=(fI (G.2 (i:Int))).map AV.p from rfl,tW,lQ];grind
  have T:=q (i:Int);refine bU (k:=nT rfl (aR (cQ (bU (k:=KC aba 4 47 (i:Int) [] [] (by kernel_rfl) (by decide) rfl ⟨by omega,by omega⟩ fun K c=>?_)))));simp only[kd,aa];refine c _ ⟨rfl,?_⟩;clear c K;intro K c;simp(disch:=omega) only[kd,aa,y,s];apply c;clear c K;show eF _ _ _ _ _ _ _;refine tD (k:=?_);refine⟨⟨i+1,by omega⟩,by grind,ak ⟨rfl,trivial⟩ ?_,rfl⟩;simp[wk]
 have C:i=b+1:=by omega
 subst C;refine bU (k:=po rfl ?_);show eF _ _ _ _ _ _ _;have x:(aA (b+1) fun j=>if j<b+1 then G.2 (j:Int)else 0)=aA (b+1) fun m=>G.2 (m:Int):=bG fun j U=>if_pos U
 rw[x];have A:=az (b+1) (fun m=>G.2 (m:Int));refine bU (k:=dX ?_);show _/\_;refine⟨.inr rfl,dI 37 (bj rfl) ?_ rfl⟩;simp(disch:=omega) only[kd,results19];grind
end
end
section
section
variable {M:List (List Int)} {n:Nat} {f:FF} {B:Int}
theorem Ua (r:RedR f n) (l:n<=4) (h:0<=B) (j:B<=65536) (t:b.length=n) (g:gp n f b<=B): ∀c∈b,c.natAbs<=4096*2^(n-1):=fun c o=>by
 rw[fL]at g;have m:B*((2^n:Nat):Int)<=((4096:Nat):Int)*((4096:Nat):Int):=by
  have e:(2^n:Nat)<=256:=aeN (ae5 (by omega) l) (show 2^4<=256 by decide);generalize(2^n:Nat)=p at*
  have:=ae0 j (aif.2 e) (by omega) (by omega);omega
 obtain⟨i,s⟩:=afo.1 o;have q:i<n:=by grind
 have:=Dt r (fun i=>b.getD i 0) h g m (n-i-1) i (by omega);have e:2^(n-i-1)<=2^(n-1):=ae5 (by omega) (by omega);grind
theorem T8 (m:RedR f n) (h:n<=4) (e:0<=B) (g:B<=65536) (o:b.length=n) (j:gp n f b<=B): ∀c∈b,c.natAbs<=524288:=fun c l=>by
 have p:=Ua m h e g o j c l;have q:2^(n-1)<=2^7:=ae5 (by omega) (by omega);omega
theorem T9 (m:RedR f n) (h:n<=3) (e:0<=B) (g:B<=65536) (o:b.length=n) (j:gp n f b<=B): ∀c∈b,c.natAbs<32768:=fun c l=>by
 have p:=Ua m (by omega) e g o j c l;have h:2^(n-1)<=2^2:=ae5 (by omega) (by omega);omega
theorem qU (c:RedR f n) (b:0<=B) (z:List Int):z∈e9 f n B n []↔z.length=n/\gp n f z<=B:=by
 rw[vv c.pd b,fL]
theorem Ln: ∀(k:Nat) (w z:List Int),z∈e9 f n B k w-> ∃p,z=p++w
 |0,w,z,h=>⟨[],by grind [e9]⟩
 |k+1,w,z,h=>by
  simp only[e9,ahj]at h;obtain⟨c,_,h⟩:=h;obtain⟨p,rfl⟩:=Ln k (c::w) z h;exact⟨p++[c],by simp⟩
theorem Wu {r:List Int} (h: ∀e∈b,e=0) (g:x≠0):bT (b++x::r)=if x<0 then -1 else 1:=by
 grind [bT]
theorem Pq {p:List Int} (h: ∀e∈b,e=0) (g:x≠0):bT (p++x::b).reverse=if x<0 then -1 else 1:=by
 grind [Wu]
theorem OR (j:qH n f B) (z:List Int): ∀(k:Nat) (y:List Int) (b:Bool),y.length+(k+1)=n->tn y->fq f n B (k+1) (aL n y)->(b=true-> ∀x∈y,x=0)->(z∈CP f n B false k y b↔z∈e9 f n B (k+1) y/\(b=true->bT z.reverse=1))
 |0,y,b,h,u,g,o=>by
  have r:=fun e=>sk j h g (o e)
  simp only[CP,e9,ahj,mr,aeK,Bool.false_and,afq,or_false];constructor
  ·rintro⟨c,⟨l,m⟩,t⟩;split at t
   ·simp at t
   rename_i s;obtain rfl:z=c::y:=by grind
   cases b with
   |false=>grind
   |true=>
    have q:c≠0:=fun e=>s (by simp[e])
    simp only[if_true]at l;refine⟨⟨c,⟨by grind,m⟩,rfl⟩,fun _=>?_⟩;have:=Pq (p:=[]) (o rfl) q;grind
  grind [bT]
 |k+1,y,b,h,u,g,o=>by
  have r:=fun e=>sk j h g (o e)
  have w:=fun c (l:cu f n B (k+1) (aL n y)<=c) (m:c<=dy f n B (k+1) (aL n y))=>OR j z k (c::y) (b&&decide (c=0)) (by grind) (j.tcb h u g l m) (j.step h g l m).1 fun e=>by
   grind
  have v:e9 f n B (k+1+1) y=(rng (cu f n B (k+1) (aL n y)) (dy f n B (k+1) (aL n y))).flatMap fun c=>e9 f n B (k+1) (c::y):=rfl
  grind [CP,mr,Ln,Pq]
noncomputable def R7 (f:FF) (n:Nat) (B:Int):List (List Int):=CP f n B false (n-1) [] true
theorem LG (h:Rf M n f) (b:0<=B) (e:B<=65536) (z:List Int):z∈R7 f n B↔z.length=n/\gp n f z<=B/\bT z.reverse=1:=by
 have c:=h.vs b e;have g:fq f n B n (aL n []):=gN c.r.pd b;have l:=h.n1;unfold R7;rw[OR c z (n-1) [] true (by simp;omega) tn.nil (by grind) (fun _ x j=>by simp at j),show n-1+1=n by omega,qU h.r b,and_assoc]
 simp
theorem Wt (h:bT b.reverse=1):bT b≠0:=fun e=>by
 grind [jP]
def itN (n:Nat) (f:FF) (z:List Int):Int×List Int:=(gp n f z,ST z)
noncomputable def dJ (f:FF) (n:Nat) (B:Int):List (Int×List Int):=nk ((R7 f n B).map (itN n f))
theorem n7 (_:Rf M n f) {s:Int} (c:s=1\/s= -1) (z:List Int):gp n f (z.map fun a=>s*a)=gp n f z:=by
 rw[fL,fL];unfold BF;refine au _ fun i _=>?_
 have e: ∀i,(z.map fun a=>s*a).getD i 0=s*z.getD i 0:=fun i=>by
  grind
 simp only[e];have b:smF (fun j=>f i j*(s*z.getD j 0)) n=s*smF (fun j=>f i j*z.getD j 0) n:=by
  rw[<- aW];grind
 grind
theorem AZ: ∀(l acc:List (Int×List Int)),(l.foldl (fun acc x=>jS x acc) acc).length<=l.length+acc.length
 |[],acc=>by simp
 |x::l,acc=>by
  have:=AZ l (jS x acc);grind [BG]
theorem T6 (h:bT b=1):ST b=b:=by
 simp_all[ST]
theorem cq (h:Rf M n f) (l:0<=B) (m:B<=65536) (p:Int×List Int):p∈dJ f n B↔p.2.length=n/\p.1=gp n f p.2/\p.1<=B/\bT p.2=1:=by
 unfold dJ;rw[x5,aeL];constructor
 ·grind [LG,bT,itN,ST,n7,g7]
 rintro⟨c,b,g,j⟩;obtain⟨v,y⟩:=p;simp only at c b g j;subst b;have o:bT y.reverse≠0:=fun e=>by
  grind [bT]
 have q:bT y.reverse=1\/bT y.reverse= -1:=by grind [dx]
 refine⟨y.map fun a=>bT y.reverse*a,(LG h l m _).2 ⟨by grind,by grind [n7],?_⟩,?_⟩
 ·rw[<- List.map_reverse,g7 q];grind
 grind [itN,n7,YI,T6]
theorem rR (f:FF) (n:Nat) (B:Int):yY (dJ f n B):=Er _
end
end
section
theorem Po: ∀{x:List Int},bT x≠0-> ∃(k:Nat) (c:Int),x[k]?=some c/\c≠0/\(∀j,j<k->x[j]?=some 0)/\bT x=if c<0 then -1 else 1
 |[],h=>absurd rfl h
 |a::l,h=>by
  by_cases b:a=0
  ·subst b;have e:bT (0::l)=bT l:=by grind [bT]
   obtain⟨k,c,f,g,m,n⟩:=Po (x:=l) (by rwa[e]at h);refine⟨k+1,c,f,g,fun j o=>?_,e.trans n⟩;cases j with
   |zero=>rfl
   |succ j=>exact m j (by omega)
  exact⟨0,a,rfl,b,fun j o=>by omega,by grind [bT]⟩
section
variable {x:List Int}
theorem DC (m:x.length<=8) (e: ∀j,-524288<=x.getD j 0/\x.getD j 0<=524288):CallC prog 163 [d7 x] ⟨[],.raw (.bool true)⟩:=by
 refine aB func163 rfl ntmps163 (aE (k:=aj (aZ (k:=?_))));refine ay (G:=fp x.length) (fun g=>⟨(j4 (jk::d7 x::rN x.length::rN g.i::j4 (j4 (jk::jk::[])))),Hm []⟩) (fun g=>x.length-g.i) ⟨0,by omega⟩ ?_ ?_
 ·refine ak trivial ?_;simp[wk]
 rintro⟨i,l⟩;simp only;by_cases n:i<x.length
 ·have c:x[i]?=some (x.getD i 0):=by grind
  obtain⟨f,h⟩:=e i;have b:IntKind.i64.wrap ((i:Int)+1)=((i+1:Nat):Int):=by rw[aH (by omega) (by omega)];omega
  refine ax (k:=aP rfl (aj (ao (aF c (k:=ax (k:=aq rfl (al (df b (k:=?_)))))))));refine⟨⟨i+1,by omega⟩,by grind,ak trivial ?_⟩;simp[wk]
 obtain rfl:i=x.length:=by omega
 refine ax (k:=aQ rfl (aZ (k:=aI @results163)))
theorem UG (e:x.length<=8) (c: ∀j,-524288<=x.getD j 0/\x.getD j 0<=524288):CallC prog 116 [.raw (.int .i64 (x.length:Int)),d7 x] ⟨[],.raw (.bool true)⟩:=by
 have b:=DC e c;refine aB func116 rfl ntmps116 (aE (k:=bD [⟨6,_,_,_,b⟩] (k:=aI @results116)))
theorem H8 (c:Int):CallC prog 197 [.raw (.int .i64 c)] ⟨[],.raw (.bool (!decide (c=0)))⟩:=by
 refine aB func197 rfl ntmps197 (aE (k:=aZ (k:=aI @results197)))
theorem UX {k:Nat} {c:Int} (r:x.length<=8) (f:x[k]?=some c) (n:c≠0) (l: ∀j,j<k->x[j]?=some 0):
  CallC prog 196 [d7 x,.raw (.func (.func 197) #[] #[])] ⟨[],.raw (.int .i64 (k:Int))⟩:=by
 have o:=(aeI.1 f).1;have e:=H8 c;have b:=H8 0;rw[decide_eq_false n]at e;rw[decide_eq_true rfl]at b;refine aB func196 rfl ntmps196 (aE (k:=aj (aZ (k:=?_))));refine ay (G:=fp k) (fun g=>⟨(d7 x::.raw (.func (.func 197) #[] #[])::j4 (d7 x::rN x.length::rN g.i::j4 (j4 (jk::jk::[])))),Hm []⟩) (fun g=>k-g.i) ⟨0,by omega⟩ ?_ ?_
 ·refine ak trivial ?_;simp[wk]
 rintro⟨i,q⟩;simp only;refine ax (k:=aP rfl (aj (ao (aZ (k:=?_)))));by_cases p:i<k
 ·have m:=l i p;have h:IntKind.i64.wrap ((i:Int)+1)=((i+1:Nat):Int):=by rw[aH (by omega) (by omega)];omega
  refine ce [⟨5,_,_,_,b⟩] m (k:=aq rfl (al (df h (k:=?_))));refine⟨⟨i+1,by omega⟩,by grind,ak trivial ?_⟩;simp[wk]
 obtain rfl:i=k:=by omega
 refine ce [⟨5,_,_,_,e⟩] f (k:=aC rfl (aZ (k:=aI @results196)))
theorem TY (u:x.length<=8) (t: ∀j,-524288<=x.getD j 0/\x.getD j 0<=524288) (F:bT x≠0):CallC prog 135 [d7 x] ⟨[],.tup [(false,[.p (.sl (ls fI (ST x)))]),(false,[.p (.raw (.bool true))])]⟩:=by
 obtain⟨k,c,q,D,z,b⟩:=Po F;have E:=(aeI.1 q).1;have cR:=DC u t;have v:=UX u q D z;have s:=Ia x (by omega) (by omega);obtain⟨n,r⟩: ∃n,x.length=n:=⟨_,rfl⟩;obtain⟨y,m⟩: ∃y,ST x=y:=⟨_,rfl⟩;have H:y.length=n:=by rw[<- m,N3,r]
 have C:List.take n y=y:=aeS (by omega);rw[m];rw[r]at s;refine aB func135 rfl ntmps135 (aE (k:=aj (bu [⟨1,_,_,_,cR⟩] (k:=aq rfl (al (bu [⟨1,_,_,_,v⟩] (k:=aj (ax (k:=aq rfl (al (bu [⟨1,_,_,_,s⟩] (k:=aj (aF q (k:=?_))))))))))))));refine mc (S:=⟨(j4 (jk::.one (.sl 16 0 0 n)::j16 (j4 (j4 (j4 (jk::jk::[])))))),Hm [(16,[⟨2,1,lc fI y⟩])]⟩) ?_ ?_
 ·by_cases e:c<0
  ·rw[if_pos e]at b;have o: ∀j,j<n->y.getD j 0= -x.getD j 0:=fun j L=>by
    rw[<- m];unfold ST;rw[b];grind
   refine aX rfl (fun _=>?_) (fun h=>by simp at h<;>omega);refine aF r (k:=?_);refine ay (G:=fp n) (fun g=>⟨(j4 (jk::.one (.sl 16 0 0 n)::j16 (d7 x::rN n::rN g.i::j4 (j4 (jk::jk::jk::[]))))),Hm [(16,[⟨2,1,lc fI (aA n fun a=>if a<g.i then -x.getD a 0 else x.getD a 0)⟩])]⟩) (fun g=>n-g.i) ⟨0,by omega⟩ ?_ ?_
   ·refine ak ⟨?_,trivial⟩ ?_
    ·exact congrArg (fun l=>[(⟨2,1,lc fI l⟩:OObj)]) (aeW fun j=>by grind [aw,az])
    simp[wk]
   rintro⟨i,K⟩;simp only;by_cases M:i<n
   ·have A:x[i]?=some (x.getD i 0):=by grind
    obtain⟨I,J⟩:=t i;have B:(aA n fun a=>if a<i then -x.getD a 0 else x.getD a 0)[i]?=some (x.getD i 0):=by grind [aw]
    have f:(lc fI (aA n fun a=>if a<i then -x.getD a 0 else x.getD a 0)).set i [AV.p (.raw (.int .i64 (-x.getD i 0)))]=lc fI (aA n fun a=>if a<i+1 then -x.getD a 0 else x.getD a 0):=Pk fun a _=>by grind
    have w:IntKind.i64.wrap ((i:Int)+1)=((i+1:Nat):Int):=by rw[aH (by omega) (by omega)];omega
    refine ax (k:=aP rfl (aj (ao (aF A (k:=dz (aG @ahM (aG B f)) (k:=df w (k:=?_)))))));refine⟨⟨i+1,by omega⟩,by grind,ak ⟨rfl,trivial⟩ ?_⟩;simp[wk]
   obtain rfl:i=n:=by omega
   refine ax (k:=aQ rfl ?_);show bN _ _;refine ak ⟨?_,trivial⟩ ?_
   ·show[_]=[_];rw[show(aA i fun a=>if a<i then -x.getD a 0 else x.getD a 0)=y from aeW fun j=>by grind [aw,az]]
   simp[wk]
  rw[if_neg e]at b;have o:=T6 b;rw[m]at o;subst o;refine aX rfl (fun h=>by simp at h<;>omega) (fun _=>al ?_);refine ak ⟨rfl,trivial⟩ ?_;simp[wk]
 refine aZ (k:=?_);refine aM ⟨.inr rfl,dI 16 (bj rfl) ?_ rfl⟩;simp(disch:=omega) only[kd,results135,C]
end
end
end Go.Proofs.YtalmoejhjceflaaGreat
