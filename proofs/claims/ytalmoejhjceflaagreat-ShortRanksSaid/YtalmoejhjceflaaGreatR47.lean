/-
  Part 48 of a proof (walks and plain facts).
-/
import Derived.Test.YtalmoejhjceflaaGreatR46
set_option linter.all false
set_option maxRecDepth 100000
set_option maxHeartbeats 64000000
open Nat renaming reduceAdd → aa
open List renaming replicate → ae
namespace Go.Proofs.YtalmoejhjceflaaGreat
open Go.RowKit Go.Proofs.Tryz
variable {b:List (List Int)} {c:List Int} {e:List (Int×List Int)} {x:Int} {n:Nat} {f:vq}
section
section
variable {n:Nat} {f:FF} {B:Int}
theorem qU (f:FF) (z:List Int):li n f z=BF n f (fun i=>z.getD i 0) (fun i=>z.getD i 0):=by
 refine aF n fun i _=>?_
 show smF (fun b=>f i b*z.getD i 0*z.getD b 0) n=z.getD i 0*smF (fun j=>f i j*z.getD j 0) n;grind [bX]
theorem Pg (b:RedR f n) (g:n<=8) (v: ∀i j,i<n->j<n-> -262144<=f i j/\f i j<=262144) (m:0<=B) (o:B<=65536) (l:c.length=n) (r:gM f n B 0 (aY n c)):
  CallC prog 40 [cq (mat n n f),mY c] ⟨[],.raw (.int .i64 (li n f c))⟩/\0<=li n f c/\li n f c<=B:=by
 have h:=qb.1 r;have u:aY n c=fun i=>c.getD i 0:=funext fun i=>rQ l i
 rw[u]at h;have q:B*((2^n:Nat):Int)<=((4096:Nat):Int)*((4096:Nat):Int):=by
  have e:(2^n:Nat)<=256:=aap (aaJ (by omega) g) (by decide);generalize(2^n:Nat)=p at*
  have:=aa7 o (aen.2 e) (by omega) (by omega);omega
 have s: ∀i,(c.getD i 0).natAbs<=524288:=fun i=>by
  by_cases t:i<n
  ·have:=zc b (fun i=>c.getD i 0) m h q (n-i-1) i (by omega);have e:2^(n-i-1)<=2^7:=aaJ (by omega) (by omega);omega
  grind
 refine⟨Tg n f c 262144 524288 g l (fun i j t w=>by grind) s (by decide),?_,?_⟩
 ·rw[qU];have:=(jU b.pd.1 b.pd.2 (fun i=>c.getD i 0) n 0 (by omega)).1;rwa[jW (f':=f) (fun i j _ _=>dc f i j) (fun _ _=>rfl) (fun _ _=>rfl)]at this
 grind [qU]
theorem U0 (o:oS n f B) (r:Nat) (I:List (Int×Int)) (b:I.length<=4000000) (p: ∀z,z.length=n->gM f n B 0 (aY n z)->CallC prog 40 [cq (mat n n f),mY z] ⟨[],.raw (.int .i64 (li n f z))⟩/\I64 (li n f z)):
  ∀(k:Nat) (y:List Int) (pre post:List (Int×Int)) (g:MapS),y.length+(k+1)=n->o8 y->gM f n B (k+1) (aY n y)->I=pre++p8 f n B k y++post->GB g->g.1+(gE f n B (k+1) y).length<=4000000->Yg n f B r I k y pre.length g
 |0,y,pre,post,g,m,u,l,v,x,C=>U1 o r 0 y I pre post g m u l v b x C (fun _ c s t=>p (c::y) (by omega) (o.step m l s t).1) fun j e=>absurd e (by omega)
 |k+1,y,pre,post,g,m,u,l,v,x,C=>U1 o r (k+1) y I pre post g m u l v b x C (fun e=>absurd e (by omega)) fun j e c q h E s t w A D=>by
  obtain rfl:k=j:=by omega
  exact U0 o r I b p k (c::y) q h E (by grind) (o.tcb m u l s t) (o.step m l s t).1 w A D
theorem Im:GB (0,fun _=>0):=fun _=>⟨acA _,acA _⟩
theorem Sw (h:oS n f B) (u:1<=n) (e: ∀z,z.length=n->gM f n B 0 (aY n z)->CallC prog 40 [cq (mat n n f),mY z] ⟨[],.raw (.int .i64 (li n f z))⟩/\I64 (li n f z)) (q:(p8 f n B (n-1) []).length<=4000000) (s:(gE f n B n []).length<=4000000):
  Aw prog 2 2 45 [cq (mat n n f),Ya (p8 f n B (n-1) [])] (gF (li n f) (0,fun _=>0) (gE f n B n [])):=by
 have t:=h.n8;have j:gM f n B n (aY n []):=kv h.r.pd h.b0;have c:=fun r=>U0 h r (p8 f n B (n-1) []) q e (n-1) [] [] [] (0,fun _=>0) (by simp;omega) o8.nil (by grind) (by simp) Im (by grind)
 unfold Yg at c;rw[show n-1+1=n by omega]at c;have g:=aT n n f;have o:IntKind.i64.wrap ((n:Int)-1)=((n-1:Nat):Int):=by grind [aK]
 generalize gF (li n f) (0,fun _=>0) (gE f n B n [])=GT at*
 generalize p8 f n B (n-1) []=I at*
 generalize mat n n f=R at*
 clear h j e;refine KB (d:=9) (S1:=⟨(jk::jk::.one (.ptr 2 0 0 0)::.one (.ptr 3 0 0 0)::j16 ([])),Hm [(2,[⟨26,1,[[.p (.sl (ls (fR fI) R))]]⟩]),(3,[⟨76,1,[[.p (.sl (ls fV I))]]⟩])]⟩) func45 rfl (by kernel_rfl) [] [] ?_ ⟨_,rfl,rfl,rfl,rfl⟩ fun r K b=>?_
 ·rw[ntmps45];refine US (k:=?_);refine⟨rfl,aj ⟨rfl,rfl,trivial⟩ ?_⟩;simp[wk]
 simp(disch:=omega) only[kd,aa,Nat.reduceEqDiff];apply b;clear b K;refine de (aH g (aH (X6 n) @aaL)) (k:=dE (k:=dE (k:=?_)));refine dW.weak ((vt 6 1 (n:=n) rfl).trans ((dL 3 8 (by decide) (by decide)).trans ((dL 7 8 (by decide) (by decide)).trans ((dL 6 8 (by decide) (by decide)).trans ((dL 5 8 (by decide) (by decide)).trans (dL 2 8 (by decide) (by decide))))))) ?_;refine dW.weak (aj (tm:=(jk::jk::.one (.ptr 8 6 0 0)::.one (.ptr 8 1 0 0)::jk::.one (.ptr 8 5 0 0)::.one (.ptr 8 3 0 0)::.one (.ptr 8 2 0 0)::.one (.ptr 8 0 0 0)::j4 (j4 (jk::jk::jk::[])))) (l:=[(8,[⟨131,1,[[.raw .nilFunc]]⟩,⟨76,1,[[.p (.sl (ls fV I))]]⟩,⟨3,1,[[.p (.raw (.int .i64 0))]]⟩,⟨35,1,[[.sl 8 4 0 n]]⟩,⟨2,1,gh n++lc fI []⟩,⟨79,1,[[.p (.raw (.map (some r)))]]⟩,⟨26,1,[[.p (.sl (ls (fR fI) R))]]⟩])]) ⟨?_,trivial⟩ (by simp[wk,lS,fp,pn,ax])) ?_
 ·simp_all[ax,rY,fp,pn,gh,lc]
 refine de (aH @iT.eq_1 @k9.eq_1) (k:=?_);have m:=c r;refine bA (gC 4 m 8 [] [] (by kernel_rfl) (by omega) (by decide) fun K b=>?_);simp(disch:=omega) only[kd,aa,g,o];refine b _ ⟨⟨rfl,?_⟩,?_⟩
 ·grind [II,aM,Bf]
 clear b K;intro K b;simp(disch:=omega) only[kd,aa,Fd,cwD,X3,pB,mu,Nat.reduceBEq,gY];apply b;clear b K;show dW _ _ _ _ _ _ _;refine dE (k:=?_);refine jB ⟨.inr rfl,rfl,_,bG.refl _,?_⟩;simp(disch:=omega) only[kd,results45]
end
end
section
variable {n:Nat} {f:FF} {B:Int}
theorem SV {d:Int} (b:0<d) (c:0<=x):isqF (x*d)/d=isqF (x/d):=by
 have l:=eF (aaS c (abT b));have m:=eF (abH c (abT b));refine ME.uniq ?_ m;obtain⟨j,p,s⟩:=l;generalize isqF (x*d)=r at*
 have g:0<=r/d:=abH j (abT b);have h:=Int.ediv_mul_le r (show d≠0 by omega);have o:=abZ r b;generalize r/d=q at*
 refine⟨g,?_,?_⟩
 ·rw[ab2 b];have e:q*q*d*d<=x*d:=by
   have:(q*d)*(q*d)<=r*r:=aa7 h h (aaS g (abT b)) j;grind
  simp_all
 rw[Int.ediv_lt_iff_lt_mul b];have e:x*d<(q+1)*(q+1)*d*d:=by
  have:(r+1)*(r+1)<=((q+1)*d)*((q+1)*d):=aa7 (by omega) (by omega) (by omega) (by omega);grind
 simp_all
theorem w7 (c:0<dk f 1) (b:0<=B):eB f 1 B 0 (aY 1 [])= -isqF (B/dk f 1)/\fC f 1 B 0 (aY 1 [])=isqF (B/dk f 1):=by
 have g:uS f 1 0 (aY 1 [])=0:=by rfl
 have e:mK f 1 B 0 (aY 1 [])=B*dk f 1:=by
  grind [BF,aY,smF,mK,cu]
 grind [eB,fC,SV]
theorem TN {a c:Int} (h:a<=c) (g:c<=x+1):rng a x=rng a (c-1)++rng c x:=by
 obtain⟨m,e⟩: ∃m:Nat,c=a+m:=⟨(c-a).toNat,by omega⟩;subst e;clear h
 induction m generalizing a with
 |zero=>
  grind [jd]
 |succ m j=>
  rw[gR (a:=a) (b:=x) (by omega),gR (a:=a) (by omega)];grind
noncomputable def toL (f:FF) (n:Nat) (B:Int):Nat->List Int->Nat
 |0,y=>(rng (eB f n B 0 (aY n y)) (fC f n B 0 (aY n y))).length
 |k+1,y=>(rng (eB f n B (k+1) (aY n y)) (fC f n B (k+1) (aY n y))).length+((rng (eB f n B (k+1) (aY n y)) (fC f n B (k+1) (aY n y))).map fun c=>toL f n B k (c::y)).sum
theorem JM {F G:Int->Nat}: ∀l:List Int,(∀c,F c<=1+G c)->(l.map F).sum<=l.length+(l.map G).sum
 |[],_=>by simp
 |c::l,h=>by
  have:=JM l h;grind
theorem Gi: ∀(k:Nat) (y:List Int),(p8 f n B k y).length<=1+toL f n B k y
 |0,y=>by show 1<=_;omega
 |k+1,y=>by
  have:=JM (rng (eB f n B (k+1) (aY n y)) (fC f n B (k+1) (aY n y))) fun c=>Gi k (c::y)
  grind [p8,toL,List.length_flatMap]
theorem uW {F G:Int->Nat}: ∀l:List Int,(∀c,c∈l->F c<=G c)->(l.map F).sum<=(l.map G).sum
 |[],_=>by simp
 |c::l,h=>by
  have:=uW l fun c b=>h c (by simp[b])
  grind
theorem JN {G:Int->Nat} {a c:Int} (h:a<=c):((rng c x).map G).sum<=((rng a x).map G).sum:=by
 by_cases e:c<=x+1
 ·rw[TN h e,abe,List.sum_append];omega
 grind [jd]
theorem Gj: ∀(k:Nat) (y:List Int),(gE f n B (k+1) y).length<=toL f n B k y
 |0,y=>by
  rw[ou];show((rng _ _).map fun _=>1).sum<=_;rw[Ca];exact aar _
 |k+1,y=>by
  rw[ou];simp only[toL];exact aap (uW _ fun c _=>Gj k (c::y)) (by omega)
/-! Steps. -/
structure OkG (n:Nat) (g:vq):Prop where
 s:g.stop=false
 l:0<=g.left
 ln:g.steps.length=n
 p: ∀i,i<n->0<=g.steps.getD i 0
structure AA (n T V:Nat) (g:vq) (r:vq×Bool):Prop where
 ok:(T:Int)<=g.left->r.2=true/\OkG n r.1/\r.1.left=g.left-T/\r.1.steps.getD (n-1) 0=g.steps.getD (n-1) 0+V/\sL n r.1.steps=sL n g.steps+T
 no:g.left<T->r.2=false/\r.1.stop=true
theorem AA.comp {c m l o:Nat} {g:vq} {b r:vq×Bool} (p:AA n c m g b) (q:b.2=true->OkG n b.1->AA n l o b.1 r) (s:b.2=false->r=(b.1,false)):AA n (c+l) (m+o) g r:=by
 by_cases t:(c:Int)<=g.left
 ·obtain⟨e,j,u,v,w⟩:=p.ok t;have k:=q e j;refine⟨fun h=>?_,fun h=>?_⟩
  ·obtain⟨x,y,z,A,C⟩:=k.ok (by omega);grind
  exact k.no (by omega)
 obtain⟨e,j⟩:=p.no (by omega);rw[s e];exact⟨fun h=>by omega,fun _=>⟨rfl,j⟩⟩
theorem Rn {g:vq} (j:OkG n g) {m c:Nat} (r:1<=m) (q:m<=n):AA n c (if m=n then c else 0) g (Cb n m c g):=by
 have b:=j.ln;refine⟨fun h=>?_,fun h=>?_⟩
 ·unfold Cb;rw[if_neg (by omega)];have l:=SA (n:=n) (m:=m-1) (d:=(c:Int)-1) j.ln (by omega);have e:=fun i=>NK (m:=m-1) (i:=i) (d:=(c:Int)-1) (c:=g.steps) (by omega)
  unfold ZL at l e;rw[show(c:Int)-1+1=c by omega]at l e;refine⟨rfl,⟨rfl,by grind,by simp[b],fun i o=>?_⟩,rfl,?_,l⟩
  ·show 0<=(g.steps.set (m-1) (g.steps.getD (m-1) 0+c)).getD i 0;rw[e i];have:=j.p i o;grind
  grind
 grind [Cb]
theorem OQ {b:Int->vq->vq×Bool} {T V:Int->Nat} {hi:Int}: ∀(m:Nat) (x:Int) (g:vq),hi-x+1=m->OkG n g->(∀c g,x<=c->c<=hi->OkG n g->AA n (T c) (V c) g (b c g))->AA n ((rng x hi).map T).sum ((rng x hi).map V).sum g (lpM b m x g)
 |0,x,g,s,e,_=>by
  rw[jd (by omega)];refine⟨fun _=>⟨rfl,e,?_,?_,?_⟩,fun h=>?_⟩
  ·simp[lpM]
  ·simp[lpM]
  ·simp[lpM]
  have:=e.l;grind
 |m+1,x,g,s,e,j=>by
  rw[gR (by omega)];simp only[aaI,List.sum_cons];refine(j x g (acA _) (by omega) e).comp (fun o p=>?_) fun o=>?_
  ·have:=OQ m (x+1) (b x g).1 (by omega) p fun c g t q r=>j c g (by omega) q r
   grind [lpM]
  grind [lpM]
theorem J6 (o:oS n f B): ∀(k:Nat) (y:List Int) (g:vq),y.length+(k+1)=n->o8 y->gM f n B (k+1) (aY n y)->OkG n g->AA n (toL f n B k y) (gE f n B (k+1) y).length g (jw (Cb n) f n B k y g)
 |0,y,g,l,p,j,r=>by
  have s:=(o.lohi l p j).2.2;have h:=Rn r (m:=n) (c:=(rng (eB f n B 0 (aY n y)) (fC f n B 0 (aY n y))).length) (by omega) (aar _);rw[if_pos rfl]at h;have e:(gE f n B (0+1) y).length=(rng (eB f n B 0 (aY n y)) (fC f n B 0 (aY n y))).length:=by
   rw[ou];show((rng _ _).map fun _=>1).sum=_;rw[Ca]
  rw[e];have q:(((rng (eB f n B 0 (aY n y)) (fC f n B 0 (aY n y))).length:Nat):Int)=fC f n B 0 (aY n y)-eB f n B 0 (aY n y)+1:=by rw[BK];omega
  rw[q]at h;exact h
 |k+1,y,g,l,p,j,r=>by
  have s:=(o.lohi l p j).2.2;have h:=Rn r (m:=n-(k+1)) (c:=(rng (eB f n B (k+1) (aY n y)) (fC f n B (k+1) (aY n y))).length) (by omega) (by omega);rw[if_neg (by omega)]at h;have q:(((rng (eB f n B (k+1) (aY n y)) (fC f n B (k+1) (aY n y))).length:Nat):Int)=fC f n B (k+1) (aY n y)-eB f n B (k+1) (aY n y)+1:=by rw[BK];omega
  rw[q]at h;rw[ou,show((rng (eB f n B (k+1) (aY n y)) (fC f n B (k+1) (aY n y))).map fun x=>(gE f n B (k+1) (x::y)).length).sum=0+((rng (eB f n B (k+1) (aY n y)) (fC f n B (k+1) (aY n y))).map fun x=>(gE f n B (k+1) (x::y)).length).sum by omega];unfold toL jw;refine h.comp (fun v w=>?_) fun v=>?_
  ·have:=OQ (b:=fun c=>jw (Cb n) f n B k (c::y)) (T:=fun c=>toL f n B k (c::y)) (V:=fun c=>(gE f n B (k+1) (c::y)).length) (hi:=fC f n B (k+1) (aY n y)) (fC f n B (k+1) (aY n y)-eB f n B (k+1) (aY n y)+1).toNat (eB f n B (k+1) (aY n y)) _ (by omega) w fun c g t u z=>J6 o k (c::y) g (by grind) (o.tcb l p j t u) (o.step l j t u).1 z
   grind
  grind
theorem XG (b:oS n f B) (m:1<=n) {g:vq} (l:OkG n g): ∃t,AA n (toL f n B (n-1) []) (gE f n B n []).length g (JV (Cb n) f n B g,t):=by
 have c:gM f n B n (aY n []):=kv b.r.pd b.b0;have h:=J6 b (n-1) [] g (by simp;omega) o8.nil (by grind) l;rw[show n-1+1=n by omega]at h;by_cases e:n=1
 ·subst e;have j:=b.d (k:=1) (by omega);obtain⟨l1,o⟩:=w7 (f:=f) j.1 b.b0;grind [jw,JV]
 grind [JV]
end
section
structure Rf (M:List (List Int)) (n:Nat) (f:FF):Prop where
 red:isReducedM M=true
 e:M=mat n n f
 n1:1<=n
 n8:n<=8
 r:RedR f n
 b: ∀i j,i<n->j<n-> -262144<=f i j/\f i j<=262144
 en:ent M=f
 l:M.length=n
theorem Jy {M:List (List Int)} (h:isReducedM M=true):Rf M M.length (ent M):=by
 obtain⟨e,b,c,g,f⟩:=Ef h;exact⟨h,e,b,c,g,f,rfl,rfl⟩
section
variable {M:List (List Int)} {n:Nat} {f:FF} {B k:Int}
theorem Rf.vs (h:Rf M n f) (b:0<=B) (c:B<=65536):oS n f B:=W6 h.r h.n8 b (by omega)
theorem Tj (b:0<=k):OkG n ⟨k,ae n 0,false⟩:=⟨rfl,b,by simp,fun i _=>by
 grind⟩
theorem EF (h:Rf M n f) (g:0<=B) (j:B<=65536) (m:0<=k) (o:k<=1000000):
  ((toL f n B (n-1) []:Int)<=k-> ∃L:List Int,Yc M B k= .tup [(false,[.p (.sl (ls fI L))]),(false,[.p (.raw (.int .i64 0))])]/\L.length=n/\(∀i,i<n->0<=L.getD i 0)/\sL n L=toL f n B (n-1) []/\L.getD (n-1) 0=((gE f n B n []).length:Int))/\
  (k<(toL f n B (n-1) []:Int)->Yc M B k=RB 9):=by
 have q:Yc M B k=XC (JV (Cb n) f n B ⟨k,ae n 0,false⟩):=by
  unfold Yc;rw[if_pos h.red,if_neg (by omega),h.l,h.en,if_neg (by omega)]
 obtain⟨t,e⟩:=XG (h.vs g j) h.n1 (Tj (n:=n) m);rw[q];have w:(ae n (0:Int)).getD (n-1) 0=0:=by
  grind
 have r:sL n (ae n (0:Int))=0:=by
  simp_all[sL,aF,dC]
 refine⟨fun c=>?_,fun c=>?_⟩
 ·obtain⟨_,b,_,u,v⟩:=e.ok c;refine⟨_,by unfold XC;rw[if_neg (by rw[b.s];decide)],b.ln,b.p,?_,?_⟩
  ·grind
  grind
 obtain⟨_,b⟩:=e.no c;grind [XC]
theorem WL (h:Rf M n f) (c:0<=B) (l:B<=65536) (o:(p8 f n B (n-1) []).length<=2000000):CallC prog 94 [cq M,.raw (.int .i64 B)] ⟨[],Ya (p8 f n B (n-1) [])⟩:=by
 have g:=h.vs c l;rw[h.e];by_cases e:n=1
 ·subst e;have m:=g.d (k:=1) (aar 1);have j:dk f 1=f 0 0:=by show bk f 0 0 0=f 0 0;exact dc f 0 0
  obtain⟨l1,p⟩:=w7 (f:=f) m.1 c;have:=ST f B (by omega) (by omega) c (by omega);show CallC _ _ _ ⟨[],Ya [(eB f 1 B 0 (aY 1 []),fC f 1 B 0 (aY 1 []))]⟩;rw[l1,p,j];exact this
 have:=h.n1;exact SU g (G3 h.r h.n1 h.n8 h.b) (pR h.r h.n8 h.b) (by omega) o
theorem WB (h:Rf M n f) (c:0<=B) (e:B<=65536) (g:0<=k) (b:k<=1000000):
  ((toL f n B (n-1) []:Int)<=k->CallC prog 44 [cq M,.raw (.int .i64 B),.raw (.int .i64 k)] ⟨[],.tup [(false,[.p (.sl (ls fV (p8 f n B (n-1) [])))]),(false,[.p (.raw (.int .i64 0))])]⟩)/\
  (k<(toL f n B (n-1) []:Int)->CallC prog 44 [cq M,.raw (.int .i64 B),.raw (.int .i64 k)] ⟨[],RB 9⟩):=by
 grind [EF,D4,Gi,RD,WL,RC]
noncomputable def Zr (f:FF) (n b:Nat):List Int:=aN (b+1) fun m=>(gF (li n f) (0,fun _=>0) (gE f n (b:Int) n [])).2 m
theorem MT (h:Rf M n f) (b:Nat) (hb:b<=1000) (V:0<=k) (D:k<=1000000) (J:(toL f n (b:Int) (n-1) []:Int)<=k):
  CallC prog 19 [cq M,.raw (.int .i64 (b:Int)),.raw (.int .i64 k)] ⟨[],.tup [(false,[.p (.sl (ls fI (Zr f n b)))]),(false,[.p (.raw (.int .i64 0))])]⟩:=by
 have L:=h.vs (B:=(b:Int)) (by omega) (by omega);have X:=h.l;have Q:=h.n1;have R:=h.n8;have H:=fb M;rw[h.red]at H;have O:=(WB h (B:=(b:Int)) (by omega) (by omega) V D).1 J;have w:=Gi (f:=f) (n:=n) (B:=(b:Int)) (n-1) [];have g:=Gj (f:=f) (n:=n) (B:=(b:Int)) (n-1) [];rw[show n-1+1=n by omega]at g;have F:=Sw L Q (fun z E S=>by
  obtain⟨N,Y,Z⟩:=Pg h.r R h.b (by omega) (by omega) E S;exact⟨N,by constructor<;>omega⟩) (by omega) (by omega)
 rw[<- h.e]at F;have o:=(Od (nm:=li n f) (gE f n (b:Int) n []) Im);have q: ∀j,0<=(gF (li n f) (0,fun _=>0) (gE f n (b:Int) n [])).2 j/\(gF (li n f) (0,fun _=>0) (gE f n (b:Int) n [])).2 j<=4000000:=fun j=>by
  have:=o.1 j;omega
 unfold Zr;generalize gF (li n f) (0,fun _=>0) (gE f n (b:Int) n [])=G at*
 generalize p8 f n (b:Int) (n-1) []=I at*
 clear o g w J L;have P:IntKind.i64.wrap ((b:Int)+1)=((b+1:Nat):Int):=aK (by omega) (by omega);have t:((b:Int)<0)=False:=eq_false (by omega);have u:(1000<(b:Int))=False:=eq_false (by omega);refine aA func19 rfl ntmps19 (aC (k:=ai (am (bK [⟨1,_,_,_,H⟩] (k:=aq rfl (ai (f9 t (k:=aq rfl (jm u (k:=aq rfl (ak (bK [⟨3,_,_,_,O⟩] (k:=ai (ar (k:=aq rfl (ak (RX 2 34 F [] [] (by decide) rfl fun K c=>?_)))))))))))))))));simp only[kd];refine c _ ⟨rfl,by simp[sY,iG],?_⟩;clear c K;intro r K c;simp only[kd,aa];apply c;clear c K;have E:ae (b+1) [AV.p (.raw (.int .i64 0))]=lc fI (aN (b+1) fun j=>if j<0 then G.2 (j:Int)else 0):=by
  have h0:(aN (b+1) fun j=>if j<0 then G.2 (j:Int)else 0)=ae (b+1) 0:=aaC fun i=>by
   grind [aN]
  grind [X6]
 refine de P (k:=bA (dE (k:=?_)));refine fw (G:=jx (b+1)) (fun v=>⟨(j4 (j4 (jk::jk::.raw (.map (some r))::.one (.sl 37 0 0 (b+1))::j16 (j4 (j4 (jk::jk::jk::.raw (.int .i64 ((b+1:Nat):Int))::rN v.i::j4 (j4 (jk::jk::[])))))))),Hm [(37,[⟨2,1,lc fI (aN (b+1) fun j=>if j<v.i then G.2 (j:Int)else 0)⟩])]⟩) (fun _=>G) (fun v=>b+1-v.i) ⟨0,by omega⟩ ?_ rfl ?_
 ·refine aj ⟨?_,trivial⟩ ?_
  ·rw[<- E];rfl
  simp[wk]
 rintro⟨i,hi⟩;simp only;by_cases W:i<b+1
 ·have A:=aI (b+1) (fun j=>if j<i then G.2 (j:Int)else 0);have y:=aw (fun j=>if j<i then G.2 (j:Int)else 0) W;have s:(lc fI (aN (b+1) fun j=>if j<i then G.2 (j:Int)else 0)).set i [AV.p (.raw (.int .i64 (G.2 (i:Int))))]=lc fI (aN (b+1) fun j=>if j<i+1 then G.2 (j:Int)else 0):=by
   rw[show[AV.p (.raw (.int .i64 (G.2 (i:Int))))]=(fI (G.2 (i:Int))).map AV.p from rfl,wM,kj];grind
  have T:=q (i:Int);refine dE (k:=nk rfl (bA (dz (dE (k:=FB U8 4 47 (i:Int) [] [] (by kernel_rfl) (by decide) rfl ⟨by omega,by omega⟩ fun K c=>?_)))));simp only[kd,aa];refine c _ ⟨rfl,?_⟩;clear c K;intro K c;simp(disch:=omega) only[kd,aa,y,s];apply c;clear c K;show dW _ _ _ _ _ _ _;refine sn (k:=?_);refine⟨⟨i+1,by omega⟩,by grind,aj ⟨rfl,trivial⟩ ?_,rfl⟩;simp[wk]
 have C:i=b+1:=by omega
 subst C;refine dE (k:=pa rfl ?_);show dW _ _ _ _ _ _ _;have x:(aN (b+1) fun j=>if j<b+1 then G.2 (j:Int)else 0)=aN (b+1) fun m=>G.2 (m:Int):=dm fun j U=>if_pos U
 rw[x];have A:=aI (b+1) (fun m=>G.2 (m:Int));refine dE (k:=jB ?_);show _/\_;refine⟨.inr rfl,jt 37 (bO rfl) ?_ rfl⟩;simp(disch:=omega) only[kd,results19];grind
end
end
def RA (M l:List (List Int)):Nat×Bool:=if isReducedM M=true/\l.all (FitB M.length)=true then(rkF M.length (oZ l.length (xL l)),true)else(0,false)
abbrev rkT (r:Nat×Bool):TV:= .tup [(false,[.p (.raw (.int .i64 (r.1:Int)))]),(false,[.p (.raw (.bool r.2))])]
theorem Rl {a:Nat} (h:b[a]?=some c) (i:Nat):xL b a i=c.getD i 0:=by
 unfold xL;rw[aaw (l:=b),h];rfl
theorem N8 (h:FitB n c=true): ∀b∈c,b.natAbs<=1099511627776:=fun b f=>by
 have e:=(jX.1 h).2;simp only[Ay,aat]at e;have:=e b f;simp at this;omega
structure ZA (n:Nat) (l:List (List Int)) where
 i:Nat
 ch:List (Int×List Int)
 L:List (List Int)
 ps:List Nat
 hi:i<=l.length
 h:SpCh n ch L ps
 hm: ∀p∈ch,p.2∈l
 hng: ∀a,a<i-> ∃(q:Int) (c:Nat->Int),q≠0/\ ∀j,j<n->q*xL l a j=smF (fun b=>c b*vL ch b j) ch.length
theorem SR (p:Int×List Int) {y:Nat->Int} (h: ∃(q:Int) (c:Nat->Int),q≠0/\ ∀j,j<n->q*y j=smF (fun b=>c b*vL e b j) e.length):
  ∃(q:Int) (c:Nat->Int),q≠0/\ ∀j,j<n->q*y j=smF (fun b=>c b*vL (e++[p]) b j) (e++[p]).length:=by
 obtain⟨q,c,m,g⟩:=h;refine⟨q,fun b=>if b<e.length then c b else 0,m,fun j l=>?_⟩;rw[SB (s:=e.length) (by simp),g j l];exact aF _ fun b f=>by rw[Ig e p f]
theorem ZA.rank {L:List (List Int)} {u:List Nat} (h:SpCh n e L u) (s: ∀p∈e,p.2∈b) (m: ∀a,a<b.length-> ∃(q:Int) (c:Nat->Int),q≠0/\ ∀j,j<n->q*xL b a j=smF (fun f=>c f*vL e f j) e.length):rkF n (oZ b.length (xL b))=L.length:=by
 rw[<- h.l];refine Y2 (Y:=vL e) (fun f r=>?_) (by rw[h.l];exact h.x.ind) m;obtain⟨x,t,_,g⟩:=WO r;obtain⟨a,o⟩:=abd.1 (s x t);exact⟨a,(aao.1 o).1,fun i _=>by rw[g,Rl o]⟩
structure Z1 (M l:List (List Int)) where
 i:Nat
 hi:i<=l.length
 h: ∀x∈l.take i,FitB M.length x=true
theorem EG {c:Type} {l:List c} {i:Nat} {x:c} (h:l[i]?=some x) {P:c->Prop} (f: ∀y∈l.take i,P y) (g:P x): ∀y∈l.take (i+1),P y:=fun y e=>by
 rw[adx,h]at e;rcases abf.1 e with b|b
 ·exact f y b
 simp at b;subst b;exact g
theorem Js (M l:List (List Int)) (hl:l.length<=1000000):CallC prog 26 [cq M,cq l] ⟨[],rkT (RA M l)⟩:=by
 have F:=fb M;by_cases z:isReducedM M=true
 case neg=>
  have X:isReducedM M=false:=by simpa using z
  unfold RA;rw[if_neg fun h=>z h.1];rw[X]at F;refine dr func26 rfl (by kernel_rfl) ?_;rw[ntmps26];refine an fun _ K=>?_;simp only[kd,cq,aa,ae];apply K
  refine ai (aQ [⟨1,_,_,_,F⟩] [] fun _ K=>?_);simp only[kd,cq,aa];apply K;refine ay rfl ?_;refine an fun _ K=>?_;simp only[kd];apply K
  (refine aW ⟨.inr rfl,bW rfl ?_ rfl⟩;simp(disch:=omega) only[kd,results26])
  rfl
 have Z:=Jy z;have V:=Z.n1;have ab:=Z.n8;rw[z]at F;obtain⟨T,u⟩: ∃T,T=RA M l:=⟨_,rfl⟩;rw[<- u];unfold RA at u;refine dr func26 rfl (by kernel_rfl) ?_;rw[ntmps26];refine an fun _ K=>?_;simp only[kd,cq,aa,ae];apply K
 refine ai (aQ [⟨1,_,_,_,F⟩] [] fun _ K=>?_);simp only[kd,cq,aa];apply K;refine aq rfl (ak ?_);show bf _ _ _ _;refine ai (an fun _ K=>?_);simp only[kd,aa];apply K;refine aB (G:=Z1 M l) (fun g=>⟨(cq M::cq l::j4 (j4 (j4 (cq l::rN l.length::rN g.i::j16 (j4 (j4 (jk::jk::[]))))))),Hm []⟩) (fun g=>l.length-g.i) ⟨0,by omega,by simp⟩ ?_ ?_
 ·refine aj trivial ?_;simp[wk]
 rintro⟨i,S,m⟩;simp only;by_cases U:i<l.length
 ·obtain⟨x,o⟩:=getElem?_of_lt U;have H:=Pt M x;have A:IntKind.i64.wrap ((i:Int)+1)=((i+1:Nat):Int):=by rw[aK (by omega) (by omega)];omega
  refine an fun _ K=>?_;simp(disch:=omega) only[kd,cq];apply K
  refine be rfl ?_;refine ai (am ?_);refine an fun _ K=>?_;simp(disch:=omega) only[kd,aa,o,fR];apply K
  by_cases J:FitB M.length x=true
  ·rw[show lf M x=true by unfold lf;rw[z,J];rfl]at H;refine aQ [⟨2,_,_,_,H⟩] [] fun _ K=>?_;simp only[kd,cq,mY,aa];apply K
   refine aq rfl (ak ?_);show bf _ _ _ _;refine cz fun _ K=>?_;simp only[kd,A];apply K
   refine⟨⟨i+1,by omega,EG o m J⟩,by simp only;omega,aj trivial ?_⟩;simp[wk]
  rw[show lf M x=false by unfold lf;rw[z];simpa using J]at H;rw[if_neg fun h=>J (aat.1 h.2 x (aai o))]at u;subst u;refine aQ [⟨2,_,_,_,H⟩] [] fun _ K=>?_;simp only[kd,cq,mY,aa];apply K
  refine ay rfl ?_;refine an fun _ K=>?_;simp only[kd];apply K
  (refine aW ⟨.inr rfl,bW rfl ?_ rfl⟩;simp(disch:=omega) only[kd,results26])
  rfl
 have v:i=l.length:=by omega
 subst v;rw[adI]at m;rw[if_pos ⟨z,aat.2 m⟩]at u;have R: ∀x∈l,x.length=M.length/\ ∀c∈x,c.natAbs<=1099511627776:=fun x o=>by
  exact⟨(jX.1 (m x o)).1,N8 (m x o)⟩
 refine an fun _ K=>?_;simp(disch:=omega) only[kd,cq];apply K
 refine bv rfl ?_;show bf _ _ _ _;refine an fun _ K=>?_;simp(disch:=omega) only[kd,aa];apply K
 refine ai (an fun _ K=>?_);simp only[kd,aa];apply K;refine aB (G:=ZA M.length l) (fun g=>⟨(cq M::j4 (jk::jk::jk::.one (.ptr 8 0 0 0)::j16 (cq l::rN l.length::rN g.i::j4 (j4 (j4 (jk::jk::jk::[])))))),Hm [(8,Cq 8 g.L g.ps)]⟩) (fun g=>l.length-g.i) ⟨0,[],[],[],by omega,SpCh.nil,by simp,fun a I=>absurd I (by omega)⟩ ?_ ?_
 ·refine(io 8 0 0 0 85 1 (by omega) rfl rfl rfl).trans ((io 8 0 0 1 3 1 (by omega) rfl rfl rfl).trans (aj ⟨rfl,trivial⟩ ?_));simp[wk]
 rintro⟨i,t,L,O,S,n,r,s⟩;simp only;by_cases U:i<l.length
 ·obtain⟨x,o⟩:=getElem?_of_lt U;have E:=aai o;obtain⟨xl,xb⟩:=R x E;have W: ∀j,(x.getD j 0).natAbs<=1099511627776:=fun j=>by
   rw[aaw];cases N:x[j]? with
   |none=>simp
   |some c=>exact xb c (aai N)
  obtain⟨g1,Y,g3⟩:=n.add (0,x) (fun j N=>by have:=W j;show _<_;simp only;omega) [];have Q:=wD n.x.ind;have A:IntKind.i64.wrap ((i:Int)+1)=((i+1:Nat):Int):=by rw[aK (by omega) (by omega)];omega
  have y: ∀(f:List (Int×List Int)),(∀a,a<i-> ∃(q:Int) (c:Nat->Int),q≠0/\ ∀j,j<M.length->q*xL l a j=smF (fun b=>c b*vL f b j) f.length)->(∃(q:Int) (c:Nat->Int),q≠0/\ ∀j,j<M.length->q*x.getD j 0=smF (fun b=>c b*vL f b j) f.length)->
    ∀a,a<i+1-> ∃(q:Int) (c:Nat->Int),q≠0/\ ∀j,j<M.length->q*xL l a j=smF (fun b=>c b*vL f b j) f.length:=fun f h1 ⟨q,c,hq,n⟩ a I=>by
   by_cases e:a=i
   ·subst e;exact⟨q,c,hq,fun j N=>by rw[Rl o];exact n j N⟩
   exact h1 a (by omega)
  refine an fun _ K=>?_;simp(disch:=omega) only[kd,cq];apply K
  refine be rfl ?_;refine ai (am ?_);refine an fun _ K=>?_;simp(disch:=omega) only[kd,aa,o,fR];apply K
  by_cases P:L.length<M.length
  ·have w:((L.length:Int)<(M.length:Int))=True:=eq_true (by omega);have cP:=Yy V (by omega) (by omega) n.ok xl (fun c n=>by have:=xb c n;unfold I64;omega);refine an fun _ K=>?_;simp(disch:=omega) only[kd,aa,w];apply K
   refine ay rfl ?_;refine AD (gC 1 cP 8 [] [] (by kernel_rfl) (by omega) (by decide) fun K C=>?_);simp only[kd];refine C _ ⟨⟨rfl,?_⟩,?_⟩
   ·exact(T3 0 8 _ _).symm
   clear C K;intro K C;simp(disch:=omega) only[kd,aa,Fd,cwD,pB,mu];apply C;clear C K;show bf _ _ _ _;by_cases D:(uU M.length L O x).2.2=true
   ·obtain⟨B,_⟩:=g1 ⟨P,D⟩;refine cz fun _ K=>?_;simp only[kd,A];apply K
    refine⟨⟨i+1,t++[(0,x)],_,_,by omega,B,fun p hp=>?_,y _ (fun a I=>SR _ (s a I)) ⟨1,fun b=>if b=t.length then 1 else 0,by decide,fun j _=>?_⟩⟩,by simp only;omega,aj ⟨rfl,trivial⟩ ?_⟩
    ·rcases abf.1 hp with h|h
     ·exact r p h
     simp at h;subst h;exact E
    ·have:=ze (show t.length<(t++[((0:Int),x)]).length by simp) fun b=>vL (t++[((0:Int),x)]) b j
     rw[Ci]at this;exact this
    simp[wk]
   obtain⟨_,B⟩:=Y fun h=>D h.2
   have D:(uU M.length L O x).2.2=false:=by simpa using D
   obtain⟨h7,h8⟩:=g3 P D;rw[h7,h8];refine cz fun _ K=>?_;simp only[kd,A];apply K
   refine⟨⟨i+1,t,L,O,by omega,n,r,y _ s B⟩,by simp only;omega,aj ⟨rfl,trivial⟩ ?_⟩;simp[wk]
  have w:((L.length:Int)<(M.length:Int))=False:=eq_false (by omega);obtain⟨_,B⟩:=Y fun h=>P h.1
  refine an fun _ K=>?_;simp only[kd,aa,w];apply K
  refine aq rfl (ak ?_);show bf _ _ _ _;refine cz fun _ K=>?_;simp only[kd,A];apply K
  refine⟨⟨i+1,t,L,O,by omega,n,r,y _ s B⟩,by simp only;omega,aj ⟨rfl,trivial⟩ ?_⟩;simp[wk]
 have v:i=l.length:=by omega
 subst v;rw[ZA.rank n r s]at u;subst u;refine an fun _ K=>?_;simp(disch:=omega) only[kd,cq];apply K
 refine bv rfl ?_;show bf _ _ _ _;refine an fun _ K=>?_;simp only[kd,aa];apply K
 (refine aW ⟨.inr rfl,bW rfl ?_ rfl⟩;simp(disch:=omega) only[kd,results26])
theorem zS (M l:List (List Int)) (w:MI M) (A:l.length<=20):CallC prog 27 [cq M,cq l] ⟨[],rkT (RA M l)⟩:=by
 have m:=CA M w;by_cases j:isReducedM M=true
 case neg=>
  have s:isReducedM M=false:=by simpa using j
  unfold RA;rw[if_neg fun h=>j h.1];rw[s]at m;refine dr func27 rfl (by kernel_rfl) ?_;rw[ntmps27];refine an fun _ K=>?_;simp only[kd,cq,aa,ae];apply K
  refine ai (aQ [⟨1,_,_,_,m⟩] [] fun _ K=>?_);simp only[kd,cq,aa];apply K;refine ay rfl ?_;refine an fun _ K=>?_;simp only[kd];apply K
  (refine aW ⟨.inr rfl,bW rfl ?_ rfl⟩;simp(disch:=omega) only[kd,results27])
  rfl
 have t:=Jy j;have q:=t.n1;have r:=t.n8;rw[j]at m;obtain⟨T,f⟩: ∃T,T=RA M l:=⟨_,rfl⟩;rw[<- f];unfold RA at f;refine dr func27 rfl (by kernel_rfl) ?_;rw[ntmps27];refine an fun _ K=>?_;simp only[kd,cq,aa,ae];apply K
 refine ai (aQ [⟨1,_,_,_,m⟩] [] fun _ K=>?_);simp only[kd,cq,aa];apply K;refine aq rfl (ak ?_);show bf _ _ _ _;refine ai (an fun _ K=>?_);simp only[kd,aa];apply K;refine aB (G:=Z1 M l) (fun g=>⟨(cq M::cq l::j4 (j4 (jk::cq l::rN l.length::rN g.i::j4 (j4 (j4 (jk::[])))))),Hm []⟩) (fun g=>l.length-g.i) ⟨0,by omega,by simp⟩ ?_ ?_
 ·refine aj trivial ?_;simp[wk]
 rintro⟨i,z,b⟩;simp only;by_cases B:i<l.length
 ·obtain⟨x,e⟩:=getElem?_of_lt B;have n:=Vz M.length x;have v:IntKind.i64.wrap ((i:Int)+1)=((i+1:Nat):Int):=by rw[aK (by omega) (by omega)];omega
  refine an fun _ K=>?_;simp(disch:=omega) only[kd,cq];apply K
  refine be rfl ?_;refine ai (am ?_);refine an fun _ K=>?_;simp(disch:=omega) only[kd,aa,e,fR];apply K
  by_cases o:FitB M.length x=true
  ·rw[o]at n;refine aQ [⟨3,_,_,_,n⟩] [] fun _ K=>?_;simp only[kd,mY,aa];apply K
   refine aq rfl (ak ?_);show bf _ _ _ _;refine cz fun _ K=>?_;simp only[kd,v];apply K
   refine⟨⟨i+1,by omega,EG e b o⟩,by simp only;omega,aj trivial ?_⟩;simp[wk]
  rw[show FitB M.length x=false by simpa using o]at n;rw[if_neg fun h=>o (aat.1 h.2 x (aai e))]at f;subst f;refine aQ [⟨3,_,_,_,n⟩] [] fun _ K=>?_;simp only[kd,mY,aa];apply K
  refine ay rfl ?_;refine an fun _ K=>?_;simp only[kd];apply K
  (refine aW ⟨.inr rfl,bW rfl ?_ rfl⟩;simp(disch:=omega) only[kd,results27])
  rfl
 have p:i=l.length:=by omega
 subst p;rw[adI]at b;rw[if_pos ⟨j,aat.2 b⟩]at f;have u:=W4 M.length l q r A (fun x e=>(jX.1 (b x e)).1) fun x e c y=>N8 (b x e) c y
 subst f;generalize rkF M.length (oZ l.length (xL l))=C at*
 refine an fun _ K=>?_;simp(disch:=omega) only[kd,cq];apply K
 refine bv rfl ?_;show bf _ _ _ _;refine aQ [⟨3,_,_,_,u⟩] [] fun _ K=>?_;simp only[kd,cq,aa];apply K
 (refine aW ⟨.inr rfl,bW rfl ?_ rfl⟩;simp(disch:=omega) only[kd,results27])
theorem Pb {k:Nat} {X:Nat->Prop} {w:World} {A:Option Addr} (h:RM k w A b) (p: ∀f,X f->f<k):bM X w (.sl (ls (fR fI) b)) (.slice A b.length b.length):=by
 obtain⟨F,f,rfl,E,q,s⟩:=h;have:=bM.sl (X:=X) (w:=w) f 0 1 b.length (ls (fR fI) b) (fun i _=>(w.cell? ⟨f,i,none⟩).getD undef) (fun h=>absurd (p _ h) (by omega)) q (fun e g=>by
  obtain⟨z,_,rfl⟩:=aau.1 g;rfl) (by grind [co]) (by rw[co];omega) (fun i e j x g l=>by
  grind [dO,fR]) (fun i e j x g l=>by
  rw[dO]at g;obtain⟨r,t,rfl⟩:=aak.1 g;cases j with
  |succ j=>simp[fR]at l
  |zero=>
   simp[fR]at l;subst l;obtain⟨u,c,n,y,B,o,C⟩:=s i r t;simp only[n,abD];cases r with
   |nil=>exact bM.nil _ _
   |cons H G=>
    obtain⟨v,m,rfl,D⟩:=o (by simp);grind [PN])
 grind [co]
theorem PP {g:Rho} {H:OH} {X:Nat->Prop} {w:World} {v:Value} (e:Bool) (h:bM X w (.sl (ls (fR fI) b)) v):(WI b e).rel g H X w (.tuple #[v,.bool e]):=by
 refine⟨#[v,.bool e],rfl,rfl,fun j c l f=>?_⟩
 match j,f with
 |0,f=>
  simp at f;obtain⟨rfl,rfl⟩:=f;exact⟨_,rfl,.inr ⟨rfl,_,rfl,h⟩⟩
 |1,f=>
  simp at f;obtain⟨rfl,rfl⟩:=f;exact⟨_,rfl,.inr ⟨rfl,_,rfl,bM.raw _ rfl⟩⟩
 |j+2,f=>simp at f
def Vp (M l:List (List Int)):Option (List (Int×List Int)):=if isReducedM M then fW M l else none
def Xw (M l:List (List Int)):List (List Int):=match Vp M l with|none=>[]|some b=>(ji b).map Prod.snd
def Xv (M l:List (List Int)):Bool:=(Vp M l).isSome
theorem Qp {l:List (List Int)} (h:Vp b l=none):WI (Xw b l) (Xv b l)=WI [] false:=by simp[Xw,Xv,h]
theorem Qq {l:List (List Int)} (h:Vp b l=some e):WI (Xw b l) (Xv b l)=WI ((ji e).map Prod.snd) true:=by simp[Xw,Xv,h]
theorem Tr (M l:List (List Int)) (p:l.length<=65536):CallC prog 89 [cq M,cq l] ⟨[],WI (Xw M l) (Xv M l)⟩:=by
 refine vS (by kernel_rfl) fun X w vs D s g=>?_
 obtain⟨G,x,t⟩:=sC g (j:=0) rfl;obtain⟨H,y,u⟩:=sC g (j:=1) rfl;obtain⟨A,c,rfl,o,r,n⟩:=oJ t;obtain⟨B,d,rfl,E,q,m⟩:=oJ u;obtain rfl:vs= #[.slice A M.length c,.slice B l.length d]:=by
  grind
 refine(xV A B c d M l w n m r o p).mono fun e I ⟨b,h⟩=>?_
 change ZB _ _ (Vp M l) _ at b
 cases f:Vp M l with
 |none=>
  rw[f]at b;rw[Qp f];exact⟨_,b,fun _ _ _ _=>PP _ (bM.nil _ _),h⟩
 |some F=>
  rw[f]at b;rw[Qq f];obtain⟨v,z,C⟩:=b;grind [PP,Pb]
/-! Insertion. -/
def qN (M:List (List Int)) (x:List Int):Int:=BF M.length (ent M) (fun i=>x.getD i 0) (fun i=>x.getD i 0)
theorem W2 (g:x=1\/x= -1):qN b (c.map fun a=>x*a)=qN b c:=by
 unfold qN BF;refine aF _ fun i _=>?_
 have e: ∀i,(c.map fun a=>x*a).getD i 0=x*c.getD i 0:=fun i=>by
  grind
 simp only[e];have f:smF (fun j=>ent b i j*(x*c.getD j 0)) b.length=x*smF (fun j=>ent b i j*c.getD j 0) b.length:=by
  rw[<- bX];grind
 grind
theorem DA: ∀(l acc:List (Int×List Int)),(l.foldl (fun acc x=>nP x acc) acc).length<=l.length+acc.length
 |[],acc=>by simp
 |x::l,acc=>by
  have:=DA l (nP x acc);grind [PE]
section
section
variable {M:List (List Int)} {n:Nat} {f:FF} {B:Int}
theorem YH (r:RedR f n) (l:n<=8) (h:0<=B) (j:B<=65536) (t:c.length=n) (g:li n f c<=B): ∀b∈c,b.natAbs<=524288:=fun b o=>by
 rw[qU]at g;have m:B*((2^n:Nat):Int)<=((4096:Nat):Int)*((4096:Nat):Int):=by
  have e:(2^n:Nat)<=256:=aap (aaJ (by omega) l) (by decide);generalize(2^n:Nat)=p at*
  have:=aa7 j (aen.2 e) (by omega) (by omega);omega
 obtain⟨i,s⟩:=abd.1 o;have q:i<n:=by grind
 have:=zc r (fun i=>c.getD i 0) h g m (n-i-1) i (by omega);have e:2^(n-i-1)<=2^7:=aaJ (by omega) (by omega);grind
theorem N2 (c:RedR f n) (b:0<=B) (z:List Int):z∈gE f n B n []↔z.length=n/\li n f z<=B:=by
 rw[Tb c.pd b,qU]
theorem N3: ∀(k:Nat) (w z:List Int),z∈gE f n B k w-> ∃p,z=p++w
 |0,w,z,h=>⟨[],by grind [gE]⟩
 |k+1,w,z,h=>by
  simp only[gE,adH]at h;obtain⟨c,_,h⟩:=h;obtain⟨p,rfl⟩:=N3 k (c::w) z h;exact⟨p++[c],by simp⟩
theorem Qe {r:List Int} (g: ∀b∈c,b=0) (e:x≠0):gm (c++x::r)=if x<0 then -1 else 1:=by
 grind [gm]
theorem JF {p:List Int} (g: ∀b∈c,b=0) (e:x≠0):gm (p++x::c).reverse=if x<0 then -1 else 1:=by
 grind [Qe]
theorem Je (j:oS n f B) (z:List Int): ∀(k:Nat) (y:List Int) (b:Bool),y.length+(k+1)=n->o8 y->gM f n B (k+1) (aY n y)->(b=true-> ∀x∈y,x=0)->(z∈yh f n B false k y b↔z∈gE f n B (k+1) y/\(b=true->gm z.reverse=1))
 |0,y,b,h,u,g,o=>by
  have r:=fun e=>oB j h g (o e)
  simp only[yh,gE,adH,oD,aaq,Bool.false_and,aaZ,or_false];constructor
  ·rintro⟨c,⟨l,m⟩,t⟩;split at t
   ·simp at t
   rename_i s;obtain rfl:z=c::y:=by grind
   cases b with
   |false=>grind
   |true=>
    have q:c≠0:=fun e=>s (by simp[e])
    simp only[if_true]at l;refine⟨⟨c,⟨by grind,m⟩,rfl⟩,fun _=>?_⟩;have:=JF (p:=[]) (o rfl) q;grind
  grind [gm]
 |k+1,y,b,h,u,g,o=>by
  have r:=fun e=>oB j h g (o e)
  have w:=fun c (l:eB f n B (k+1) (aY n y)<=c) (m:c<=fC f n B (k+1) (aY n y))=>Je j z k (c::y) (b&&decide (c=0)) (by grind) (j.tcb h u g l m) (j.step h g l m).1 fun e=>by
   grind
  have v:gE f n B (k+1+1) y=(rng (eB f n B (k+1) (aY n y)) (fC f n B (k+1) (aY n y))).flatMap fun c=>gE f n B (k+1) (c::y):=rfl
  grind [yh,oD,N3,JF]
noncomputable def ED (f:FF) (n:Nat) (B:Int):List (List Int):=yh f n B false (n-1) [] true
theorem GH (h:Rf M n f) (b:0<=B) (e:B<=65536) (z:List Int):z∈ED f n B↔z.length=n/\li n f z<=B/\gm z.reverse=1:=by
 have c:=h.vs b e;have g:gM f n B n (aY n []):=kv c.r.pd b;have l:=h.n1;unfold ED;rw[Je c z (n-1) [] true (by simp;omega) o8.nil (by grind) (fun _ x j=>by simp at j),show n-1+1=n by omega,N2 h.r b,and_assoc]
 simp
theorem PJ (h:Rf M n f) (z:List Int):qN M z=li n f z:=by
 unfold qN;rw[h.l,h.en,qU]
theorem Qd (h:gm c.reverse=1):gm c≠0:=fun e=>by
 grind [LX]
def X7 (n:Nat) (f:FF) (z:List Int):Int×List Int:=(li n f z,UZ z)
theorem WN (h:Rf M n f) (q:0<=B) (s:B<=65536) (m:c.length=n) (t:li n f c<=B) (v:gm c≠0):nF M c=some (X7 n f c):=by
 have w:=YH h.r h.n8 q s m t;have g:Ay c=true:=by
  grind [Ay]
 have b:FitB M.length c=true:=jX.2 ⟨by rw[m,h.l],g⟩;have u:0<=li n f c:=by
  rw[qU];have:=(jU h.r.pd.1 h.r.pd.2 (fun i=>c.getD i 0) n 0 (by omega)).1;rwa[jW (f':=f) (fun i j _ _=>dc f i j) (fun _ _=>rfl) (fun _ _=>rfl)]at this
 have e:=WK h.red b b;unfold nF;rw[if_pos b];have o:tO M c=some (li n f c):=by
  unfold tO;rw[e,show BF M.length (ent M) (fun i=>c.getD i 0) (fun i=>c.getD i 0)=li n f c from PJ h c];grind
 have p:iy c=some (UZ c):=by
  rw[FY g,if_neg v];rfl
 rw[o,p];rfl
theorem I3 (h:Rf M n f) (b:0<=B) (c:B<=65536): ∀{l:List (List Int)},(∀z∈l,z.length=n/\li n f z<=B/\gm z≠0)->fW M l=some (l.map (X7 n f))
 |[],_=>rfl
 |x::l,e=>by
  obtain⟨g,j,m⟩:=e x (by simp);unfold fW;rw[WN h b c g j m,I3 h b c (fun y o=>e y (by simp[o]))];rfl
noncomputable def Cr (f:FF) (n:Nat) (B:Int):List (Int×List Int):=ji ((ED f n B).map (X7 n f))
theorem ZV (h:Rf M n f) (b:0<=B) (c:B<=65536):Xw M (ED f n B)=(Cr f n B).map Prod.snd/\Xv M (ED f n B)=true:=by
 have e:=I3 h b c (l:=ED f n B) fun z j=>by
  grind [GH,Qd]
 have g:Vp M (ED f n B)=some ((ED f n B).map (X7 n f)):=by unfold Vp;rw[if_pos h.red,e]
 unfold Xw Xv;rw[g];exact⟨rfl,rfl⟩
theorem GO (h:Rf M n f) (b:x=1\/x= -1) (z:List Int):li n f (z.map fun a=>x*a)=li n f z:=by
 rw[<- PJ h,<- PJ h,W2 b]
theorem Wm (h:gm c=1):UZ c=c:=by
 simp_all[UZ]
theorem Rg (h:Rf M n f) (l:0<=B) (m:B<=65536) (p:Int×List Int):p∈Cr f n B↔p.2.length=n/\p.1=li n f p.2/\p.1<=B/\gm p.2=1:=by
 unfold Cr;rw[As,aau];constructor
 ·grind [GH,gm,X7,UZ,GO,xQ]
 rintro⟨c,b,g,j⟩;obtain⟨v,y⟩:=p;simp only at c b g j;subst b;have o:gm y.reverse≠0:=fun e=>by
  grind [gm]
 have q:gm y.reverse=1\/gm y.reverse= -1:=by grind [Ha]
 refine⟨y.map fun a=>gm y.reverse*a,(GH h l m _).2 ⟨by grind,by grind [GO],?_⟩,?_⟩
 ·rw[<- List.map_reverse,xQ q];grind
 grind [X7,GO,Sp,Wm]
end
end
end Go.Proofs.YtalmoejhjceflaaGreat
