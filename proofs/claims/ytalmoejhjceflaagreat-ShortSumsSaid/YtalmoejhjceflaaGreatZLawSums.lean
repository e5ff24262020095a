/-
  Proved: the statement ShortSumsSaid: for every input the law quadformlaw13.ShortSums returns true, and each argument reads afterwards as it read before. No condition.
-/
import Derived.Test.YtalmoejhjceflaaGreatQ49
set_option linter.all false
set_option maxRecDepth 100000
set_option maxHeartbeats 64000000
open List renaming replicate → ae
namespace Go.Proofs.YtalmoejhjceflaaGreat
open Go.RowKit Go.Proofs.Tryz
section
open Go.ChangeShapes Go.WideShapes Go.ChangeAt Go.RowKit
theorem xL:joinedFacts Tryz.pinned.checked.prog 7 f7 Rows.shortSumsSpec Rows.shortSumsRow=true:=by kernel_rfl
end
variable {n m:Nat} {b c e:FF} {f:List Int}
section
variable {n:Nat}
theorem aaC {F:Nat->Int} {b:Nat} (j:n<b) (l:m<b):bW (fun a=>if a=n then F m else if a=m then F n else F a) b=bW F b:=by
 by_cases h:n=m
 ·subst h;exact aO b fun a _=>by
   by_cases e:a=n
   ·subst e;rw[if_pos rfl]
   rw[if_neg e,if_neg e]
 have f:=lA (F:=F) (G:=fun a=>if a=n then F m else F a) j (fun a _ c=>(if_neg c).symm);have g:=lA (F:=fun a=>if a=n then F m else F a) (G:=fun a=>if a=n then F m else if a=m then F n else F a) l (fun a _ c=>by
  by_cases e:a=n
  ·rw[if_pos e,if_pos e]
  rw[if_neg e,if_neg e,if_neg c])
 rw[if_pos rfl]at f;rw[if_neg (aed h),if_pos rfl,if_neg (aed h)]at g;omega
def Dx (n:Nat) (t:FF):Prop:= ∀v:Nat->Int,∃y,∀j,j<n->mV n t y j=v j
theorem Dx.of (h:Dx n b) (k: ∀x,∃y,∀j,j<n->mV n c y j=mV n b x j):Dx n c:=fun v=>by
 obtain⟨x,f⟩:=h v;obtain⟨y,g⟩:=k x;exact⟨y,fun j e=>by rw[g j e,f j e]⟩
theorem Dx.one:Dx n (fun i j=>if i=j then 1 else 0):=fun v=>⟨v,fun j c=>by
 show bW (fun a=>v a*(if j=a then 1 else 0)) n=v j;rw[mH c (fun p _ b=>by rw[if_neg (aed b),agQ]),if_pos rfl,ag6]⟩
theorem Dx.congr (h:Dx n b) (e: ∀i j,i<n->j<n->c i j=b i j):Dx n c:=h.of fun x=>⟨x,fun j g=>aO n fun a f=>by rw[e j a g f]⟩
theorem Dx.swap (h:Dx n b) {q:Nat} (g:m<n) (l:q<n):Dx n (fun i c=>if c=m then b i q else if c=q then b i m else b i c):=h.of fun x=>
 ⟨fun a=>if a=m then x q else if a=q then x m else x a,fun j _=>by
  unfold mV;rw[<- aaC (F:=fun a=>x a*b j a) g l];refine aO n fun a _=>?_
  show(if a=m then x q else if a=q then x m else x a)*(if a=m then b j q else if a=q then b j m else b j a)=if a=m then x q*b j q else if a=q then x m*b j m else x a*b j a
  by_cases e:a=m
  ·rw[if_pos e,if_pos e,if_pos e]
  rw[if_neg e,if_neg e,if_neg e];by_cases f:a=q
  ·rw[if_pos f,if_pos f,if_pos f]
  rw[if_neg f,if_neg f,if_neg f]⟩
theorem Dx.addc (h:Dx n b) {i:Nat} (q:i<n) (r:m<n) (l:i≠m) (c:Int):Dx n (fun a f=>if f=i then b a i+c*b a m else b a f):=h.of fun x=>
 ⟨fun f=>if f=m then x m-c*x i else x f,fun a _=>by
  have o:=lA (F:=fun f=>x f*b a f) (G:=fun f=>if f=m then(x m-c*x i)*b a m else x f*b a f) r (fun f _ g=>(if_neg g).symm);have p:=lA (F:=fun f=>if f=m then(x m-c*x i)*b a m else x f*b a f) (G:=fun f=>(if f=m then x m-c*x i else x f)*(if f=i then b a i+c*b a m else b a f)) q (fun f _ g=>by
   show _=(if f=m then x m-c*x i else x f)*(if f=i then b a i+c*b a m else b a f);rw[if_neg g];by_cases e:f=m
   ·subst e;rw[if_pos rfl,if_pos rfl]
   rw[if_neg e,if_neg e])
  show bW (fun f=>(if f=m then x m-c*x i else x f)*(if f=i then b a i+c*b a m else b a f)) n=bW (fun f=>x f*b a f) n;rw[p,o];simp only[if_true,if_neg l];grind⟩
theorem WR {T:FF} (x:Rch n b c e T):Dx n c->Dx n T:=by
 induction x with
 |done _ _ _=>exact id
 |step b c e T l v _ y=>
  intro s;refine y ?_;obtain⟨u,p⟩:=gY v;cases l with
  |add i j=>
   have p:i<n:=p;have w:j<i:=u.1;refine(s.addc p (show j<n by omega) (by omega) (cF b i j)).congr fun a g _ q=>?_
   show jK n c (QI i j (cF b i j)) a g=_;rw[Ej (by omega) (by omega) c a g q];by_cases o:g=i
   ·subst o;rw[if_pos rfl,if_pos rfl]
   rw[if_neg o,if_neg o,agN]
  |swp m=>
   have r:m+1<n:=p;refine(s.swap (show m<n by omega) r).congr fun a g _ q=>?_
   show jK n c (P4 m) a g=_;rw[Ek r c a g q];unfold rK;split
   ·rfl
   split<;>rfl
theorem ZE (h: ∀a g,a<n->g<n->b a g=c a g) (a g:Nat):oy n b e a g=oy n c e a g:=by
 rw[vY,vY];exact dI h (fun _ _=>rfl) fun _ _=>rfl
theorem WO {f0 T:FF} (v:Rch n b c e T):(∀a g,a<n->g<n->oy n f0 c a g=b a g)-> ∀a g,a<n->g<n->oy n f0 T a g=e a g:=by
 induction v with
 |done _ _ _=>exact id
 |step b c e T l u _ w=>
  intro o;refine w fun a g q r=>?_
  rw[<- Vy,ZE o];obtain⟨p,s⟩:=gY u;cases l with
  |add i j=>exact LU (by have:=p.1;omega) (by have:i<n:=s;have:=p.1;omega) b a g q r
  |swp m=>exact Ra s b a g q r
def Qa (n:Nat) (g h:FF):Prop:= ∃T,Dx n T/\ ∀a b,a<n->b<n->oy n g T a b=h a b
theorem aaL:Dx n idF:=Dx.one.congr fun _ _ _ _=>rfl
theorem ZG (h:FF) {a:Nat} (c:a<n) (f:m<n):oy n h idF a m=h a m:=by
 have e: ∀x y,BF n h x y=bW (fun i=>x i*bW (fun j=>h i j*y j) n) n:=fun _ _=>rfl
 rw[vY,e,aO n (G:=fun i=>h i m*idF i a) (fun i _=>by rw[E5 f];exact agP _ _)];exact E5 (y:=fun i=>h i m) c
theorem WP (g:Rch n b idF c e):Qa n b c:=⟨e,WR g aaL,WO g fun _ _ j l=>ZG b j l⟩
end
section
theorem yj (F:Nat->Int) (a:Nat): ∀b,bW F (a+b)=bW F a+bW (fun i=>F (a+i)) b
 |0=>by simp[bW]
 |b+1=>by rw[<- aeU,bW,yj F a b,bW];omega
def xt (b c:Nat) (f g:FF):Nat->Nat->Int:=fun i j=>if i<b/\j<b then f i j else if(b<=i/\b<=j)/\i<b+c/\j<b+c then g (i-b) (j-b)else 0
theorem P6 (b c:Nat) (f g:FF) (x:Nat->Int):BF (b+c) (xt b c f g) x x=BF b f x x+BF c g (fun i=>x (b+i)) fun i=>x (b+i):=by
 have e: ∀(n:Nat) f (x y:Nat->Int),BF n f x y=bW (fun i=>x i*bW (fun j=>f i j*y j) n) n:=fun _ _ _ _=>rfl
 rw[e,e,e,yj]
 congr 1
 ·refine aO b fun i l=>?_
  rw[yj,aO (G:=fun j=>f i j*x j) b (fun j h=>by unfold xt;rw[if_pos ⟨l,h⟩]),aO (G:=fun _=>0) c (fun j h=>by unfold xt;rw[if_neg (by omega),if_neg (by omega),afJ]),dV,agN]
 refine aO c fun i l=>?_
 rw[yj,aO (G:=fun _=>0) b (fun j h=>by unfold xt;rw[if_neg (by omega),if_neg (by omega),afJ]),dV,aeO];refine congrArg _ (aO c fun j h=>?_);unfold xt;rw[if_neg (by omega),if_pos (by omega),af2,af2]
theorem aac (n:Nat) (f:FF) (x:Nat->Int):fA n f (aN n x)=BF n f x x:=by
 rw[gA];exact dI (fun _ _ _ _=>rfl) (fun i b=>nK x b) fun i b=>nK x b
theorem AN (h:f.length=n):aN n (fun i=>f.getD i 0)=f:=acz fun i=>by
 by_cases b:i<n
 ·rw[aB _ b,acm,acy (show i<f.length by omega)];rfl
 rw[ad6 (by rw[aD];omega),ad6 (by omega)]
theorem J7 (f g:FF) (w:List Int):fA (n+m) (xt n m f g) w=fA n f (w.take n)+fA m g (w.drop n):=by
 rw[gA,gA,gA,P6];have b: ∀i,i<n->(w.take n).getD i 0=w.getD i 0:=fun i e=>by
  rw[acm,acm,adm,if_pos e]
 have c: ∀i,(w.drop n).getD i 0=w.getD (n+i) 0:=fun i=>by
  rw[acm,acm,adq]
 rw[dI (fun _ _ _ _=>rfl) b b,dI (fun _ _ _ _=>rfl) (fun i _=>c i) fun i _=>c i]
theorem CS (c:PD b n) (z:List Int):0<=fA n b z:=by
 rw[gA];exact(c.pos _).1
section
variable {n:Nat} {s h:FF}
theorem MU (F G:Nat->Int): ∀m,bW (fun i=>F i-G i) m=bW F m-bW G m
 |0=>rfl
 |m+1=>by rw[bW,bW,bW,MU F G m];omega
theorem GM (x:Qa n s h) (y:PD h n): ∃c q:List Int->List Int,(∀z,(c z).length=n/\fA n s (c z)=fA n h z)/\(∀w,w.length=n->(q w).length=n/\c (q w)=w)/\ ∀z b,z.length=n->b.length=n->c z=c b->z=b:=by
 obtain⟨T,p,o⟩:=x;refine⟨fun z=>aN n (mV n T fun i=>z.getD i 0),fun w=>aN n (Classical.choose (p fun i=>w.getD i 0)),fun z=>⟨aD _ _,?_⟩,fun w A=>⟨aD _ _,?_⟩,fun z b B m e=>?_⟩
 ·rw[aac,ID,gA];exact dI o (fun _ _=>rfl) fun _ _=>rfl
 ·refine ahn ?_ (AN A);refine dT fun j f=>?_
  have g:=adz (p fun i=>w.getD i 0) j f;refine ahn ?_ g;exact aO n fun a u=>congrArg (· *T j a) (nK _ u)
 have g: ∀j,j<n->mV n T (fun i=>z.getD i 0-b.getD i 0) j=0:=fun j f=>by
  have l:(aN n (mV n T fun i=>z.getD i 0)).getD j 0=(aN n (mV n T fun i=>b.getD i 0)).getD j 0:=congrArg (·.getD j 0) e;rw[nK _ f,nK _ f]at l;simp only[mV]at l⊢;rw[aO (G:=fun a=>z.getD a 0*T j a-b.getD a 0*T j a) n (fun a _=>Int.sub_mul _ _ _),MU,l];omega
 have r:BF n h (fun i=>z.getD i 0-b.getD i 0) (fun i=>z.getD i 0-b.getD i 0)=0:=by
  rw[<- dI o (fun _ _=>rfl) fun _ _=>rfl,<- ID];exact jc g
 have t:=(y.pos _).2.1 r;rw[<- AN B,<- AN m];exact dT fun i v=>by have:=t i v;omega
end
theorem CP {j q:Type} {g:j->q} {l:List j} (f: ∀x∈l,∀y∈l,g x=g y->x=y) (h:l.Nodup):(l.map g).Nodup:=by
 induction l with
 |nil=>simp
 |cons a l p=>
  rw[aej]at h;rw[acA,aej];refine⟨fun m=>?_,p (fun x n y o=>f x (by simp[n]) y (by simp[o])) h.2⟩;obtain⟨c,b,e⟩:=acn.1 m;have:=f c (by simp[b]) a (by simp) e;exact h.1 (this▸b)
theorem grp {g:Type} (v:g->Int) (G:g->Nat) (C:Nat->Int) (m:Nat): ∀l:List g,(∀x∈l,(∃i,i<=m/\v x=(i:Int)/\(G x:Int)=C i)\/(G x=0/\ ∀i:Nat,i<=m->v x≠(i:Int)))->
  (((l.map G).sum:Nat):Int)=bW (fun i=>((l.filter fun x=>decide (v x=(i:Int))).length:Int)*C i) (m+1)
 |[],_=>by
  rw[aO (G:=fun _=>0) (m+1) fun i _=>by simp,dV];rfl
 |x::l,h=>by
  have p:=grp v G C m l fun y o=>h y (by simp[o])
  have f: ∀i:Nat,(((x::l).filter fun x=>decide (v x=(i:Int))).length:Int)=(if v x=(i:Int)then 1 else 0)+((l.filter fun x=>decide (v x=(i:Int))).length:Int):=fun i=>by
   rw[List.filter_cons];by_cases e:v x=(i:Int)
   ·simp[e];omega
   simp[e]
  rw[acA,af0,Int.natCast_add,p];rcases h x (by simp)with⟨i,j,b,c⟩|⟨b,c⟩
  ·rw[lA (F:=fun i=>((l.filter fun x=>decide (v x=(i:Int))).length:Int)*C i) (G:=fun i=>(((x::l).filter fun x=>decide (v x=(i:Int))).length:Int)*C i) (i:=i) (by omega) fun a _ n=>by
    show _*C a=_*C a;rw[f a,if_neg (by omega),aeO]]
   show _=_+((((x::l).filter fun x=>decide (v x=(i:Int))).length:Int)*C i-_);rw[f i,if_pos b,c,ag5];omega
  rw[aO (F:=fun i=>(((x::l).filter fun x=>decide (v x=(i:Int))).length:Int)*C i) (G:=fun i=>((l.filter fun x=>decide (v x=(i:Int))).length:Int)*C i) (m+1) fun i j=>by
   show(((x::l).filter fun x=>decide (v x=(i:Int))).length:Int)*C i=((l.filter fun x=>decide (v x=(i:Int))).length:Int)*C i;rw[f i,if_neg (c i (by omega)),aeO],b]
  simp
section
variable {M A B:List (List Int)} {n1 n2:Nat} {h f g:FF}
noncomputable def prL (f g:FF) (n1 n2 b m:Nat):List (List Int):=(dO f n1 (b:Int) n1 []).flatMap fun x=>((dO g n2 (b:Int) n2 []).filter fun y=>decide (fA n1 f x+fA n2 g y=(m:Int))).map fun y=>x++y
theorem WE (e:Rf A n1 f) (j:Rf B n2 g) (s:m<=n) (w:List Int):w∈prL f g n1 n2 n m↔w.length=n1+n2/\fA (n1+n2) (xt n1 n2 f g) w=(m:Int):=by
 rw[J7];unfold prL;rw[afs];constructor
 ·rintro⟨x,q,p⟩;obtain⟨y,l,rfl⟩:=acn.1 p;rw[aeA,decide_eq_true_eq]at l;have c:=((jW e.r (by omega) x).1 q).1;have o:=((jW j.r (by omega) y).1 l.1).1;rw[afc c,afb c,acJ];exact⟨by omega,l.2⟩
 rintro⟨c,o⟩;have t:=CS e.r.pd (w.take n1);have u:=CS j.r.pd (w.drop n1);refine⟨w.take n1,(jW e.r (by omega) _).2 ⟨by rw[acY];omega,by omega⟩,acn.2 ⟨w.drop n1,aeA.2 ⟨(jW j.r (by omega) _).2 ⟨by rw[aea];omega,by omega⟩,decide_eq_true o⟩,agp n1 w⟩⟩
theorem aak (c:Rf A n1 f) (b m:Nat):(prL f g n1 n2 b m).Nodup:=by
 unfold prL;refine ago.2 ⟨fun x _=>En (fun _ _ e=>List.append_cancel_left e) ((Cv _ _).filter _),?_⟩;refine List.Pairwise.imp_of_mem (R:=(· ≠ ·)) (fun{x x'} hx hx' hne z hz z' hz' e=>?_) (Cv n1 []);obtain⟨y,_,rfl⟩:=acn.1 hz;obtain⟨n,_,rfl⟩:=acn.1 hz';have j:=((jW c.r (by omega) x).1 hx).1;have l:=((jW c.r (by omega) x').1 hx').1;exact hne (List.append_inj_left e (by omega))
theorem WD (c:Rf A n1 f) (e:Rf B n2 g) (o:m<=n):((prL f g n1 n2 n m).length:Int)=bW (fun i=>lY f n1 n i*lY g n2 n (m-i)) (m+1):=by
 unfold prL;rw[afF];refine grp (fA n1 f) _ (fun i=>lY g n2 n (m-i)) m _ fun x p=>?_
 have q:=CS c.r.pd x;by_cases j:fA n1 f x<=(m:Int)
 ·refine .inl ⟨(fA n1 f x).toNat,by omega,by omega,?_⟩;rw[ac0];unfold lY
  congr 2
  refine aeW fun y _=>decide_eq_decide.2 ?_
  omega
 refine .inr ⟨?_,fun i l=>by omega⟩;rw[ac0,ad0,aeo];intro y _;have s:=CS e.r.pd y;rw[decide_eq_true_eq];omega
theorem ZM (C:Rf M (n1+n2) h) (l:Rf A n1 f) (v:Rf B n2 g) (L:Qa (n1+n2) (xt n1 n2 f g) h) (D:m<=n):lY h (n1+n2) n m=bW (fun i=>lY f n1 n i*lY g n2 n (m-i)) (m+1):=by
 rw[<- WD l v D];obtain⟨R,S,t,u,N⟩:=GM L C.r.pd;have c: ∀z,z∈((dO h (n1+n2) (n:Int) (n1+n2) []).filter fun z=>decide (fA (n1+n2) h z=(m:Int)))↔z.length=n1+n2/\fA (n1+n2) h z=(m:Int):=fun z=>by
  rw[aeA,jW C.r (by omega),decide_eq_true_eq];exact⟨fun h=>⟨h.1.1,h.2⟩,fun h=>⟨⟨h.1,by omega⟩,h.2⟩⟩
 have O:((dO h (n1+n2) (n:Int) (n1+n2) []).filter fun z=>decide (fA (n1+n2) h z=(m:Int))).Nodup:=(Cv _ _).filter _;unfold lY;generalize((dO h (n1+n2) (n:Int) (n1+n2) []).filter fun z=>decide (fA (n1+n2) h z=(m:Int)))=E at*
 have j:=WE l v D;have Q:=aak (g:=g) (n2:=n2) l n m;generalize prL f g n1 n2 n m=P at*
 have F:=sO (b:=P) (CP (g:=R) (fun x p y q=>N x y ((c x).1 p).1 ((c y).1 q).1) O) fun w o=>by
  obtain⟨z,s,rfl⟩:=acn.1 o;exact(j _).2 ⟨(t z).1,by rw[(t z).2];exact((c z).1 s).2⟩
 have G:=sO (b:=E) (CP (g:=S) (fun x p y q e=>by rw[<- (u x ((j x).1 p).1).2,e,(u y ((j y).1 q).1).2]) Q) fun z s=>by
  obtain⟨w,o,rfl⟩:=acn.1 s;obtain⟨H,I⟩:=(j w).1 o;obtain⟨J,K⟩:=u w H;exact(c _).2 ⟨J,by rw[<- (t _).2,K];exact I⟩
 rw[ac0]at F G;omega
end
section
variable {M A B:List (List Int)} {n n1 n2:Nat} {h f g:FF}
theorem abB (j:Rf M n f) {z:List Int} (l:z.length=n):0<fA n f z↔cQ z≠0:=by
 refine⟨fun b e=>?_,fun e=>J6 j l e⟩;have c:=rj.1 e;rw[gA,jc fun i m=>c _ (by rw[acm,acy (by omega)];simp)]at b;omega
theorem SG (b:Rf M n f) {z:List Int} (l:z.length=n) (p:0<fA n f z):rz f n<=fA n f z:=by
 obtain⟨_,q,m⟩:=sK b;have o:=my b;rcases aec (fA n f z) (gh n f)with c|c
 ·have j:=(abB b l).1 p;have e:=Ak b (s:=cQ z) (by have:=iV z;omega) z;have:=m (fA n f z,z.map fun a=>cQ z*a) ((ta b (by omega) o.2 _).2 ⟨by simp[l],e.symm,c,by
   rw[nQ (by have:=iV z;omega)];rcases iV z with h|h|h
   ·exact absurd h j
   ·rw[h];rfl
   rw[h];rfl⟩)
  exact this
 omega
theorem SF (b:Rf M n f): ∃z,z.length=n/\fA n f z=rz f n:=by
 have l:=my b;obtain⟨p,c⟩:=getElem?_of_lt (Ix b);obtain⟨e,j,_,_⟩:=(ta b (by omega) l.2 p).1 (acd c);refine⟨p.2,e,?_⟩;rw[<- j];unfold rz;rw[acm,c];rfl
theorem aaa (o:Rf M (n1+n2) h) (l:Rf A n1 f) (m:Rf B n2 g) (v:Qa (n1+n2) (xt n1 n2 f g) h):rz h (n1+n2)=min (rz f n1) (rz g n2):=by
 obtain⟨b,H,s,D,I⟩:=GM v o.r.pd;have c: ∀w:List Int,w.length=n1+n2->0<fA n1 f (w.take n1)+fA n2 g (w.drop n1)->rz h (n1+n2)<=fA n1 f (w.take n1)+fA n2 g (w.drop n1):=fun w C q=>by
  obtain⟨t,u⟩:=D w C;have e:=(s (H w)).2;rw[u,J7]at e;rw[e]at q⊢;exact SG o t q
 have U:fA n1 f (ae n1 0)=0:=by rw[gA];exact jc fun i p=>by simp[acm,p]
 have V:fA n2 g (ae n2 0)=0:=by rw[gA];exact jc fun i p=>by simp[acm,p]
 obtain⟨x,j,S⟩:=SF l;obtain⟨y,G,T⟩:=SF m;obtain⟨z,Q,R⟩:=SF o;have J:=(sK l).1;have K:=(sK m).1;have L:=(sK o).1;have l1:=c (x++ae n2 0) (by simp[j]) (by rw[afc j,afb j];omega);have E:=c (ae n1 0++y) (by simp[G]) (by rw[afc (by simp),afb (by simp)];omega);rw[afc j,afb j]at l1;rw[afc (by simp),afb (by simp)]at E;obtain⟨N,F⟩:=s z;rw[J7]at F;have O:=CS l.r.pd ((b z).take n1);have P:=CS m.r.pd ((b z).drop n1);have t1:0<fA n1 f ((b z).take n1)->rz f n1<=fA n1 f ((b z).take n1):=SG l (by rw[acY];omega);have t2:0<fA n2 g ((b z).drop n1)->rz g n2<=fA n2 g ((b z).drop n1):=SG m (by rw[aea];omega);omega
end
end
section
def MV (c i j:Nat) (f:FF):Nat->Nat->Int:=fun a b=>if(a<i\/(a=i/\b<j))/\b<c then f a b else 0
def KA (c e i j:Nat) (f g:FF):Nat->Nat->Int:=fun a b=>if a<c/\b<c then f a b else if(c<=a/\c<=b)/\(a<c+i\/(a=c+i/\b<c+j))/\b<c+e then g (a-c) (b-c)else 0
section
variable {n1 n2 i j a b:Nat} {f g:FF}
theorem YR (f:FF) (i j:Nat) (v:Int) (a b:Nat):upd f i j v a b=if a=i/\b=j then v else f a b:=by
 unfold upd;by_cases h:a=i
 ·subst h;by_cases c:b=j<;>simp[c]
 simp[h]
theorem TB (c:j<n1):upd (MV n1 i j f) i j (f i j) a b=MV n1 i (j+1) f a b:=by
 rw[YR];grind [MV]
theorem Xi (c:b<n1+n2):MV n1 i n1 f a b=MV n1 (i+1) 0 f a b:=by
 grind [MV]
theorem Xh (c:a<n1+n2):MV n1 n1 0 f a b=KA n1 n2 0 0 f g a b:=by
 grind [MV,KA]
theorem TD (c:j<n2):upd (KA n1 n2 i j f g) (n1+i) (n1+j) (g i j) a b=KA n1 n2 i (j+1) f g a b:=by
 rw[YR];grind [KA]
theorem Xk (c:b<n1+n2):KA n1 n2 i n2 f g a b=KA n1 n2 (i+1) 0 f g a b:=by
 grind [KA]
theorem Xj (c:a<n1+n2):KA n1 n2 n2 0 f g a b=xt n1 n2 f g a b:=by
 grind [KA,xt]
theorem TC:MV n1 0 0 f a b=0:=by
 grind [MV]
end
abbrev osT (l:List (List Int)) (e:Int):TV:= .tup [(false,[.p (.sl (ls (fR fZ) l))]),(false,[.p (.raw (.int .i64 e))])]
theorem aaj (e h:Nat) (f g:FF) (O:1<=e) (P:1<=h) (hn:e+h<=8) (R: ∀i j,i<e->j<e->Sz (f i j) 1024) (sg: ∀i j,i<h->j<h->Sz (g i j) 1024) (yf:SymF f e) (pf:xz f e) (yg:SymF g h) (pg:xz g h):
  CallC prog 22 [dr (mat e e f),dr (mat h h g)] ⟨[],osT (mat (e+h) (e+h) (xt e h f g)) 0⟩:=by
 obtain⟨U,I,S⟩:=jP e e f O (by omega) O (by omega) R;obtain rfl:U=0:=I.2 ⟨rfl,by omega,yf,pf⟩;obtain⟨V,J,T⟩:=jP h h g P (by omega) P (by omega) sg;obtain rfl:V=0:=J.2 ⟨rfl,by omega,yg,pg⟩;have l1:=aU e e f;have L:=aU h h g;have F:=rU (e+h) (e+h) (by omega) (by omega);rw[oQ,oU]at F;have C:IntKind.i64.wrap ((e:Int)+(h:Int))=((e+h:Nat):Int):=by rw[aL (by omega) (by omega)];omega
 have N:(8<((e+h:Nat):Int))=False:=eq_false (by omega);have m1:=fun i (r:i<e)=>bD e f r
 have m2:=fun i (r:i<h)=>bD h g r
 generalize mat e e f=A at*
 generalize mat h h g=B at*
 obtain⟨n,X⟩: ∃n,n=e+h:=⟨_,rfl⟩;rw[<- X]at F C N⊢;refine ax func22 rfl ntmps22 (aA (k:=ai (bj [⟨1,_,_,_,S⟩] (k:=ar (k:=ao rfl (ak (ai (bj [⟨1,_,_,_,T⟩] (k:=ar (k:=ao rfl (ak (ai (dR (aC l1 (aC L (aC C N))) (k:=ao rfl (ak (dU [⟨10,_,_,_,F⟩] (aC l1 (aC L C)) (k:=ai (dR l1 (k:=?_)))))))))))))))))));refine ay (G:=fY e) (fun q=>⟨(dr A::dr B::j4 (jk::jk::.one (.sl 39 0 0 n)::j16 (j16 (.raw (.int .i64 (e:Int))::rN q.i::j16 (j16 (j16 (j4 (j4 (j4 (jk::jk::[])))))))))),Hm [(39,ij 39 n n (MV e q.i 0 f))]⟩) (fun q=>e-q.i) ⟨0,by omega⟩ ?_ ?_
 ·refine aj ⟨?_,trivial⟩ ?_
  ·show _::_=_::_;rw[bO fun p q _ _=>TC (n1:=e) (f:=f) (a:=p) (b:=q)];exact gk 0 39 n n _
  simp[wk]
 rintro⟨i,Z⟩;simp only;by_cases r:i<e
 ·have y:IntKind.i64.wrap ((i:Int)+1)=((i+1:Nat):Int):=by rw[aL (by omega) (by omega)];omega
  have t:=m1 i r;have M:=aD e (f i);refine ar (k:=aV rfl (ai (am (bi (k:=aH (aC t M) (k:=?_))))));refine ay (G:=fY e) (fun q=>⟨(dr A::dr B::j4 (jk::jk::.one (.sl 39 0 0 n)::rN i::j16 (j4 (j4 (j4 (jk::jk::jk::rN e::rN i::j4 (jk::jk::rN e::rN q.i::j16 (j16 (j16 (j4 (jk::jk::[]))))))))))),Hm [(39,ij 39 n n (MV e i q.i f))]⟩) (fun q=>e-q.i) ⟨0,by omega⟩ ?_ ?_
  ·refine aj ⟨rfl,trivial⟩ ?_;simp[wk]
  rintro⟨j,K⟩;simp only;by_cases s:j<e
  ·have z:IntKind.i64.wrap ((j:Int)+1)=((j+1:Nat):Int):=by rw[aL (by omega) (by omega)];omega
   have u:=cf (n:=n) (i:=i) 39 n (by omega);have v:=ez (n:=n) n (MV e i j f) (i:=i) (by omega);have w:=aB (f i) s;have x:=aB (MV e i j f i) (show j<n by omega);have cN:=Er (f i j) ((R i j r s).mono (by omega));refine ar (k:=aV rfl (ai (am (bi (k:=eQ [⟨12,_,_,_,cN⟩] (aC u (aC t (aC w (aC v (aC x @js))))) (k:=gL z (k:=?_)))))));refine⟨⟨j+1,by omega⟩,by simp only;omega,aj ⟨?_,trivial⟩ ?_⟩
   ·show _::_=_::_;rw[bO fun p q _ _=>TB s]
   simp[wk]
  have o:j=e:=by omega
  subst o;refine ar (k:=aW rfl (gL y (k:=?_)));refine⟨⟨i+1,by omega⟩,by simp only;omega,aj ⟨?_,trivial⟩ ?_⟩
  ·show _::_=_::_;rw[bO fun p q _ hq=>Xi (n2:=h) (by omega)]
  simp[wk]
 have m:i=e:=by omega
 subst m;refine ar (k:=aW rfl (ai (dR L (k:=?_))));refine ay (G:=fY h) (fun q=>⟨(dr A::dr B::j4 (jk::jk::.one (.sl 39 0 0 n)::j16 (j16 (j16 (j4 (j4 (j4 (jk::rN h::rN q.i::j16 (j16 (jk::[])))))))))),Hm [(39,ij 39 n n (KA i h q.i 0 f g))]⟩) (fun q=>h-q.i) ⟨0,by omega⟩ ?_ ?_
 ·refine aj ⟨?_,trivial⟩ ?_
  ·show _::_=_::_;rw[bO fun p q hp _=>Xh (n2:=h) (g:=g) (by omega)]
  simp[wk]
 generalize i=e at*
 rintro⟨i,Q⟩;simp only;by_cases r:i<h
 ·have y:IntKind.i64.wrap ((i:Int)+1)=((i+1:Nat):Int):=by rw[aL (by omega) (by omega)];omega
  have t:=m2 i r;have M:=aD h (g i);have D:IntKind.i64.wrap ((e:Int)+(i:Int))=((e+i:Nat):Int):=by rw[aL (by omega) (by omega)];omega
  refine ar (k:=aV rfl (ai (am (bi (k:=aH (aC t M) (k:=?_))))));refine ay (G:=fY h) (fun q=>⟨(dr A::dr B::j4 (jk::jk::.one (.sl 39 0 0 n)::jk::jk::rN i::j16 (j16 (j16 (j4 (j4 (jk::jk::rN h::rN i::j4 (jk::jk::rN h::rN q.i::j16 (j4 (j4 (jk::[]))))))))))),Hm [(39,ij 39 n n (KA e h i q.i f g))]⟩) (fun q=>h-q.i) ⟨0,by omega⟩ ?_ ?_
  ·refine aj ⟨rfl,trivial⟩ ?_;simp[wk]
  rintro⟨j,K⟩;simp only;by_cases s:j<h
  ·have z:IntKind.i64.wrap ((j:Int)+1)=((j+1:Nat):Int):=by rw[aL (by omega) (by omega)];omega
   have E:IntKind.i64.wrap ((e:Int)+(j:Int))=((e+j:Nat):Int):=by rw[aL (by omega) (by omega)];omega
   have u:=cf (n:=n) (i:=e+i) 39 n (by omega);have v:=ez (n:=n) n (KA e h i j f g) (i:=e+i) (by omega);have w:=aB (g i) s;have x:=aB (KA e h i j f g (e+i)) (show e+j<n by omega);have cN:=Er (g i j) ((sg i j r s).mono (by omega));refine ar (k:=aV rfl (ai (am (bi (k:=eQ [⟨18,_,_,_,cN⟩] (aC l1 (aC D (aC u (aC E (aC t (aC w (aC v (aC x @js)))))))) (k:=gL z (k:=?_)))))));refine⟨⟨j+1,by omega⟩,by simp only;omega,aj ⟨?_,trivial⟩ ?_⟩
   ·show _::_=_::_;rw[bO fun p q _ _=>TD s]
   simp[wk]
  have o:j=h:=by omega
  subst o;refine ar (k:=aW rfl (gL y (k:=?_)));refine⟨⟨i+1,by omega⟩,by simp only;omega,aj ⟨?_,trivial⟩ ?_⟩
  ·show _::_=_::_;rw[bO fun p q _ hq=>Xk (by omega)]
  simp[wk]
 have m:i=h:=by omega
 subst m;have Y:ij 39 n n (KA e i i 0 f g)=ij 39 n n (xt e i f g):=by
  show _::_=_::_;rw[bO fun p q hp _=>Xj (by omega)]
 rw[Y];generalize xt e i f g=W at*
 refine ar (k:=aW rfl ?_);show bA _ _ _ _;refine bA.weak ((bF 39 (jo (d:=39) (n:=n) (c:=n) (f:=W) rfl)).trans (aj (tm:=(j4 (j4 (dr (mat n n W)::j16 (j16 (j16 (j16 (j16 (j16 ([])))))))))) (l:=[]) trivial (by
  simp[wk]
  (repeat' apply ace)<;>first|rfl|exact(RG (H:=Hm [(39,ij 39 n n W)]) (d:=39) (n:=n) (c:=n) (f:=W) rfl).symm))) ?_
 refine bi (k:=aE @results22)
theorem Np (n:Nat) (f:FF) (b:1<=n) (g:n<=8) (c: ∀i j,i<n->j<n->Sz (f i j) 1024) (r:SymF f n) (q:xz f n) (m: ¬detF n f<=10000):
  CallC prog 24 [dr (mat n n f)] ⟨[],.tup [(false,[.p (.raw (.slice none 0 0))]),(false,[.p (.raw (.slice none 0 0))]),(false,[.p (.raw (.int .i64 7))])]⟩:=by
 obtain⟨e,o,l⟩:=jP n n f b (by omega) b (by omega) c;obtain rfl:e=0:=o.2 ⟨rfl,g,r,q⟩;have h:=A8 n f b (by omega) c;rw[decide_eq_false m]at h;generalize mat n n f=M at*
 refine ax func24 rfl ntmps24 (aA (k:=ai (bj [⟨1,_,_,_,l⟩] (k:=ar (k:=ao rfl (ak (ai (bj [⟨1,_,_,_,h⟩] (k:=az rfl (bi (k:=aE @results24)))))))))))
end
section
section
variable {n1 n2:Nat} {f g:FF}
theorem aaz (c: ∀i j,i<n1->j<n1->(f i j).natAbs<=n) (e: ∀i j,i<n2->j<n2->(g i j).natAbs<=n) (a b:Nat):(xt n1 n2 f g a b).natAbs<=n:=by
 unfold xt;split
 ·exact c a b (by omega) (by omega)
 split
 ·exact e _ _ (by omega) (by omega)
 exact acL _
theorem Xg (e:SymF f n1) (h:SymF g n2):SymF (xt n1 n2 f g) (n1+n2):=fun i l j m=>by
 unfold xt;by_cases b:i<n1/\j<n1
 ·rw[if_pos b,if_pos ⟨b.2,b.1⟩];exact e i b.1 j b.2
 rw[if_neg b,if_neg (show ¬(j<n1/\i<n1) by omega)];by_cases c:(n1<=i/\n1<=j)/\i<n1+n2/\j<n1+n2
 ·rw[if_pos c,if_pos (by omega)];exact h _ (by omega) _ (by omega)
 rw[if_neg c,if_neg (by omega)]
theorem aaA (b:PD f n1) (h:PD g n2):PD (xt n1 n2 f g) (n1+n2):=O0 (Xg b.1 h.1) fun x ⟨i,n,j⟩=>by
 rw[P6];have l:=b.pos x;have m:=h.pos fun i=>x (n1+i)
 by_cases c:i<n1
 ·have:BF n1 f x x≠0:=fun e=>j (l.2.1 e i c)
  omega
 have:BF n2 g (fun i=>x (n1+i)) (fun i=>x (n1+i))≠0:=fun e=>j (by
  have:=m.2.1 e (i-n1) (by omega);rwa[show n1+(i-n1)=i by omega]at this)
 omega
theorem uB (h:PD b n):xz b n:=fun k c=>by
 rw[jj fun t e=>by have:=h.2 t (by omega);omega];exact h.2 k c
end
theorem aaT {M:List (List Int)} (c:Rf M n b) (h:n<=4) (q:m<=5):
  CallC prog 19 [cw M,.raw (.int .i64 (m:Int)),.raw (.int .i64 20000)] ⟨[],.tup [(false,[.p (.sl (ls fI (aN (m+1) (lY b n m))))]),(false,[.p (.raw (.int .i64 0))])]⟩/\
  (∃V,CallC prog 15 [cw M,.raw (.int .i64 20000)] ⟨[],mnT (rz b n) V 0⟩)/\(∀i,0<=lY b n m i/\lY b n m i<=5044)/\0<rz b n/\rz b n<=65536:=by
 have e:=c.n1;have g:gh n b<=dk b 1/\1<=dk b 1:=by
  have:=Mv (f:=b) e 0 (by omega);have:=my c;have t:dk b 1=b 0 0:=by show bk b 0 0 0=b 0 0;exact cH b 0 0
  omega
 have r:=my c;have t1:=Ih (c.vs (B:=gh n b) (by omega) r.2) e h g.1 (by omega);have t2:=Ih (c.vs (B:=(m:Int)) (by omega) (by omega)) e h g.2 (by omega);have l1:=oE (f:=b) (n:=n) (B:=gh n b) (n-1) [];have s:=oE (f:=b) (n:=n) (B:=(m:Int)) (n-1) [];rw[show n-1+1=n by omega]at l1 s;have l:=xP (k:=20000) c (by omega) (by omega) (by omega) (by omega);have j:=tw (k:=20000) c m (by omega) (by omega) (by omega) (by omega);rw[KK]at j;have o:=sK c;refine⟨j,⟨_,l⟩,fun i=>⟨by unfold lY;omega,?_⟩,o.1,by omega⟩;have:lY b n m i<=((dO b n (m:Int) n []).length:Int):=afj.2 (aey _ _);omega
structure SmG (d:Nat) where
 i:Nat
 h:i<=d+1
theorem Om (d1 k1:Nat) (V B1:List Int) (d2 k2:Nat) (W B2:List Int) (q:Nat) (ab:I8 V) (ae:d1<=255) (an:k1<=255) (ac:I8 W) (af:d2<=255) (ap:k2<=255) (hq:q<=255):
  CallC prog 7 [tL d1 k1 V B1,tL d2 k2 W B2,.raw (.int .u8 (q:Int))] ⟨[],.raw (.bool true)⟩:=by
 have cA:=qG;obtain⟨c,e1⟩: ∃n,n=1+d1%2:=⟨_,rfl⟩;obtain⟨l,e2⟩: ∃n,n=1+d2%2:=⟨_,rfl⟩;obtain⟨h1,r1,z⟩:=yx d1 k1 V B1 2 c ab ae an (by omega) (by omega) e1;obtain⟨h2,r2,A⟩:=yx d2 k2 W B2 2 l ac af ap (by omega) (by omega) e2;rw[show((2:Nat):Int)=2 from rfl]at z A;have u:=q9 (by omega) (by omega) r1;have v:=q9 (by omega) (by omega) r2;have m1:1<=c/\c<=2:=by omega
 have m2:1<=l/\l<=2:=by omega
 clear e1 e2 r1 r2;generalize mat c c h1=M1 at*
 generalize mat l l h2=M2 at*
 generalize ent M1=f at*
 generalize ent M2=g at*
 obtain⟨b,K⟩: ∃b,b=q%6:=⟨_,rfl⟩;have D:b<=5:=by omega
 have eb:Int.tmod (q:Int) 6=(b:Int):=by rw[K];exact(aeY q 6).symm
 clear K;have R: ∀i j,i<c->j<c->(f i j).natAbs<=262144:=fun i j o x=>by have:=u.b i j o x;omega
 have U: ∀i j,i<l->j<l->(g i j).natAbs<=262144:=fun i j o x=>by have:=v.b i j o x;omega
 have s1: ∀i j,i<c->j<c->Sz (f i j) 1024:=fun i j o x=>Sz.mono (k:=2) (adn (R i j o x) (by decide)) (by omega)
 have s2: ∀i j,i<l->j<l->Sz (g i j) 1024:=fun i j o x=>Sz.mono (k:=2) (adn (U i j o x) (by decide)) (by omega)
 have B:=Nn c c f (by omega) (by omega) (by omega) (by omega) fun i j o x=>by have:=u.b i j o x;omega
 have C:=Nn l l g (by omega) (by omega) (by omega) (by omega) fun i j o x=>by have:=v.b i j o x;omega
 rw[<- u.e]at B;rw[<- v.e]at C;have cS:=aaj c l f g (by omega) (by omega) (by omega) s1 s2 u.r.pd.1 (uB u.r.pd) v.r.pd.1 (uB v.r.pd);rw[<- u.e,<- v.e]at cS;have H:=aaz R U;have p:=aaA u.r.pd v.r.pd;have sS: ∀i j,i<c+l->j<c+l->Sz (xt c l f g i j) 1024:=fun i j _ _=>Sz.mono (k:=2) (adn (H i j) (by decide)) (by omega)
 by_cases y:detF (c+l) (xt c l f g)<=10000
 case neg=>
  have cR:=Np (c+l) _ (by omega) (by omega) sS p.1 (uB p) y;generalize mat (c+l) (c+l) (xt c l f g)=S at*
  clear p H y sS R U s1 s2 u v;refine ax func7 rfl ntmps7 (jS @tL.eq_1 (k:=ch [⟨1,_,_,_,z⟩,⟨3,_,_,_,A⟩] @tL.eq_1 (k:=bj [⟨1,_,_,_,B⟩,⟨3,_,_,_,C⟩,⟨4,_,_,_,cS⟩] (k:=bj [⟨1,_,_,_,cR⟩] (k:=ai (ar (k:=az rfl (bj [⟨0,_,_,_,cA⟩] (k:=aE @results7)))))))))
 have ok:Fu 4 (2^192) 90 (c+l) (xt c l f g):=⟨⟨p.1,uB p,y⟩,fun i j _ _=>Sz.mono (k:=2) (adn (H i j) (by decide)) (by omega),
  RedI.start_ bd4 (by omega) p.1 (uB p) (fun k hk=>acl (Rp (L:=4) (by decide) H (by omega)) (by decide)) (fun a _=>acl (H a a) (by decide)) fun a b _ _=>DZ a b⟩
 obtain⟨h,T,rr,tt⟩:=ok.ex bd4 (by omega) (by omega);have cR:=No bd4 (c+l) (xt c l f g) h T (by omega) (by omega) ok rr tt;have P:=q9 (n:=c+l) (by omega) (by omega) rr;have F:Qa (c+l) (xt c l f g) (ent (mat (c+l) (c+l) h)):=by
  obtain⟨T',q1,q2⟩:=WP tt;exact⟨T',q1,fun a b ha K=>by rw[q2 a b ha K,L8 h ha K]⟩
 have ad:=fun(m:Nat) (hm:m<=b)=>ZM P u v F hm
 have M:=aaa P u v F;obtain⟨c1,⟨V1,c2⟩,w1,w2,w3⟩:=aaT u (by omega) D;obtain⟨c3,⟨V2,c4⟩,w4,w5,w6⟩:=aaT v (by omega) D;obtain⟨c5,⟨V3,c6⟩,w7,_,_⟩:=aaT P (by omega) D;rw[M]at c6;clear u v P F rr tt ok M p H y sS R U s1 s2;generalize mat (c+l) (c+l) (xt c l f g)=S at*
 generalize ent (mat (c+l) (c+l) h)=f3 at*
 generalize mat (c+l) (c+l) h=M3 at*
 generalize mat (c+l) (c+l) T=T at*
 generalize rz f c=v1 at*
 generalize rz g l=v2 at*
 have a0:=aD (b+1) (lY f c b);have a6:=aD (b+1) (lY g l b);have O:=aD (b+1) (lY f3 (c+l) b);have av:=fun(i:Nat) (o:i<b+1)=>aB (lY f c b) o
 have a5:=fun(i:Nat) (o:i<b+1)=>aB (lY g l b) o
 have a7:=fun(i:Nat) (o:i<b+1)=>aB (lY f3 (c+l) b) o
 generalize lY f c b=s at*
 generalize lY g l b=t at*
 generalize lY f3 (c+l) b=F3 at*
 generalize aN (b+1) s=T1 at*
 generalize aN (b+1) t=T2 at*
 generalize aN (b+1) F3=Q at*
 have aa:IntKind.i64.wrap ((b:Int)+1)=((b+1:Nat):Int):=aL (by omega) (by omega);refine ax func7 rfl ntmps7 (jS @tL.eq_1 (k:=ch [⟨1,_,_,_,z⟩,⟨3,_,_,_,A⟩] @tL.eq_1 (k:=bj [⟨1,_,_,_,B⟩,⟨3,_,_,_,C⟩,⟨4,_,_,_,cS⟩] (k:=bj [⟨1,_,_,_,cR⟩] (k:=ai (ar (k:=ao rfl (ak (aH eb (k:=bj [⟨2,_,_,_,c1⟩] (k:=bj [⟨2,_,_,_,c3⟩] (k:=bj [⟨2,_,_,_,c5⟩] (k:=bj [⟨1,_,_,_,c2⟩] (k:=bj [⟨1,_,_,_,c4⟩] (k:=bj [⟨1,_,_,_,c6⟩] (k:=ai (aH (aC a0 (aC aa (aC a6 O))) (k:=ao rfl (ak (ai (dR O (k:=?_))))))))))))))))))))));refine ay (G:=fY (b+1)) (fun q=>⟨(j4 (j4 (j4 (jk::jk::jk::eF T1::jk::eF T2::jk::eF Q::j16 (j16 (j16 (j16 (j16 (j16 (j16 (j4 (j4 (jk::jk::jk::eF Q::.raw (.int .i64 ((b+1:Nat):Int))::rN q.i::j16 (j4 (j4 (j4 ([]))))))))))))))))),Hm []⟩) (fun q=>b+1-q.i) ⟨0,by omega⟩ ?_ ?_
 ·refine aj trivial ?_;simp[wk]
 rintro⟨d,hd⟩;simp only;by_cases ag:d<b+1
 ·have ed:IntKind.i64.wrap ((d:Int)+1)=((d+1:Nat):Int):=by rw[aL (by omega) (by omega)];omega
  refine ar (k:=aV rfl (ai (am (bi (k:=bi (k:=ai (bi (k:=?_))))))));refine ay (G:=SmG d) (fun q=>⟨(j4 (j4 (j4 (jk::jk::jk::eF T1::jk::eF T2::jk::eF Q::j4 (j4 (jk::jk::rN d::.raw (.int .i64 (bW (fun i=>s i*t (d-i)) q.i))::rN q.i::j16 (j16 (j16 (j16 (j16 (j16 (j4 (j4 (j4 (jk::jk::eF Q::.raw (.int .i64 ((b+1:Nat):Int))::rN d::j16 (j4 (j4 (j4 ([]))))))))))))))))))),Hm []⟩) (fun q=>d+1-q.i) ⟨0,by omega⟩ ?_ ?_
  ·refine aj trivial ?_;simp[wk,bW]
  rintro⟨i,o⟩;simp only;have N: ∀k,k<=6->0<=bW (fun i=>s i*t (d-i)) k/\bW (fun i=>s i*t (d-i)) k<=25441936*(k:Int):=fun k=>by
   induction k with
   |zero=>intro _;exact⟨adT _,adT _⟩
   |succ k ih=>
    intro hk;obtain⟨i1,i2⟩:=ih (by omega);obtain⟨X,Y⟩:=w1 k;obtain⟨I,Z⟩:=w4 (d-k);have p1:=acP X I;have p2:s k*t (d-k)<=5044*5044:=acZ Y Z I (by omega);rw[bW];omega
  by_cases hid:i<=d
  ·have E:((i:Int)<=(d:Int))=True:=eq_true (by omega);have ei:IntKind.i64.wrap ((i:Int)+1)=((i+1:Nat):Int):=by rw[aL (by omega) (by omega)];omega
   have J:IntKind.i64.wrap ((d:Int)-(i:Int))=((d-i:Nat):Int):=by rw[aL (by omega) (by omega)];omega
   have g1:=av i (by omega);have g2:=a5 (d-i) (by omega);have q1:=N i (by omega);have q2:=N (i+1) (by omega);rw[bW]at q2;obtain⟨X,Y⟩:=w1 i;obtain⟨I,Z⟩:=w4 (d-i);have p1:=acP X I;have p2:s i*t (d-i)<=5044*5044:=acZ Y Z I (by omega);have em:IntKind.i64.wrap (s i*t (d-i))=s i*t (d-i):=aL (by omega) (by omega);have ea:IntKind.i64.wrap (bW (fun i=>s i*t (d-i)) i+s i*t (d-i))=bW (fun i=>s i*t (d-i)) (i+1):=by rw[bW];exact aL (by omega) (by omega)
   refine ai (aH E (k:=az rfl (ak (ai (am (pQ (aC g1 (aC J (aC g2 (aC em ea)))) (k:=gL ei (k:=?_))))))));refine⟨⟨i+1,by omega⟩,by simp only;omega,aj trivial ?_⟩;simp[wk]
  have al:i=d+1:=by omega
  subst al;have E:(((d+1:Nat):Int)<=(d:Int))=False:=eq_false (by omega);have g3:=a7 d ag;rw[ad d (by omega)]at g3;generalize bW (fun i=>s i*t (d-i)) (d+1)=w at*
  refine ai (dR E (k:=ao rfl (aX (aH g3 (k:=ao rfl (ak (gL ed (k:=?_))))))));refine⟨⟨d+1,by omega⟩,by simp only;omega,aj trivial ?_⟩;simp[wk]
 have ah:d=b+1:=by omega
 subst ah;refine ar (k:=aW rfl (bj [⟨0,_,_,_,cA⟩] (k:=aE @results7)))
end
section
open Go.ChangeShapes Go.WideShapes Go.ChangeAt Go.RowKit
theorem wH (os:Os) (u:os.Started) (H:Type) (o:TypeId×Value->H):
  ReturnsInHanded {} checked os 7 .any (Rows.shortSumsSpec.pre6 o prog f7 Rows.shortSumsRow.domain false) (Rows.shortSumsSpec.post o prog f7 false true false false):=by
 refine returnsInHanded_of_change_sized (C:=checked) Tryz.ownKnob_ u (by kernel_rfl) func7
  (ae8 (enc:=o) (C:=checked) false ⟨#[],#[.agg #[.int .u8 0,.int .u8 0,.slice none 0 0,.slice none 0 0],.agg #[.int .u8 0,.int .u8 0,.slice none 0 0,.slice none 0 0],.int .u8 0],[]⟩ 8 (by kernel_rfl) (by kernel_rfl) (by kernel_rfl) (by kernel_rfl)) ?_
 intro W A args ds gs K s hW ap w _;have f: ∀(j:Nat) t v,f7.params[j]?=some t->args[j]?=some v->Value.okWide prog W .any A t v:=s;have U:(DataW.weightsEach prog (f7.params.toList++Rows.shortSumsSpec.plain.varTypes prog) (ds++gs)).all (· <=reachBytes)=true:=w;have N:=hW;obtain⟨p,q,D,hV,rfl,a5,a6⟩:=hW;have hA:DataW.TrodAll o prog W 0 (fun _=>true) true f7.params.toList args.toList ds p:=D;rw[params7]at hA f U;obtain⟨v0,bc,d0,av,p0,q0,O,rfl,rfl,h0,r0⟩:=trodAll_cons hA;obtain⟨v1,bh,d1,a0,p1,q1,rfl,rfl,rfl,h1,r1⟩:=trodAll_cons r0;obtain⟨v2,bl,d2,a1,p2,q2,rfl,rfl,rfl,h2,r2⟩:=trodAll_cons r1;obtain⟨rfl,rfl,rfl⟩:=trodAll_nil r2;obtain rfl:args= #[v0,v1,v2]:=by cases args;simp_all
 obtain⟨rfl,rfl⟩:=trodVars_none hV;have k0:=h0;have V: ∀x∈p0,x.block<W.heap.size:=by obtain⟨m,T⟩:=k0;exact afw m _ _ _ T
 obtain⟨a8,a9,F,G,bm,bp,bq,br,n0,rfl,rfl,rfl,Y,Z,aa,ab⟩:=Go.Joins.open_agg4 underlying24 (by kernel_rfl) (by kernel_rfl) (f 0 24 v0 rfl rfl) h0;obtain⟨l,rfl,P⟩:=fp underlying5 Y;obtain⟨b,rfl,R⟩:=fp underlying5 Z;obtain⟨L0,al,L⟩:=fo underlying22 underlying157 (by kernel_rfl) aa;obtain⟨B0,ag,a3⟩:=fo underlying22 underlying157 (by kernel_rfl) ab;have k1:=h1;have X: ∀x∈p1,x.block<W.heap.size:=by obtain⟨m,T⟩:=k1;exact afw m _ _ _ T
 obtain⟨ba,bb,I,J,bt,bw,bx,bR,n1,rfl,rfl,rfl,ac,ad,ae,af⟩:=Go.Joins.open_agg4 underlying24 (by kernel_rfl) (by kernel_rfl) (f 1 24 v1 rfl rfl) h1;obtain⟨n,rfl,Q⟩:=fp underlying5 ac;obtain⟨c,rfl,S⟩:=fp underlying5 ad;obtain⟨L1,an,M⟩:=fo underlying22 underlying157 (by kernel_rfl) ae;obtain⟨B1,ah,a4⟩:=fo underlying22 underlying157 (by kernel_rfl) af;obtain⟨a2,rfl,rfl,rfl,w2⟩:=open_int underlying5 (f 2 5 v2 rfl rfl) h2;clear D s w;obtain⟨z,E⟩: ∃bn:Nat,a2=(bn:Int):=⟨a2.toNat,by have:=mb w2;omega⟩;have a7:=mb w2;subst E;refine((Om l b L0 B0 n c L1 B1 z L P R M Q S (by omega)).law (vs:= #[.agg #[.int .u8 (l:Int),.int .u8 (b:Int),F,G],.agg #[.int .u8 (n:Int),.int .u8 (c:Int),I,J],.int .u8 (z:Int)]) rfl (LI (vs:=[.agg #[.int .u8 (l:Int),.int .u8 (b:Int),F,G],.agg #[.int .u8 (n:Int),.int .u8 (c:Int),I,J],.int .u8 (z:Int)]) rfl (fun j t v g r=>by
  match j,g,r with
  |0,g,r=>simp at g r;subst g;subst r;exact Hl al ag
  |1,g,r=>simp at g r;subst g;subst r;exact Hl an ah
  |2,g,r=>simp at g r;subst g;subst r;exact bS.raw _ rfl
  |j+3,g,r=>simp at g))).mono fun e W' ⟨he,B⟩=>?_
 have y:Below W.heap.size W W':=B;subst he;exact⟨_,rfl,_,_,_,[],_,[],N,trodAll_mk1 (shut_bool underlying4 _),(trodAll_cons_mk (af9 Tryz.laidOut_ (by kernel_rfl) (of_decide_eq_true (by kernel_rfl)) k0 y V) (trodAll_cons_mk (af9 Tryz.laidOut_ (by kernel_rfl) (of_decide_eq_true (by kernel_rfl)) k1 y X) (trodAll_cons_mk (shut_int underlying5 w2) trodAll_mk0))),rfl,y.frame _,fun h=>by cases h⟩
theorem shortSums_holds:Rows.ShortSumsSaid:=
 aeN 7 f7 rfl rfl rfl rfl rfl rfl rfl ⟨rfl,rfl,rfl,rfl,rfl⟩ rfl rfl rfl rfl rfl (by kernel_rfl) func7 xL
  (of_decide_eq_true (by kernel_rfl)) (by unfold Func.isWrapper;first|(rw[if_pos (by decide+kernel)];kernel_rfl)|(rw[if_neg (by decide+kernel)];exact⟨rfl,rfl⟩))
  (fun e b H c _=>wH e b H c)
#print axioms shortSums_holds
end
end Go.Proofs.YtalmoejhjceflaaGreat
