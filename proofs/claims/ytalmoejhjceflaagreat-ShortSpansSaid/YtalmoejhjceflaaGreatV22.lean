/-
  Part 23 of a proof (walks and plain facts).
-/
import Derived.Test.YtalmoejhjceflaaGreatV21
set_option linter.all false
set_option maxRecDepth 100000
set_option maxHeartbeats 64000000
namespace Go.Proofs.YtalmoejhjceflaaGreat
open Go.RowKit
variable {b c e:FF} {n m j:Nat} {f:Nat->Int}
section
variable {n:Nat}
theorem Mz {F:Nat->Int} {p q:Nat} (c:p<n) (e:q<n):smF (fun a=>if a=p then F q else if a=q then F p else F a) n=smF F n:=by
 by_cases h:p=q
 ·grind [au]
 have f:=mt (F:=F) (G:=fun a=>if a=p then F q else F a) c (fun a _ b=>(if_neg b).symm);have g:=mt (F:=fun a=>if a=p then F q else F a) (G:=fun a=>if a=p then F q else if a=q then F p else F a) e (fun a _ b=>by
  omega)
 omega
def jm (n:Nat) (t:FF):Prop:= ∀v:Nat->Int,∃y,∀j,j<n->mV n t y j=v j
theorem jm.of (h:jm n b) (k: ∀x,∃y,∀j,j<n->mV n c y j=mV n b x j):jm n c:=fun v=>by
 obtain⟨x,f⟩:=h v;obtain⟨y,g⟩:=k x;exact⟨y,fun j e=>by grind⟩
theorem jm.one:jm n (fun i j=>if i=j then 1 else 0):=fun v=>⟨v,fun j b=>by
 show smF (fun a=>v a*(if j=a then 1 else 0)) n=v j;grind [gD]⟩
theorem jm.congr (h:jm n b) (e: ∀i j,i<n->j<n->c i j=b i j):jm n c:=h.of fun x=>⟨x,fun j g=>au n fun a f=>by grind⟩
theorem jm.swap (h:jm n b) (f:m<n) (g:j<n):jm n (fun i c=>if c=m then b i j else if c=j then b i m else b i c):=h.of fun x=>
 ⟨fun a=>if a=m then x j else if a=j then x m else x a,fun e _=>by
  unfold mV;rw[<- Mz (F:=fun a=>x a*b e a) f g];grind⟩
theorem jm.addc (h:jm n b) {i:Nat} (g:i<n) (o:m<n) (l:i≠m) (c:Int):jm n (fun a e=>if e=i then b a i+c*b a m else b a e):=h.of fun x=>
 ⟨fun e=>if e=m then x m-c*x i else x e,fun a _=>by
  have p:=mt (F:=fun e=>x e*b a e) (G:=fun e=>if e=m then(x m-c*x i)*b a m else x e*b a e) o (fun e _ f=>(if_neg f).symm);have q:=mt (F:=fun e=>if e=m then(x m-c*x i)*b a m else x e*b a e) (G:=fun e=>(if e=m then x m-c*x i else x e)*(if e=i then b a i+c*b a m else b a e)) g (fun e _ f=>by
   grind)
  show smF (fun e=>(if e=m then x m-c*x i else x e)*(if e=i then b a i+c*b a m else b a e)) n=smF (fun e=>x e*b a e) n;grind⟩
theorem ZS {T:FF} (w:Rch n b c e T):jm n c->jm n T:=by
 induction w with
 |done _ _ _=>exact id
 |step b c e T l s _ x=>
  intro p;refine x ?_;obtain⟨q,o⟩:=iS s;cases l with
  |add i j=>
   have o:i<n:=o;have u:j<i:=q.1;refine(p.addc o (show j<n by omega) (by omega) (cF b i j)).congr fun a g _ r=>?_
   show eJ n c (TC i j (cF b i j)) a g=_;grind [FI]
  |swp m=>
   have v:m+1<n:=o;refine(p.swap (show m<n by omega) v).congr fun a g _ r=>?_
   show eJ n c (SY m) a g=_;grind [FJ,tf]
theorem EZ (h: ∀a g,a<n->g<n->b a g=c a g) (a g:Nat):bY n b e a g=bY n c e a g:=by
 rw[jZ,jZ];exact cf h (fun _ _=>rfl) fun _ _=>rfl
theorem ZQ {f0 T:FF} (v:Rch n b c e T):(∀a g,a<n->g<n->bY n f0 c a g=b a g)-> ∀a g,a<n->g<n->bY n f0 T a g=e a g:=by
 induction v with
 |done _ _ _=>exact id
 |step b c e T l u _ w=>
  intro o;refine w fun a g q r=>?_
  rw[<- zi,EZ o];obtain⟨p,s⟩:=iS u;cases l with
  |add i j=>exact N4 (by have:=p.1;omega) (by have:i<n:=s;have:=p.1;omega) b a g q r
  |swp m=>exact T7 s b a g q r
def fb (n:Nat) (g h:FF):Prop:= ∃T,jm n T/\ ∀a b,a<n->b<n->bY n g T a b=h a b
theorem Gu:jm n idF:=jm.one.congr fun _ _ _ _=>rfl
theorem ab5 (h:FF) {a:Nat} (c:a<n) (f:m<n):bY n h idF a m=h a m:=by
 have e: ∀x y,BF n h x y=smF (fun i=>x i*smF (fun j=>h i j*y j) n) n:=fun _ _=>rfl
 rw[jZ,e,au n (G:=fun i=>h i m*idF i a) (fun i _=>by simp_all[rK,af0])];simp_all[rK]
theorem F8 (g:Rch n b idF c e):fb n b c:=⟨e,ZS g Gu,ZQ g fun _ _ j l=>ab5 b j l⟩
end
section
variable {n:Nat}
theorem O0 (f:FF) (x:Nat->Int):nrm n f (fun i=> - x i)=nrm n f x:=by
 grind [nrm,Yd,Ye]
theorem vF (e:SymF b n) (x y:Nat->Int) (c:Int):nrm n b (fun i=>x i+c*y i)=nrm n b x+2*c*BF n b x y+c*c*nrm n b y:=by
 unfold nrm;rw[y5,y6,y6,S0 e y x];grind
theorem Nw {f:FF} {a:Nat} (c:a<n) (e:m<n):BF n f (eC a) (eC m)=f a m:=by
 grind [eC,gD,BF]
theorem xA (m:fd b n) {i:Nat} (c:i<n) {x:Nat->Int} (l: ∀j,j<i-> -1<=x j/\x j<=1) (g:x i=1) (e: ∀j,i<j->j<n->x j=0):b i i<=nrm n b x:=by
 rcases afL (nrm n b x) (b i i)with h|h
 ·exact absurd (XM c l g e h) (m.2 i c)
 exact h
theorem mF (e:fd b n) (p:m<n): ∀i,i<=m->b i i<=b m m:=fun i o=>by
 obtain⟨c,rfl⟩: ∃c,m=i+c:=⟨m-i,by omega⟩
 induction c with
 |zero=>simp
 |succ c g=>
  have h:=g (by omega) (by omega);have l:=(e.1 (i+c) (by omega)).1;grind
theorem oN (l:SymF b n) (q:fd b n) {i j:Nat} (p:i<j) (g:j<n): -(b i i)<=2*b i j/\2*b i j<=b i i:=by
 have key: ∀c:Int,-1<=c->c<=1->b j j<=b j j+2*c*b j i+c*c*b i i:=fun c m o=>by
  have h:=xA q g (x:=fun r=>eC j r+c*eC i r) (fun r s=>by
   grind [eC]) (by grind [eC]) (fun r s _=>by grind [eC])
  rw[vF l,mX g,mX (by omega),Nw g (by omega)]at h;exact h
 have m:=key 1 (by omega) (by omega);have o:=key (-1) (by omega) (by omega);have e:=l i (by omega) j g;omega
theorem Rj (l:SymF b n) (g:fd b n) {i:Nat} (o:i<n) (c:m<n) (q:i≠m): -(b m m)<=2*b i m/\2*b i m<=b m m:=by
 rcases agT i m with h|h
 ·have p:=oN l g h c;have r:=mF g c i (by omega);omega
 have p:=oN l g (show m<i by omega) o;have e:=l i o m c;omega
def Ya (y:Nat->Int) (k:Nat):Nat->Int:=fun j=>if j<k then(if 0<y j then 1 else if y j<0 then -1 else 0)else 0
theorem acO (y:Nat->Int) (k j:Nat): -1<=Ya y k j/\Ya y k j<=1:=by
 grind [Ya]
def l1 (y:Nat->Int):Nat->Nat
 |0=>0
 |k+1=>l1 y k+(y k).natAbs
theorem OF {y:Nat->Int}: ∀{k},l1 y k=0-> ∀j,j<k->y j=0
 |k+1,h,j,b=>by
  rw[l1]at h;by_cases e:j=k
  ·grind
  exact OF (k:=k) (by omega) j (by omega)
theorem U7 {y:Nat->Int} {K:Nat}: ∀k,k<=K->l1 (fun j=>y j+ -1*Ya y K j) k<=l1 y k/\(l1 y k≠0->l1 (fun j=>y j+ -1*Ya y K j) k<l1 y k)
 |0,_=>by simp[l1]
 |k+1,b=>by
  have c:=U7 (y:=y) (K:=K) k (by omega);grind [Ya,l1]
theorem N6 {f:FF} (u:SymF f n) (s:fd f n) {e:Nat->Int} (q: ∀j,-1<=e j/\e j<=1) {j:Nat} (r:j<n) (b:e j=1\/e j= -1) (w:0<=f j j): ∀m,m<=n->(if j<m then 2*f j j-((m-1:Nat):Int)*f j j else-((m:Nat):Int)*f j j)<=2*(e j*smF (fun i=>e i*f i j) m)
 |0,_=>by simp[smF]
 |m+1,y=>by
  have z:=N6 u s q r b w m (by omega);rw[smF];have t:((m+1:Nat):Int)*f j j=((m:Nat):Int)*f j j+f j j:=by grind
  by_cases h:m=j
  ·grind
  have B:=Rj u s (show m<n by omega) r h;have x:=q m;have A: -(f j j)<=2*(e j*(e m*f m j)):=by
   have c:e m= -1\/e m=0\/e m=1:=by omega
   rcases b with p|p<;>rcases c with g|g|g<;>rw[p,g]<;>omega
  have v:2*(e j*(smF (fun i=>e i*f i j) m+e m*f m j))=2*(e j*smF (fun i=>e i*f i j) m)+2*(e j*(e m*f m j)):=by
   grind
  rw[v];have C: -((m:Nat):Int)*f j j= -(((m:Nat):Int)*f j j):=ahZ _ _;have D: -((m+1:Nat):Int)*f j j= -(((m+1:Nat):Int)*f j j):=ahZ _ _;by_cases l:j<m
  ·rw[if_pos l]at z;rw[if_pos (by omega),Nat.add_sub_cancel];have o:((m:Nat):Int)*f j j=((m-1:Nat):Int)*f j j+f j j:=by
    grind
   omega
  omega
theorem abt {y:Nat->Int} {k:Nat} (c:k<=n) (e: ∀i,k<=i->i<n->f i=0):BF n b f y=smF (fun j=>y j*smF (fun i=>f i*b i j) k) n:=by
 unfold BF;rw[au n (G:=fun i=>smF (fun j=>f i*b i j*y j) n) (fun i _=>by rw[<- aW];grind),eh];refine au n fun j _=>?_
 obtain⟨m,rfl⟩: ∃m,n=k+m:=⟨n-k,by omega⟩;have ext: ∀m,(∀i,k<=i->i<k+m->f i=0)->smF (fun i=>f i*b i j*y j) (k+m)=smF (fun i=>f i*b i j*y j) k:=fun m=>by
  induction m with
  |zero=>intro _;rfl
  |succ m g=>
   grind [smF]
 grind [iT,Int.mul_comm]
theorem LH (p:PD b n) (C:fd b n) {k:Nat} (B:k<n) (H:k<=3): ∀(l:Nat) (y:Nat->Int),l1 y k=l->(∀j,k<=j->j<n->y j=0)->0<=nrm n b y+2*BF n b y (eC k):=fun l=>by
 induction l using Nat.strongRecOn with
 |_ l L=>
  intro y I T;by_cases z:l1 y k=0
  ·have K: ∀j,j<n->y j=0:=fun j m=>by
    rcases agT j k with h|h
    ·exact OF z j h
    grind
   grind [nrm,gM]
  obtain⟨e,E⟩: ∃e,e=Ya y k:=⟨_,rfl⟩;obtain⟨c,A⟩: ∃c:Nat->Int,c=fun j=>y j+ -1*Ya y k j:=⟨_,rfl⟩
  have u: ∀j,-1<=e j/\e j<=1:=fun j=>by simp_all[acO]
  have t: ∀j,k<=j->e j=0:=fun j m=>by simp_all[Ya,if_neg]
  have w: ∀j,k<=j->j<n->c j=0:=fun j m F=>by
   simp_all
  have g: ∀j,j<n->y j=e j+1*c j:=fun j _=>by rw[E,A];grind
  have O:=L (l1 c k) (by rw[<- I,A];exact(U7 k (aeJ k)).2 z) c rfl w
  -- the sign vector
  have P:0<=nrm n b e+2*BF n b e (eC k):=by
   have h:=xA C B (x:=fun r=>e r+1*eC k r) (fun r J=>by
    grind [eC]) (by grind [eC]) (fun r J _=>by
    grind [eC])
   rw[vF p.1,mX B]at h;omega
  -- the inner product
  have Q:0<=BF n b e c:=by
   rw[abt (k:=k) (by omega) (fun i h _=>t i h)];refine jG n fun j m=>?_
   rcases agT j k with o|o
   ·by_cases K:c j=0
    ·grind
    have R:=p.diag m;have v:(e j=1/\0<c j)\/(e j= -1/\c j<0):=by
     grind [Ya]
    have s:=N6 p.1 C u m (by omega) (by omega) k (by omega);rw[if_pos o]at s;have G:((k-1:Nat):Int)*b j j<=2*b j j:=aeY (by omega) (by omega);generalize smF (fun i=>e i*b i j) k=S at*
    rcases v with⟨q,D⟩|⟨q,D⟩
    ·rw[q]at s;exact aeQ (by omega) (by omega)
    rw[q]at s;exact ae9 (by omega) (by omega)
   grind
  have M:nrm n b y=nrm n b e+2*BF n b e c+nrm n b c:=by
   rw[jL g,vF p.1];omega
  have N:BF n b y (eC k)=BF n b e (eC k)+BF n b c (eC k):=by
   rw[cf (x':=fun j=>e j+1*c j) (fun _ _ _ _=>rfl) g (fun _ _=>rfl),y5];omega
  omega
end
section
variable {n:Nat}
theorem I2 (l:PD b n) (o:fd b n) {k:Nat} (g:k<n) (c:k<=3) {x:Nat->Int} (q:x k=1) (p: ∀j,k<j->j<n->x j=0):b k k<=nrm n b x:=by
 have h:=LH l o g c _ (fun j=>if j<k then x j else 0) rfl (fun j m _=>if_neg (by omega));have e: ∀j,j<n->x j=(fun j=>if j<k then x j else 0) j+1*eC k j:=fun j m=>by
  grind [eC]
 rw[jL e,vF l.1,mX g];omega
theorem Zt (f:FF) (m:Int) (x:Nat->Int):nrm n f (fun i=>m*x i)=m*m*nrm n f x:=by
 unfold nrm BF;rw[<- aW];refine au n fun i _=>?_
 rw[au n (G:=fun j=>m*(f i j*x j)) (fun j _=>by grind),aW];grind
theorem DK {f:FF} (p:PD f n) (A:fd f n) {k:Nat} (z:k<n) (o:k<=3) {m:Int} (b:0<m): ∀j,j<=k-> ∀u:Nat->Int,u k=m->(∀i,k<i->i<n->u i=0)->(∀i,j<=i->i<k->m∣u i)->
  m*m*(4*f k k-smF (fun i=>f i i) j)<=4*nrm n f u
 |0,_,u,D,C,H=>by
  have e: ∀i,i<n->u i=m*(if k<i then 0 else u i/m):=fun i w=>by
   grind [Int.ediv_self,Int.mul_ediv_cancel']
  have E:=I2 p A z o (x:=fun i=>if k<i then 0 else u i/m) (by
   grind [Int.ediv_self]) (fun j y _=>if_pos y)
  rw[jL e,Zt];have v:=aeO E (aeQ (afA b) (afA b));grind [smF]
 |j+1,y,u,D,C,H=>by
  have l:j<n:=by omega
  obtain⟨r,L⟩: ∃r,r=u j%m:=⟨_,rfl⟩;have M:0<=r:=by rw[L];exact aho _ (by omega)
  have Y:r<m:=by simp_all[ag1]
  have g:m∣u j+ -r:=by
   have:u j+ -r=m*(u j/m):=by have:=Int.mul_ediv_add_emod (u j) m;omega
   simp_all
  have sub: ∀c:Int,m∣u j+c->m*m*(4*f k k-smF (fun i=>f i i) j)<=4*nrm n f (fun i=>u i+c*eC j i):=fun c V=>by
   refine DK p A z o b j (by omega) _ ?_ (fun i w J=>?_) (fun i w I=>?_)
   ·grind [eC]
   ·grind [eC]
   grind [eC]
  have s:=sub (-r) g;have t:=sub (m-r) (by
   obtain⟨q,X⟩:=g;exact⟨q+1,by grind⟩)
  rw[vF p.1,mX l]at s t;have G:=p.diag l;rw[smF];generalize smF (fun i=>f i i) j=S at*
  generalize BF n f u (eC j)=B at*
  generalize nrm n f u=U at*
  generalize f j j=W at*
  generalize f k k=K at*
  -- (m - r) s + r t
  have N:=aeO s (show 0<=m-r by omega);have O:=aeO t M;have P:(m-r)*(4*(U+2* -r*B+ -r* -r*W))+r*(4*(U+2*(m-r)*B+(m-r)*(m-r)*W))=m*(4*U+4*(r*(m-r))*W):=by grind
  have Q:(m-r)*(m*m*(4*K-S))+r*(m*m*(4*K-S))=m*(m*m*(4*K-S)):=by grind
  have v:m*(m*m*(4*K-S))<=m*(4*U+4*(r*(m-r))*W):=by omega
  have R:=afe v b;have F:4*(r*(m-r))<=m*m:=by
   have:0<=(m-2*r)*(m-2*r):=by
    rcases afF 0 (m-2*r)with h|h
    ·exact aeQ h h
    exact ae9 h h
   grind
  have T:=aeY F (afA G);grind
theorem oO (g:PD b n) (h:fd b n) (w:n<=4) {k:Nat} (e:k<n) (l:f k≠0) (c: ∀j,k<j->j<n->f j=0):b k k<=nrm n b f:=by
 have pos: ∀f:Nat->Int,0<f k->(∀j,k<j->j<n->f j=0)->b k k<=nrm n b f:=fun f l c=>by
  have s:=g.diag e;by_cases o:f k=1
  ·exact I2 g h e (by omega) o c
  have t:=DK g h e (by omega) (m:=f k) l k (aeJ k) f rfl c (fun i p q=>by omega);have y:smF (fun i=>b i i) k<=3*b k k:=by
   have: ∀j,j<=k->smF (fun i=>b i i) j<=(j:Int)*b k k:=fun j=>by
    induction j with
    |zero=>grind [smF]
    |succ j z=>
     grind [mF,smF]
   have p:=this k (aeJ k);have q:(k:Int)*b k k<=3*b k k:=aeY (by omega) (by omega);omega
  have u:f k*f k*b k k<=f k*f k*(4*b k k-smF (fun i=>b i i) k):=aeO (by omega) (aeQ (by omega) (by omega));have r:2*2<=f k*f k:=ae0 (by omega) (by omega) (by omega) (by omega);have v:=aeY r (afA s);omega
 grind [O0]
end
section
variable {n:Nat}
theorem zm: ∀(i:Nat) (X:FF),∃c:Nat->Int,(∃a,a<=i/\c a≠0)/\ ∀r,r<i->smF (fun a=>c a*X a r) (i+1)=0
 |0,_=>⟨fun _=>1,⟨0,by omega,by simp⟩,fun r f=>by omega⟩
 |i+1,X=>by
  by_cases D: ∀a,a<=i+1->X a i=0
  ·obtain⟨c,⟨a,j,A⟩,h⟩:=zm i X;refine⟨fun a=>if a=i+1 then 0 else c a,⟨a,by omega,by grind⟩,fun r f=>?_⟩;show smF (fun a=>(if a=i+1 then 0 else c a)*X a r) (i+1+1)=0;rw[smF,if_pos rfl,ag2,aid];by_cases e:r=i
   ·subst e;rw[au (r+1) (G:=fun _=>0) (fun a j=>by grind),b7]
   rw[au (i+1) (G:=fun a=>c a*X a r) (fun a j=>by grind)];exact h r (by omega)
  obtain⟨p,B,u⟩: ∃p,p<=i+1/\X p i≠0:=by
   grind
  obtain⟨Y,z⟩: ∃Y:Nat->Nat->Int,Y=fun a=>if a=p then X (i+1)else if a=i+1 then X p else X a:=⟨_,rfl⟩
  have g:Y (i+1)=X p:=by
   grind
  obtain⟨q,C⟩: ∃q,q=X p i:=⟨_,rfl⟩;obtain⟨c,⟨l,o,t⟩,h⟩:=zm i (fun a r=>q*Y a r-Y a i*X p r);obtain⟨s,v⟩: ∃s,s=smF (fun a=>c a*Y a i) (i+1):=⟨_,rfl⟩;have b: ∀r,r<i+1->smF (fun a=>(if a=i+1 then -s else q*c a)*Y a r) (i+1+1)=0:=fun r f=>by
   rw[smF,if_pos rfl,g,au (i+1) (G:=fun a=>q*(c a*Y a r)) (fun a j=>by grind),aW];by_cases e:r=i
   ·grind
   have x:=h r (by omega);have y:smF (fun a=>c a*(q*Y a r-Y a i*X p r)) (i+1)=q*smF (fun a=>c a*Y a r) (i+1)-X p r*s:=by
    rw[v,<- aW,<- aW];have: ∀(F G:Nat->Int) m,smF (fun a=>F a-G a) m=smF F m-smF G m:=fun F G m=>by
     induction m with
     |zero=>rfl
     |succ m E=>grind [smF]
    rw[<- this];exact au _ fun a _=>by grind
   grind
  refine⟨fun a=>if a=p then -s else if a=i+1 then(if p=i+1 then -s else q*c p)else q*c a,?_,fun r f=>?_⟩
  ·by_cases e:l=p
   ·by_cases w:p=i+1
    ·omega
    refine⟨i+1,by omega,?_⟩;grind [Int.mul_ne_zero]
   grind [Int.mul_ne_zero]
  rw[<- b r f,<- Mz (F:=fun a=>(if a=i+1 then -s else q*c a)*Y a r) (p:=p) (q:=i+1) (by omega) (by omega)];grind
def Yn (n:Nat) (t:FF):Prop:= ∃s:(Nat->Int)->Nat->Int,∀v j,j<n->mV n t (s v) j=v j
theorem LU (h t:FF) (x:Nat->Int):nrm n h (mV n t x)=nrm n (bY n h t) x:=mJ h t x x
theorem xp (f:PD (bY n b c) n) {x:Nat->Int} (g: ∀i,i<n->smF (fun j=>c i j*x j) n=0): ∀j,j<n->x j=0:=by
 refine(f.pos x).2.1 ?_;rw[<- mJ];refine gM fun i e=>?_
 rw[<- g i e];exact au n fun a _=>af0 _ _
theorem IZ (H:n<=4) (D:PD (bY n b c) n) (z:fd (bY n b c) n) (Z:fd (bY n b e) n) (J:Yn n c) (K:PD (bY n b e) n) {i:Nat} (U:i<n):bY n b c i i<=bY n b e i i:=by
 obtain⟨s,Y⟩:=J;rcases afL (bY n b e i i) (bY n b c i i)with F|v
 ·exfalso;obtain⟨X,R⟩: ∃X:Nat->Nat->Int,X=fun a=>s (fun r=>e r a):=⟨_,rfl⟩
  have o: ∀a j,j<n->mV n c (X a) j=e j a:=fun a j q=>by grind
  have Q: ∀a,nrm n (bY n b c) (X a)=bY n b e a a:=fun a=>by
   rw[<- LU,jL (o a),jZ];rfl
  have l: ∀a,a<=i-> ∀m k,m+k+1=n->i<=k->X a k=0:=fun a B m=>by
   induction m using Nat.strongRecOn with
   |_ m L=>
    intro k V p;refine afJ fun w=>?_
    have O:=oO D z H (show k<n by omega) w (fun j q E=>L (n-j-1) (by omega) j (by omega) (by omega));have P:=mF z (show k<n by omega) i p;grind [mF]
  obtain⟨g,⟨a,B,T⟩,N⟩:=zm i X;have y:=xp K (x:=fun a=>if a<=i then g a else 0) (fun r I=>by
   have A: ∀m,i+1<=m->smF (fun j=>e r j*(if j<=i then g j else 0)) m=smF (fun j=>e r j*g j) (i+1):=fun m W=>by
    obtain⟨d,rfl⟩: ∃d,m=i+1+d:=⟨m-(i+1),by omega⟩
    induction d with
    |zero=>grind [au]
    |succ d M=>grind [smF]
   rw[A n (by omega),au (i+1) (G:=fun j=>smF (fun f=>g j*X j f*c r f) n) (fun j q=>by
    rw[<- o j r I];unfold mV;rw[af0,<- aW];grind),eh,au n (G:=fun _=>0) (fun f S=>by
    rw[au (i+1) (G:=fun j=>(g j*X j f)*c r f) (fun _ _=>rfl),iT];by_cases C:f<i
    ·grind
    rw[au (i+1) (G:=fun _=>0) (fun j q=>by rw[l j (by omega) (n-f-1) f (by omega) (by omega),af1]),b7,ag2]),b7]) a (by omega)
  omega
 exact v
theorem xz (g:n<=4) (m:PD (bY n b c) n) (o:PD (bY n b e) n) (j:fd (bY n b c) n) (l:fd (bY n b e) n) (p:Yn n c) (q:Yn n e) {i:Nat} (f:i<n):bY n b c i i=bY n b e i i:=by
 have r:=IZ g m j l p o f;have s:=IZ g o l j q m f;omega
end
section
variable {n:Nat}
theorem TO (R:FF) {k:Nat} (i:Nat) (h:n<k):bk R k i n=0:=by
 obtain⟨f,e,_⟩:=QI h;unfold bk;rw[e];have g:=uY k;rw[e,afg,ae6]at g;exact y9 (k:=k+1) (fun l c d m b=>EM l k (om R k) (FS R k) c d m b) n (jc n) f [] (by simp;omega)
def nn (p k a:Nat):Nat:=if a=p then k else if a=k then p else a
theorem aaM (p k a:Nat):nn p k (nn p k a)=a:=by grind [nn]
theorem qk {k a:Nat} (e:m<n) (c:k<n) (b:a<n):nn m k a<n:=by grind [nn]
theorem Nt {k a:Nat} (c:k<=n) (b:a<k):nn n k a=a:=by grind [nn]
theorem XU {k a:Nat} (c:k<=n) (b:k<=a):k<=nn n k a:=by grind [nn]
def exQ (p c k:Nat) (f:FF):Nat->Nat->Int:=fun i j=>f (nn p k i) (nn c k j)
theorem abW (f:FF) {k:Nat} (q:k<=n) (o:k<=m) (i j:Nat):bk (exQ n m k f) k i j=bk f k (nn n k i) (nn m k j):=by
 have b:om (exQ n m k f) k=om (fun i j=>f i (nn m k j)) k:=rz fun t s=>by grind [exQ,Nt]
 have e:om (fun i j=>f i (nn m k j)) k=fun l=>om f k (l.map (nn m k)):=funext fun l=>ue (R:=f) (nn m k) k l
 have g:(jc k).map (nn m k)=jc k:=by
  have:(jc k).map (nn m k)=(jc k).map id:=ae1 fun a h=>Nt o (iK h)
  simp_all
 unfold bk;rw[b,e];have:=sj (r:=f (nn n k i)) (nn m k) (j::jc k) (om f k);rw[aeX,g]at this;exact this
theorem Uo (f:FF) {k:Nat} (l:k<=n) (e:k<=m) (o:j<=k):dk (exQ n m k f) j=dk f j:=cy fun i b g h=>by
 grind [exQ,Nt]
def NF (n:Nat) (W:FF) (r:Nat):Prop:= ∃R C:Nat->Nat,(∀t,t<r->R t<n/\C t<n)/\
 (∀a:Nat->Int,(∀t,t<r->smF (fun s=>W (R t) (C s)*a s) r=0)-> ∀s,s<r->a s=0)/\
 ∀u:Nat->Int,(∀t,t<r->smF (fun j=>W (R t) j*u j) n=0)-> ∀i,i<n->smF (fun j=>W i j*u j) n=0
theorem aae {F:Nat->Int} {k:Nat} (c:m<n) (b:k<n):smF (fun j=>F (nn m k j)) n=smF F n:=by
 rw[<- Mz (F:=F) c b];grind [nn]
theorem NF.exQ {p c k:Nat} (o:p<n) (l:c<n) (e:k<n) (h:NF n (exQ p c k b) m):NF n b m:=by
 obtain⟨R,C,g,q,s⟩:=h;refine⟨fun t=>nn p k (R t),fun t=>nn c k (C t),fun t f=>⟨qk o e (g t f).1,qk l e (g t f).2⟩,q,fun u w i v=>?_⟩;have key: ∀i,smF (fun j=>Go.Proofs.YtalmoejhjceflaaGreat.exQ p c k b i j*u (nn c k j)) n=smF (fun j=>b (nn p k i) j*u j) n:=fun i=>aae (F:=fun j=>b (nn p k i) j*u j) l e
 have:=s (fun j=>u (nn c k j)) (fun t f=>by rw[key];grind) (nn p k i) (qk o e v);rw[key,aaM]at this;exact this
theorem NF.done {k:Nat} (v:k<=n) (q: ∀t,t<k->dk b (t+1)≠0) (x: ∀i j,k<=i->i<n->k<=j->j<n->bk b k i j=0):NF n b k:=by
 have c: ∀t,t<=k->dk b t≠0:=fun t o=>by
  cases t with
  |zero=>rw[b8];omega
  |succ t=>grind
 refine⟨id,id,fun t o=>⟨by grind,by grind⟩,fun a h=>A3 (c k (aeJ k)) h,fun u p i r=>?_⟩;by_cases l:i<k
 ·grind
 have key: ∀m,m<=k-> ∀i,smF (fun j=>bk b m i j*u j) n=dk b m*smF (fun j=>b i j*u j) n:=fun m=>by
  induction m with
  |zero=>grind [b8,de]
  |succ m f=>
   intro w i;have f:=f (by omega);apply af4 (c m (by omega));have e:dk b m*smF (fun j=>bk b (m+1) i j*u j) n=dk b (m+1)*smF (fun j=>bk b m i j*u j) n+(- bk b m i m)*smF (fun j=>bk b m m j*u j) n:=by
    rw[<- aW,<- aW,<- aW,<- iw];grind [sylv]
   rw[e,f i,f m,show smF (fun j=>b m j*u j) n=0 from p m (by omega)];grind
 have g:=key k (aeJ k) i;rw[au n (G:=fun _=>0) (fun j s=>by
  grind [TO]),b7]at g
 grind [Int.mul_eq_zero]
/-! The computation. -/
def pvC (r:Nat->Int):Nat->Nat->Option Nat
 |0,_=>none
 |m+1,j=>if r j=0 then pvC r m (j+1)else some j
def pvQ (n:Nat) (b:FF) (k:Nat):Nat->Nat->Option (Nat×Nat)
 |0,_=>none
 |m+1,i=>match pvC (b i) (n-k) k with
  |some j=>some (i,j)
  |none=>pvQ n b k m (i+1)
theorem vP {r:Nat->Int}: ∀m j c,pvC r m j=some c->j<=c/\c<j+m/\r c≠0
 |0,_,_,h=>by cases h
 |m+1,j,c,h=>by
  rw[pvC]at h;split at h
  ·have:=vP m (j+1) c h;omega
  grind
theorem BH {r:Nat->Int}: ∀m j,pvC r m j=none-> ∀c,j<=c->c<j+m->r c=0
 |0,_,_=>fun c b f=>by omega
 |m+1,j,h=>by
  rw[pvC]at h;split at h
  ·rename_i g;intro c b f;by_cases e:c=j
   ·grind
   exact BH m (j+1) h c (by omega) (by omega)
  cases h
theorem vQ {b:FF} {k:Nat}: ∀m i p c,pvQ n b k m i=some (p,c)->i<=p/\p<i+m/\k<=c/\c<k+(n-k)/\b p c≠0
 |0,_,_,_,h=>by cases h
 |m+1,i,p,c,h=>by
  rw[pvQ]at h;split at h
  ·rename_i j q;injection h with h
   injection h with l o
   subst l;subst o;obtain⟨e,f,g⟩:=vP _ _ _ q;omega
  obtain⟨e,f,g⟩:=vQ m (i+1) p c h;omega
theorem Ji {b:FF} {k:Nat}: ∀m i,pvQ n b k m i=none-> ∀p c,i<=p->p<i+m->k<=c->c<k+(n-k)->b p c=0
 |0,_,_=>fun p c f g=>by omega
 |m+1,i,h=>by
  rw[pvQ]at h;split at h
  ·cases h
  rename_i o;intro p c f g j l;by_cases e:p=i
  ·grind [BH]
  exact Ji m (i+1) h p c (by omega) (by omega) j l
def rkQ (n:Nat):Nat->Nat->(Nat->Nat->Int)->Int->Nat
 |0,k,_,_=>k
 |m+1,k,b,last=>match pvQ n b k (n-k) k with
  |none=>k
  |some (p,c)=>rkQ n m (k+1) (LW k last (exQ p c k b)) (exQ p c k b k k)
theorem Jq: ∀m k (W b:FF),n-k=m->k<=n->(∀t,t<k->dk W (t+1)≠0)->(∀i j,k<=i->i<n->k<=j->j<n->b i j=bk W k i j)->NF n W (rkQ n m k b (dk W k))
 |0,k,W,b,A,z,x,_=>by
  show NF n W k;grind [NF.done]
 |m+1,k,W,b,A,z,x,w=>by
  have y:dk W k≠0:=by
   cases k with
   |zero=>rw[b8];omega
   |succ k=>grind
  rw[rkQ];split
  ·grind [NF.done,Ji]
  rename_i p c r;obtain⟨h,E,l,F,v⟩:=vQ _ _ _ _ r;refine NF.exQ (p:=p) (c:=c) (k:=k) (by omega) (by omega) (by omega) ?_;have o: ∀i j,k<=i->i<n->k<=j->j<n->Go.Proofs.YtalmoejhjceflaaGreat.exQ p c k b i j=bk (Go.Proofs.YtalmoejhjceflaaGreat.exQ p c k W) k i j:=fun i j s f u g=>by
   rw[abW W h l];exact w _ _ (XU h s) (qk (by omega) (by omega) f) (XU l u) (qk (by omega) (by omega) g)
  have q:Go.Proofs.YtalmoejhjceflaaGreat.exQ p c k b k k=dk (Go.Proofs.YtalmoejhjceflaaGreat.exQ p c k W) (k+1):=by rw[o k k (aeJ _) (by omega) (aeJ _) (by omega),cB]
  have B:Go.Proofs.YtalmoejhjceflaaGreat.exQ p c k b k k≠0:=by
   have:Go.Proofs.YtalmoejhjceflaaGreat.exQ p c k b k k=b p c:=by unfold Go.Proofs.YtalmoejhjceflaaGreat.exQ nn;grind
   rw[this];exact v
  have e: ∀t,t<k+1->dk (Go.Proofs.YtalmoejhjceflaaGreat.exQ p c k W) (t+1)≠0:=fun t D=>by
   grind [Uo]
  rw[q];refine Jq m (k+1) _ _ (by omega) (by omega) e fun i j s f u g=>?_
  have C:=sylv (Go.Proofs.YtalmoejhjceflaaGreat.exQ p c k W) k (fun t D=>e t (by omega)) i j;rw[Uo W h l (aeJ k)]at C;show(if k<i/\k<j then _ else _)=_;grind [Int.mul_ediv_cancel_left]
def rkF (n:Nat) (W:FF):Nat:=rkQ n n 0 W 1
theorem gK (n:Nat) (W:FF):NF n W (rkF n W):=
 Jq n 0 W W rfl (by omega) (fun t b=>by omega) fun i j _ _ _ _=>(de W i j).symm
/-! Gram matrices of lists of vectors. -/
def kp (m:Nat) (X:FF):Nat->Nat->Int:=fun i j=>smF (fun a=>X a i*X a j) m
def IndV (n m:Nat) (X:FF):Prop:= ∀c:Nat->Int,(∀i,i<n->smF (fun a=>c a*X a i) m=0)-> ∀a,a<m->c a=0
def dt (n:Nat) (x y:Nat->Int):Int:=smF (fun j=>x j*y j) n
theorem ado (m:Nat) (X:FF) (u:Nat->Int) (i:Nat):smF (fun j=>kp m X i j*u j) n=smF (fun a=>X a i*dt n (X a) u) m:=by
 unfold kp dt;rw[au n (G:=fun j=>smF (fun a=>X a i*(X a j*u j)) m) (fun j _=>by grind [iT]),eh];grind [aW]
theorem abm (x:Int):0<=x*x:=by
 rcases afF 0 x with h|h
 ·exact aeQ h h
 exact ae9 h h
theorem MG {F:Nat->Int}: ∀m,0<=smF (fun a=>F a*F a) m/\(smF (fun a=>F a*F a) m=0-> ∀a,a<m->F a=0)
 |0=>⟨by simp[smF],fun _ a f=>by omega⟩
 |m+1=>by
  obtain⟨b,c⟩:=MG (F:=F) m;have e:=abm (F m);grind [smF,Int.mul_eq_zero]
theorem AH (h:n<m) (E:FF): ∃c:Nat->Int,(∃a,a<m/\c a≠0)/\ ∀t,t<n->smF (fun a=>E t a*c a) m=0:=by
 obtain⟨c,⟨a,e,f⟩,j⟩:=zm n (fun a t=>E t a);refine⟨fun a=>if a<=n then c a else 0,⟨a,by omega,by grind⟩,fun t g=>?_⟩;have b: ∀d,smF (fun a=>E t a*(if a<=n then c a else 0)) (n+1+d)=smF (fun a=>c a*E t a) (n+1):=fun d=>by
  induction d with
  |zero=>grind [au]
  |succ d l=>
   grind [smF]
 have:=b (m-(n+1));grind
theorem YU (m:Nat) (X:FF) (c:Nat->Int) (y:Nat->Int):dt n y (fun j=>smF (fun a=>c a*X a j) m)=smF (fun a=>c a*dt n y (X a)) m:=by
 unfold dt;rw[au n (G:=fun j=>smF (fun a=>c a*(y j*X a j)) m) (fun j _=>by grind [aW]),eh];grind [aW]
theorem BV {r:Nat} {Y:FF} (x:NF n (kp m b) r) (y: ∀f,f<j-> ∃a,a<m/\ ∀i,i<n->Y f i=b a i) (w:IndV n j Y):j<=r:=by
 obtain⟨R,C,H,_,p⟩:=x;refine af2 fun B=>?_
 obtain⟨c,⟨a,h,A⟩,E⟩:=AH B (fun t a=>smF (fun g=>kp m b (R t) g*Y a g) n);obtain⟨u,o⟩: ∃u:Nat->Int,u=fun g=>smF (fun a=>c a*Y a g) j:=⟨_,rfl⟩
 have I:=p u (fun t D=>by
  rw[<- E t D,o];rw[au n (G:=fun g=>smF (fun a=>c a*(kp m b (R t) g*Y a g)) j) (fun g _=>by rw[<- aW];grind),eh];grind [aW,Int.mul_comm])
 have q:smF (fun a=>dt n (b a) u*dt n (b a) u) m=0:=by
  have e:smF (fun i=>u i*smF (fun g=>kp m b i g*u g) n) n=0:=by
   rw[au n (G:=fun _=>0) (fun i l=>by grind),b7]
  rw[<- e,au n (F:=fun i=>u i*smF (fun g=>kp m b i g*u g) n) (G:=fun i=>smF (fun a=>dt n (b a) u*(b a i*u i)) m) (fun i _=>by rw[ado,<- aW];grind),eh];exact au m fun a _=>by rw[aW];rfl
 have J:=(MG m).2 q;have v:smF (fun g=>u g*u g) n=0:=by
  have:=YU j Y c u (n:=n);rw[<- o,au j (G:=fun _=>0) (fun f z=>by
   obtain⟨a,h,e⟩:=y f z;have e:dt n u (Y f)=dt n (b a) u:=au n fun g K=>by grind
   grind),b7]at this
  exact this
 exact A (w c (fun i l=>by have:=(MG n).2 v i l;grind) a h)
theorem Mj (f:NF n (kp m b) j) (e:IndV n m b):m<=j:=BV f (fun c g=>⟨c,g,fun _ _=>rfl⟩) e
def Hng (n m s:Nat) (X Y:FF):Prop:= ∀a,a<m-> ∃(q:Int) (c:Nat->Int),q≠0/\ ∀i,i<n->q*X a i=smF (fun b=>c b*Y b i) s
theorem sK {m s:Nat} {X Y:FF} (o:NF n (kp m X) j) (l:Hng n m s X Y):j<=s:=by
 obtain⟨R,C,g,h,_⟩:=o;refine af2 fun y=>?_
 obtain⟨c,⟨t0,f,w⟩,A⟩:=AH y (fun b t=>Y b (C t));refine w (h c (fun t D=>?_) t0 f);have p: ∀a,a<m->smF (fun u=>X a (C u)*c u) j=0:=fun a e=>by
  obtain⟨q,d,B,x⟩:=l a e;have:q*smF (fun u=>X a (C u)*c u) j=0:=by
   rw[<- aW,au j (G:=fun u=>smF (fun b=>d b*(Y b (C u)*c u)) s) (fun u z=>by rw[<- ahb,x _ (g u z).2,<- iT];grind),eh,
    au s (G:=fun _=>0) (fun b v=>by rw[aW,A b v,af1]),b7]
  grind [Int.mul_eq_zero]
 unfold kp;rw[au j (G:=fun u=>smF (fun a=>X a (R t)*(X a (C u)*c u)) m) (fun u _=>by grind [iT]),eh,
  au m (G:=fun _=>0) (fun a e=>by rw[aW,p a e,af1]),b7]
def xL (L:List (List Int)) (a i:Nat):Int:=(L.getD a []).getD i 0
theorem Wf (n:Nat): ∀m k (b:FF) (last:Int),rkQ n m k b last<=k+m
 |0,k,_,_=>aeJ k
 |m+1,k,b,last=>by
  rw[rkQ];split
  ·omega
  exact aeN (Wf n m (k+1) _ _) (by omega)
theorem Mi (n:Nat) (W:FF):rkF n W<=n:=by
 have:=Wf n n 0 W 1;rwa[afm]at this
structure PvJ (n k:Nat) (r:Nat->Int) (C:Option Nat) where
 j:Nat
 hk:k<=j
 hj:j<=n
 e:pvC r (n-j) j=C
end
section
variable {n:Nat}
theorem jm.rinv (h:jm n b):Yn n b:=⟨fun v=>Classical.choose (h v),fun v=>agN (h v)⟩
theorem jm.comb (h:jm n b) {i:Nat} (r:i<n) (q:f i=1):jm n (eR b i (mV n b f)):=h.of fun x=>
 ⟨fun a=>if a=i then x i else x a-x i*f a,fun j _=>by
  have o:=mt (F:=fun a=>(x a-x i*f a)*b j a) (G:=fun a=>(if a=i then x i else x a-x i*f a)*eR b i (mV n b f) j a) r (fun a _ e=>by
   show _=(if a=i then x i else x a-x i*f a)*eR b i (mV n b f) j a;unfold eR;rw[if_neg e,if_neg e])
  have p:smF (fun a=>(x a-x i*f a)*b j a) n=smF (fun a=>x a*b j a) n-x i*smF (fun a=>f a*b j a) n:=by
   rw[<- aW];have: ∀(F G:Nat->Int) m,smF (fun a=>F a-G a) m=smF F m-smF G m:=fun F G m=>by
    induction m with
    |zero=>rfl
    |succ m s=>rw[smF,smF,smF,s];omega
   rw[<- this];exact au _ fun a _=>by grind
  have g:(if i=i then x i else x i-x i*f i)*eR b i (mV n b f) j i=x i*smF (fun a=>f a*b j a) n:=by
   unfold eR mV;rw[if_pos rfl,if_pos rfl]
  show smF (fun a=>(if a=i then x i else x a-x i*f a)*eR b i (mV n b f) j a) n=smF (fun a=>x a*b j a) n;rw[o,p,g,q];have l:(x i-x i*1)*b j i=0:=by rw[ait,aiT,ag2]
  rw[l];omega⟩
theorem jm.sign (h:jm n b) {s:Nat->Int} (f: ∀a,s a=1\/s a= -1):jm n (fun i c=>s c*b i c):=h.of fun x=>
 ⟨fun a=>s a*x a,fun j _=>au n fun a _=>by
  show s a*x a*(s a*b j a)=x a*b j a;rcases f a with e|e<;>rw[e]<;>grind⟩
/-! The program's loop. -/
theorem IG (N:(Nat->Int)->Int): ∀j B,j<n->jm n (trF B)->jm n (trF (sZ N B j))
 |0,_,_,h=>h
 |j+1,B,b,h=>by
  rw[sZ];split
  ·refine IG N j _ (by omega) ?_;rw[MP];exact h.swap b (by omega)
  exact h
theorem Cu (N:(Nat->Int)->Int) {B:FF} (h:jm n (trF B)): ∀i,i<=n->jm n (trF (Cs N B i))
 |0,_=>h
 |i+1,b=>IG N i _ (by omega) (Cu N h i (by omega))
theorem BO (j:yM n b c e) (f:jm n (trF c)):jm n (trF e):=by
 induction j with
 |done c g=>exact Cu _ f n (aeJ n)
 |step c e i g _ l=>
  obtain⟨_,m,o,_⟩:=o9 n 0 i g;refine l ?_;rw[MO];exact jm.comb (Cu _ f n (aeJ n)) (by omega) (Mw n _ i (3^i)).1
theorem Gl {g:FF} (h:jm n (trF b)):jm n (trF (Ms g b)):=h.sign (s:=xT g) (v8 g)
/-! The reference's loop. -/
end
section
variable {n:Nat}
def vL (l:List (Int×List Int)) (a:Nat):Nat->Int:=fun i=>((l.getD a (0,[])).2).getD i 0
def kL (l:List (Int×List Int)) (a:Nat):Int:=(l.getD a (0,[])).1
theorem vh {b:Type} (l:List b) (x d:b) {a:Nat}:(a<l.length->(l++[x]).getD a d=l.getD a d)/\(l++[x]).getD l.length d=x:=by
 grind
theorem x7 (l:List (Int×List Int)) (x:Int×List Int) {a:Nat} (h:a<l.length):vL (l++[x]) a=vL l a:=by grind [vL]
theorem U4 (l:List (Int×List Int)) (x:Int×List Int) {a:Nat} (h:a<l.length):kL (l++[x]) a=kL l a:=by grind [kL]
theorem wJ (l:List (Int×List Int)) (x:Int×List Int):vL (l++[x]) l.length=fun i=>x.2.getD i 0:=by grind [vL]
theorem Zb (l:List (Int×List Int)) (x:Int×List Int):kL (l++[x]) l.length=x.1:=by grind [kL]
theorem jf {l:List (Int×List Int)} {a:Nat} (h:a<l.length): ∃x∈l,kL l a=x.1/\vL l a=fun i=>x.2.getD i 0:=by
 refine⟨l[a],List.getElem_mem h,?_,?_⟩
 ·grind [kL]
 grind [vL]
theorem rZ {a:Nat} (c:a<n) (F:Nat->Int):1*F a=smF (fun b=>(if b=a then 1 else 0)*F b) n:=by
 grind [gD]
theorem kY (e:n<=m) (c F:Nat->Int):smF (fun b=>(if b<n then c b else 0)*F b) m=smF (fun b=>c b*F b) n:=by
 obtain⟨d,rfl⟩: ∃d,m=n+d:=⟨m-n,by omega⟩
 induction d with
 |zero=>grind [au]
 |succ d f=>grind [smF]
theorem IndV.congr {Y:FF} (h:IndV n m b) (e: ∀a,a<m->Y a=b a):IndV n m Y:=fun c f=>h c fun i g=>by
 grind [au]
theorem Fl (h:IndV n m b) (p: ¬IndV n (m+1) b): ∃(q:Int) (c:Nat->Int),q≠0/\ ∀i,i<n->q*b m i=smF (fun e=>c e*b e i) m:=by
 obtain⟨c,j⟩:=aiq.1 p;obtain⟨s,g⟩:=Classical.not_imp.1 j;obtain⟨a,f⟩:=aiq.1 g;obtain⟨f,l⟩:=Classical.not_imp.1 f;have key: ∀i,i<n->c m*b m i=smF (fun e=> -c e*b e i) m:=fun i o=>by
  grind [smF,aW]
 refine⟨c m,fun e=> -c e,fun r=>?_,key⟩;have t: ∀e,e<m->c e=0:=h c fun i o=>by
  grind [smF]
 grind
def grS (n:Nat):List (Int×List Int)->List (Int×List Int)->List (Int×List Int)
 |[],b=>b
 |x::r,b=>if b.length<rkF n (kp (b.length+1) (vL (b++[x])))then grS n r (b++[x])else grS n r b
structure GrI (n:Nat) (pre ch:List (Int×List Int)):Prop where
 ind:IndV n ch.length (vL ch)
 asc:ch.Pairwise fun a b=>a.1<=b.1
 sub: ∀x∈ch,x∈pre
 hng: ∀x∈pre,∃s,s<=ch.length/\(∀b,b<s->kL ch b<=x.1)/\ ∃(q:Int) (c:Nat->Int),q≠0/\ ∀i,i<n->q*x.2.getD i 0=smF (fun b=>c b*vL ch b i) s
theorem se: ∀(j pre f:List (Int×List Int)),(pre++j).Pairwise (fun a b=>a.1<=b.1)->GrI n pre f->GrI n (pre++j) (grS n j f)
 |[],pre,f,_,h=>by rw[afz];exact h
 |x::r,pre,f,B,h=>by
  have e:pre++x::r=(pre++[x])++r:=by simp
  have w: ∀y∈pre,y.1<=x.1:=fun y g=>(aiv.1 B).2.2 y g x afM
  have u:IndV n f.length (vL (f++[x])):=h.ind.congr fun a C=>x7 f x C
  have D: ∀b,b<f.length->kL f b<=x.1:=fun b o=>by
   obtain⟨y,g,E,_⟩:=jf o;rw[E];exact w y (h.sub y g)
  rw[grS];split
  ·rename_i z;rw[e]at B⊢;refine se r (pre++[x]) (f++[x]) B ⟨?_,?_,?_,?_⟩
   ·rw[afg];refine afJ fun p=>?_
    obtain⟨q,c,A,v⟩:=Fl u p;have:=sK (s:=f.length) (gK n _) (Y:=vL (f++[x])) (m:=f.length+1) (X:=vL (f++[x])) (fun a C=>by
     by_cases e:a=f.length
     ·rw[e];exact⟨q,c,A,v⟩
     exact⟨1,fun b=>if b=a then 1 else 0,by decide,fun i _=>rZ (by omega) fun b=>vL (f++[x]) b i⟩)
    omega
   ·refine aiv.2 ⟨h.asc,List.pairwise_singleton _ _,fun a C b o=>?_⟩;rw[aeK.1 o];exact w a (h.sub a C)
   ·intro y g;rcases afD.1 g with l|l
    ·exact ahD _ (h.sub y l)
    grind
   intro y g;rcases afD.1 g with l|l
   ·obtain⟨s,F,G,q,c,A,v⟩:=h.hng y l;refine⟨s,by grind,fun b o=>by grind [U4],q,c,A,fun i t=>?_⟩;rw[v i t];exact au s fun b o=>by rw[x7 f x (by omega)]
   rw[aeK.1 l];refine⟨f.length+1,by simp,fun b o=>?_,1,fun b=>if b=f.length then 1 else 0,by decide,fun i t=>?_⟩
   ·grind [Zb,U4]
   have:=rZ (show f.length<f.length+1 by omega) fun b=>vL (f++[x]) b i
   grind [wJ]
  rename_i z;rw[e]at B⊢;refine se r (pre++[x]) f B ⟨h.ind,h.asc,fun y g=>ahD _ (h.sub y g),fun y g=>?_⟩;rcases afD.1 g with l|l
  ·exact h.hng y l
  rw[aeK.1 l];have p: ¬IndV n (f.length+1) (vL (f++[x])):=fun t=>z (aeT (ahA _) (Mj (gK n _) t))
  obtain⟨q,c,A,v⟩:=Fl u p;refine⟨f.length,aeJ _,D,q,c,A,fun i t=>?_⟩;have:=v i t;rw[wJ]at this;rw[this];exact au _ fun b o=>by rw[x7 f x o]
theorem xo {h t:FF} (B:n<=4) (F:PD (bY n h t) n) (o:fd (bY n h t) n) (C:jm n t) {i m:Nat} (M:i<n) {X:FF} (p:IndV n m X)
  (L: ∀a,a<m->nrm n h (X a)<bY n h t i i):m<=i:=by
 refine af2 fun A=>?_
 obtain⟨s,O⟩:=C.rinv;obtain⟨y,P⟩: ∃y:Nat->Nat->Int,y=fun a=>s (X a):=⟨_,rfl⟩
 have D: ∀a j,j<n->mV n t (y a) j=X a j:=fun a j v=>by grind
 have K: ∀a,nrm n (bY n h t) (y a)=nrm n h (X a):=fun a=>by rw[<- LU];grind [jL]
 have e: ∀a,a<m-> ∀d k,d+k+1=n->i<=k->y a k=0:=fun a l d=>by
  induction d using Nat.strongRecOn with
  |_ d E=>
   intro k x f;refine afJ fun g=>?_
   have I:=oO F o B (show k<n by omega) g (fun j v w=>E (n-j-1) (by omega) j (by omega) (by omega));have J:=mF o (show k<n by omega) i f;grind
 obtain⟨c,⟨a,l,u⟩,H⟩:=AH A (fun k a=>y a k);refine u (p c (fun r N=>?_) a l);rw[au m (G:=fun a=>smF (fun k=>t r k*(y a k*c a)) n) (fun b _=>by
  grind [mV,aW,au]),eh,au n (G:=fun _=>0) (fun k x=>by
  rw[aW];by_cases z:k<i
  ·grind
  rw[au m (G:=fun _=>0) (fun b q=>by rw[e b q (n-k-1) k (by omega) (by omega),ag2]),b7,af1]),b7]
theorem Q3:IndV n n eC:=fun c e a b=>by
 grind [gD,eC]
theorem lI {B:Int} (Z:n<=4) (N:PD (bY n b c) n) (V:fd (bY n b c) n) (ht:jm n c) {o:List (Int×List Int)} (hs:o.Pairwise fun a f=>a.1<=f.1) (X: ∀x∈o,x.1=nrm n b fun i=>x.2.getD i 0) (D: ∀z:Nat->Int,(∃i,i<n/\z i≠0)->nrm n b z<=B-> ∃x∈o,∃e:Int,(e=1\/e= -1)/\ ∀i,i<n->x.2.getD i 0=e*z i) (hB: ∀j,j<n->b j j<=B):
  (grS n o []).map Prod.fst=(List.range n).map fun i=>bY n b c i i:=by
 have A:=se (n:=n) o [] [] hs ⟨(fun g E a m=>by simp at m),List.Pairwise.nil,(fun x w=>by cases w),fun x w=>by cases w⟩;rw[afQ]at A;generalize grS n o []=l at*
 have ae: ∀a,a<l.length->kL l a=nrm n b (vL l a):=fun a m=>by
  obtain⟨x,w,u,L⟩:=jf m;rw[u,L];exact X x (A.sub x w)
 have R: ∀a f,a<=f->f<l.length->kL l a<=kL l f:=fun a f ab M=>by
  by_cases e:a=f
  ·grind
  have:=agP.1 A.asc a f (by omega) M (by omega);grind [kL]
 -- no more than n vectors
 have hL:l.length<=n:=af2 fun F=>by
  obtain⟨g,⟨a,m,E⟩,W⟩:=AH F (fun i a=>vL l a i);exact E (A.ind g (fun i C=>by grind) a m)
 -- each one is at least as K as ag basis vector
 have lo: ∀i,i<l.length->bY n b c i i<=kL l i:=fun i C=>afR fun F=>by
  have hI:IndV n (i+1) (vL l):=fun g E a m=>by
   have:=A.ind (fun f=>if f<i+1 then g f else 0) (fun j O=>by
    rw[kY (by omega) g fun f=>vL l f j];grind) a (by omega)
   omega
  have:=xo Z N V ht (show i<n by omega) hI (fun a m=>by
   grind)
  omega
 have dB: ∀i,i<n->bY n b c i i<=B:=fun i C=>afR fun F=>by
  have:=xo Z N V ht C (Q3 (n:=n)) (fun a m=>by
   grind [mX])
  omega
 -- and at aa as K
 have C: ∀i,i<n->i<l.length/\kL l i<=bY n b c i i:=fun i C=>by
  refine afJ fun y=>?_
  have y: ∀s,s<=l.length->(∀f,f<s->kL l f<=bY n b c i i)->s<=i:=fun s H I=>af2 fun F=>y ⟨by omega,I i F⟩
  have v: ∀a,a<i+1-> ∃(q:Int) (g:Nat->Int),q≠0/\ ∀j,j<n->q*c j a=smF (fun f=>g f*vL l f j) i:=fun a m=>by
   have S:nrm n b (fun j=>c j a)=bY n b c a a:=(jZ n b c a a).symm;have T: ∃j,j<n/\c j a≠0:=afJ fun hz=>by
    have u:=N.diag (show a<n by omega);grind [nrm,gM]
   have ac:=mF V C a (by omega);obtain⟨x,w,e,he,J⟩:=D (fun j=>c j a) T (by grind);obtain⟨s,H,I,q,g,hq,E⟩:=A.hng x w;have af:x.1=bY n b c a a:=by
    rw[X x w,<- S];have e1:nrm n b (fun i=>x.2.getD i 0)=nrm n b (fun j=>e*c j a):=jL J;rw[e1];rcases he with rfl|rfl
    ·simp
    grind [O0]
   have U:=y s H (fun f M=>by grind);refine⟨q*e,fun f=>if f<s then g f else 0,agF hq (by omega),fun j O=>?_⟩;have u:=E j O;rw[J j O]at u;rw[ahb,u];exact(kY U g fun f=>vL l f j).symm
  -- i + 1 columns of c v on i vectors
  obtain⟨Q,hQ⟩: ∃Q:Nat->Int×(Nat->Int),∀a,a<i+1->(Q a).1≠0/\ ∀j,j<n->(Q a).1*c j a=smF (fun f=>(Q a).2 f*vL l f j) i:=by
   refine Classical.axiomOfChoice (r:=fun a (p:Int×(Nat->Int))=>a<i+1->p.1≠0/\ ∀j,j<n->p.1*c j a=smF (fun f=>p.2 f*vL l f j) i) fun a=>?_
   by_cases m:a<i+1
   ·obtain⟨q,g,u,L⟩:=v a m;exact⟨(q,g),fun _=>⟨u,L⟩⟩
   exact⟨(0,fun _=>0),fun b=>absurd b m⟩
  obtain⟨g,⟨a,m,ad⟩,W⟩:=AH (show i<i+1 by omega) (fun f a=>(Q a).2 f);have Y:=xp N (x:=fun a=>if a<i+1 then g a*(Q a).1 else 0) (fun r hr=>by
   rw[au n (G:=fun a=>(if a<i+1 then g a*(Q a).1 else 0)*c r a) (fun a _=>af0 _ _),kY (by omega) (fun a=>g a*(Q a).1) (fun a=>c r a),
    au (i+1) (G:=fun a=>smF (fun f=>vL l f r*((Q a).2 f*g a)) i) (fun a m=>by rw[ahb,(hQ a m).2 r hr,<- aW];exact au i fun f _=>by grind),eh,
    au i (G:=fun _=>0) (fun f M=>by rw[aW,W f M,af1]),b7]) a (by omega)
  grind [Int.mul_eq_zero]
 have P:l.length=n:=by
  grind
 refine List.ext_getElem (by simp[P]) fun i u L=>?_
 grind [kL]
theorem Ns (l:List (Int×List Int)):xL (l.map Prod.snd)=vL l:=by
 grind [xL,vL]
end
end Go.Proofs.YtalmoejhjceflaaGreat
