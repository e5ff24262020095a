/-
  Part 22 of a proof (walks and plain facts).
-/
import Derived.Test.YtalmoejhjceflaaGreatV20
set_option linter.all false
set_option maxRecDepth 100000
set_option maxHeartbeats 64000000
namespace Go.Proofs.YtalmoejhjceflaaGreat
open Go.RowKit Go.Proofs.Tryz
variable {b c:FF} {n:Nat} {e:Nat->Int} {x:Int}
section
def PD (f:FF) (n:Nat):Prop:=SymF f n/\ ∀k,k<n->0<dk f (k+1)
theorem RedR.pd (h:RedR b n):PD b n:=⟨h.1,h.2.1⟩
theorem PD.det (h:PD b n):0<dk b n:=by
 cases n with
 |zero=>rw[b8];omega
 |succ n=>exact h.2 n (by omega)
variable {n:Nat}
theorem gM {y:Nat->Int} (c: ∀i,i<n->e i=0):BF n b e y=0:=by
 simp_all[BF,au,b7]
theorem PD.pos (c:PD b n) (x:Nat->Int):0<=BF n b x x/\(BF n b x x=0↔ ∀i,i<n->x i=0):=by
 have h:=jQ c.1 c.2 x n 0 rfl;grind [BF,de,gM]
/-! The column of cofactors. -/
def eC (i:Nat):Nat->Int:=fun r=>if r=i then 1 else 0
def pz (f:FF) (n j:Nat):Nat->Int:=fun i=>dk (eR f j (eC i)) n
theorem acR (S:Nat->Int) (m r:Nat):smF (fun i=>S i*eC i r) m=if r<m then S r else 0:=by
 induction m with
 |zero=>simp[smF]
 |succ m b=>
  grind [smF,eC]
theorem yp {f:FF} {j:Nat} (b:j<n) (S:Nat->Int): ∀m,dk (eR f j (fun r=>smF (fun i=>S i*eC i r) m)) n=smF (fun i=>S i*pz f n j i) m
 |0=>Oj b fun i _=>rfl
 |m+1=>by
  have h:=xf (R:=f) b 1 (S m) (fun r=>smF (fun i=>S i*eC i r) m) (eC m);rw[yp b S m]at h;have e:(fun r=>smF (fun i=>S i*eC i r) (m+1))=fun r=>1*smF (fun i=>S i*eC i r) m+S m*eC m r:=by
   grind [smF]
  rw[e,h,smF,ag0];rfl
theorem YT {j:Nat} (e:j<n) (S:Nat->Int):dk (eR b j S) n=smF (fun i=>S i*pz b n j i) n:=by
 rw[<- yp e S n];refine cy fun r c g _=>?_
 unfold eR;split
 ·show S r=smF (fun i=>S i*eC i r) n;simp_all[acR]
 rfl
theorem NQ {j k:Nat} (c:j<n) (e:k<n):smF (fun i=>b i k*pz b n j i) n=if k=j then dk b n else 0:=by
 rw[<- YT c fun i=>b i k];grind [rY,AI]
theorem abs (h:SymF b n) {j:Nat} (e:j<n) (x:Nat->Int):BF n b x (pz b n j)=x j*dk b n:=by
 unfold BF;rw[au n (G:=fun i=>x i*(if i=j then dk b n else 0)) (fun i c=>by
  rw[<- NQ e c]
  congr 1
  exact au n fun l g=>by rw[h i c l g])]
 grind [gD]
def X4 (f:FF) (j m:Nat):Nat->Nat->Int:=fun i l=>if l=j then eC j i else if i=j/\l<m then 0 else f i l
theorem Ue {f:FF} {j:Nat} (c:j<n): ∀m,m<=n->dk (X4 f j m) n=pz f n j j
 |0,_=>by
  unfold pz
  congr 1
  grind [X4,eR]
 |m+1,g=>by
  rw[<- Ue c m (by omega)];by_cases h:m=j
  ·congr 1
   grind [X4]
  have e:=kG (R:=X4 f j m) (n:=n) (a:=m) (b:=j) (by omega) c h (-(X4 f j m j m));rw[<- e]
  congr 1
  grind [eR,X4,eC]
theorem Hy (f:FF) (k:Nat):pz f (k+1) k k=dk f k:=by
 rw[<- Ue (by omega) (k+1) (aeJ _),cB,bk,eH,nF (jc k) _ (fun c b=>by
  have:=iK b;grind [X4])]
 have e:om (X4 f k (k+1)) k (jc k)=dk f k:=vG fun i g c b=>by
  have:=iK b;grind [X4]
 grind [X4,eC]
theorem RH (l:SymF b n) (r: ∀x:Nat->Int,(∃i,i<n/\x i≠0)->0<BF n b x x):PD b n:=by
 refine⟨l,fun k q=>?_⟩;have u: ∀k,k<=n->0<dk b k:=fun k=>by
  induction k with
  |zero=>grind [b8]
  |succ k s=>
   intro q;have o:=s (by omega);have c:SymF b (k+1):=fun i v j w=>l i (by omega) j (by omega)
   have g:=abs (n:=k+1) c (j:=k) (by omega) (pz b (k+1) k);rw[Hy]at g;have p:=r (fun i=>if i<k+1 then pz b (k+1) k i else 0) ⟨k,by omega,by grind [Hy]⟩;have e:BF n b (fun i=>if i<k+1 then pz b (k+1) k i else 0) (fun i=>if i<k+1 then pz b (k+1) k i else 0)=BF (k+1) b (pz b (k+1) k) (pz b (k+1) k):=by
    have ext: ∀(F:Nat->Int) (m:Nat),smF (fun i=>if i<k+1 then F i else 0) (k+1+m)=smF F (k+1):=fun F m=>by
     induction m with
     |zero=>grind [au]
     |succ m t=>grind [smF]
    obtain⟨m,rfl⟩: ∃m,n=k+1+m:=⟨n-(k+1),by omega⟩;unfold BF;rw[<- ext (fun i=>pz b (k+1) k i*smF (fun j=>b i j*pz b (k+1) k j) (k+1)) m];refine au _ fun i _=>?_
    grind
   rw[e,g]at p;rcases afL 0 (dk b (k+1))with h|h
   ·exact h
   have:=agK (afA o) h;omega
 grind
theorem A3 (p:dk b n≠0) (h: ∀i,i<n->smF (fun j=>b i j*e j) n=0): ∀j,j<n->e j=0:=fun j c=>by
 have g:smF (fun i=>smF (fun l=>b i l*e l) n*pz b n j i) n=0:=by
  simp_all[au,b7]
 have m:smF (fun i=>smF (fun l=>b i l*e l) n*pz b n j i) n=smF (fun l=>smF (fun i=>b i l*e l*pz b n j i) n) n:=by
  simp_all[eh,iT]
 have o:smF (fun l=>smF (fun i=>b i l*e l*pz b n j i) n) n=smF (fun l=>e l*(if l=j then dk b n else 0)) n:=
  au n fun l f=>by
   rw[<- NQ c f,<- aW];grind
 grind [gD,Int.mul_eq_zero]
/-! Bounds. -/
end
def dg (b j:Nat):Int:=((b/3^j%3:Nat):Int)-1
theorem aa3 (b j:Nat): -1<=dg b j/\dg b j<=1:=by
 grind [dg]
def K1 (i b:Nat):Nat->Int:=fun j=>if j<i then dg b j else if j=i then 1 else 0
def nrm (n:Nat) (f:FF) (x:Nat->Int):Int:=BF n f x x
theorem jL {y:Nat->Int} (h: ∀i,i<n->e i=y i):nrm n b e=nrm n b y:=cf (fun _ _ _ _=>rfl) h h
theorem mX {f:FF} {i:Nat} (b:i<n):nrm n f (eC i)=f i i:=by
 grind [eC,gD,nrm,BF]
def JE (n:Nat) (f:FF) (i:Nat):Nat->Nat->Int
 |0=>eC i
 |k+1=>if nrm n f (K1 i k)<nrm n f (JE n f i k)then K1 i k else JE n f i k
theorem Wv {n:Nat} {f:FF} {i:Nat} (b:i<n): ∀k,nrm n f (JE n f i k)<=f i i/\ ∀c,c<k->nrm n f (JE n f i k)<=nrm n f (K1 i c)
 |0=>⟨by grind [JE,mX],fun c h=>by omega⟩
 |k+1=>by
  obtain⟨e,g⟩:=Wv (f:=f) b k;grind [JE]
def wR (n:Nat) (f:FF) (i:Nat):Prop:= ∃c,c<3^i/\nrm n f (K1 i c)<f i i
theorem Ww {i:Nat} (g:i<n) (h:wR n b i):nrm n b (JE n b i (3^i))<b i i:=by
 obtain⟨c,e,j⟩:=h;have:=(Wv (f:=b) g (3^i)).2 c e;omega
theorem Pr (n:Nat) (f:FF) (i:Nat): ∀k,JE n f i k=eC i\/ ∃c,c<k/\JE n f i k=K1 i c
 |0=> .inl rfl
 |k+1=>by
  rw[JE];split
  ·grind
  rcases Pr n f i k with h|⟨c,b,h⟩
  ·exact .inl h
  grind
theorem Mw (n:Nat) (f:FF) (i k:Nat):JE n f i k i=1/\(∀j,i<j->JE n f i k j=0)/\ ∀j,-1<=JE n f i k j/\JE n f i k j<=1:=by
 rcases Pr n f i k with h|⟨c,_,h⟩<;>rw[h]
 ·grind [eC]
 refine⟨by simp[K1],fun j b=>by grind [K1],fun j=>?_⟩;unfold K1;split
 ·exact aa3 c j
 omega
def fd (f:FF) (n:Nat):Prop:=(∀i,i+1<n->f i i<=f (i+1) (i+1)/\0<=f i (i+1))/\ ∀i,i<n-> ¬wR n f i
theorem N5 {d:Nat->Int} (h: ∀j,-1<=d j/\d j<=1): ∀i,∃c,c<3^i/\ ∀j,j<i->dg c j=d j
 |0=>⟨0,by simp,fun j f=>by omega⟩
 |i+1=>by
  obtain⟨c,g,b⟩:=N5 h i;have l:=h i;refine⟨c+3^i*(d i+1).toNat,?_,fun j f=>?_⟩
  ·have:(d i+1).toNat<=2:=by omega
   have:=ae7 (3^i) this;omega
  by_cases e:j=i
  ·grind [dg,Nat.add_mul_div_left,Nat.div_eq_of_lt]
  rw[<- b j (by omega)];unfold dg
  congr 2
  obtain⟨m,n⟩: ∃m,i=j+1+m:=⟨i-(j+1),by omega⟩;simp_all[af8,agj,Nat.add_mul_div_left,agB]
theorem XM {i:Nat} (o:i<n) {x:Nat->Int} (l: ∀j,j<i-> -1<=x j/\x j<=1) (h:x i=1) (g: ∀j,i<j->j<n->x j=0) (p:nrm n b x<b i i):wR n b i:=by
 obtain⟨c,e,m⟩:=N5 (d:=fun j=>if j<i then x j else 0) (fun j=>by
  grind) i
 refine⟨c,e,?_⟩;grind [jL,K1]
def Z2 (s:Nat->Int) (f:FF):Nat->Nat->Int:=fun i j=>s i*s j*f i j
theorem Zu (x:Nat->Int):nrm n (Z2 e b) x=nrm n b (fun i=>e i*x i):=by
 unfold nrm BF Z2;refine au n fun i _=>?_
 rw[<- aW,<- aW];grind
theorem aaJ (r: ∀i,e i=1\/e i= -1) {i:Nat} (p:i<n) (h:wR n (Z2 e b) i):wR n b i:=by
 obtain⟨c,t,m⟩:=h;rw[Zu]at m;have o:Z2 e b i i=b i i:=by grind [Z2]
 rw[o]at m;have l: ∀y:Nat->Int,nrm n b (fun j=>e i*y j)=nrm n b y:=fun y=>by
  rcases r i with g|g
  ·simp_all
  unfold nrm BF;refine au n fun k _=>?_
  simp only[g];rw[<- aW,<- aW];grind
 rw[<- l]at m;refine XM p (x:=fun j=>e i*(e j*K1 i c j)) (fun j q=>?_) ?_ (fun j q _=>?_) m
 ·have:=aa3 c j;grind [K1]
 ·grind [K1]
 grind [K1]
theorem KT {P:Program} {f:FuncId} {args:List TV} {r:TV} (x:callable P f=true) (h: ∀(X:Nat->Prop) (w:World) (vs:Array Value),(∀b,X b->b<w.heap.size)->vs.size=args.length->
  (∀(j:Nat) t,args[j]?=some t-> ∃v:Value,vs[j]?=some v/\t.rel (fun _ _=>none) (fun _=>[]) X w v)->Calls P f vs w fun e l=> ∃v,e= .returned v/\(∀z H Y,(∀b,Y b->b<w.heap.size)->r.rel z H Y l v)/\fm w l):CallC P f args ⟨[],r⟩:=
 ⟨x,fun X w vs m g u=>(h X w vs m g u).mono fun e l ⟨v,p,q,s⟩=>⟨v,p,fun _ _=>none,OC s m,q _ _ _ (fun b n=>by
  rcases n with n|⟨a,r,o,c,A,y⟩
  ·grind
  cases y)⟩⟩
section
theorem acM (a b:List (List Int)):CallC prog 17 [bV a,bV b] ⟨[],.raw (.bool (decide (a=b)))⟩:=by
 refine oB (by kernel_rfl) fun X w vs u n g=>?_
 obtain⟨y,q,o⟩:=HJ g (j:=0) rfl;obtain⟨z,r,p⟩:=HJ g (j:=1) rfl;obtain⟨A,c,rfl,v,m,h⟩:=Pe o;obtain⟨B,d,rfl,x,f,l⟩:=Pe p;obtain rfl:vs= #[.slice A a.length c,.slice B b.length d]:=by
  grind
 refine(Wk A B c d a b w h l m f).mono fun e C ⟨s,t⟩=>?_
 grind [Wd]
section
variable {n:Nat} {f:FF}
theorem Q7 (m:1<=n) (l:n<=4) (h:RedR f n):CallC prog 85 [bV (mat n n f)] ⟨[],.raw (.bool true)⟩:=by
 have u:=iZ m l h;have w:=h.1;have e:=aS n n f;clear h;refine aB func85 rfl ntmps85 (aE (k:=d9 e (k:=aj (ax (k:=aq rfl (al (aj (d9 e (k:=?_)))))))));refine ay (G:=fp n) (fun g=>⟨(bV (mat n n f)::jk::jk::rN n::j4 (j4 (j4 (jk::jk::bV (mat n n f)::rN n::rN g.i::j16 (j16 (j4 (j4 (jk::[])))))))),Hm []⟩) (fun g=>n-g.i) ⟨0,by omega⟩ ?_ ?_
 ·refine ak trivial ?_;simp[wk]
 rintro⟨i,A⟩;simp only;by_cases j:i<n
 ·have h:=bA n f j;have q:IntKind.i64.wrap ((i:Int)+1)=((i+1:Nat):Int):=by rw[aH (by omega) (by omega)];omega
  refine ax (k:=aP rfl (aj (ao (aF h (k:=aF @az (k:=aq rfl (al (df q (k:=?_)))))))));refine⟨⟨i+1,by omega⟩,by grind,ak trivial ?_⟩;simp[wk]
 obtain rfl:i=n:=by omega
 refine ax (k:=aQ rfl (aj (d9 e (k:=?_))));refine ay (G:=fp i) (fun g=>⟨(bV (mat i i f)::j16 (j4 (j4 (j4 (bV (mat i i f)::rN i::rN g.i::j16 (j4 (j4 (j4 (jk::jk::[]))))))))),Hm []⟩) (fun g=>i-g.i) ⟨0,by omega⟩ ?_ ?_
 ·refine ak trivial ?_;simp[wk]
 rintro⟨a,z⟩;simp only;by_cases j:a<i
 ·have h:=bA i f j;have o:IntKind.i64.wrap ((a:Int)+1)=((a+1:Nat):Int):=by rw[aH (by omega) (by omega)];omega
  refine ax (k:=aP rfl (aj (ao (aF h (k:=d9 @az (k:=?_))))));refine ay (G:=fp i) (fun g=>⟨(bV (mat i i f)::j4 (jk::rN a::j16 (j4 (jk::jk::bV (mat i i f)::rN i::rN a::j4 (d7 (aA i (f a))::rN i::rN g.i::j16 (j4 (jk::jk::jk::[]))))))),Hm []⟩) (fun g=>i-g.i) ⟨0,by omega⟩ ?_ ?_
  ·refine ak trivial ?_;simp[wk]
  rintro⟨b,v⟩;simp only;by_cases c:b<i
  ·have r:=aw (f a) c;have s:=bA i f c;have t:=aw (f b) j;have l:=w b c a j;obtain⟨x,y⟩:=u a j b c;have p:IntKind.i64.wrap ((b:Int)+1)=((b+1:Nat):Int):=by rw[aH (by omega) (by omega)];omega
   refine ax (k:=aP rfl (aj (ao (aF r (k:=aF (aG s (aG t l)) (k:=aq rfl (al (df p (k:=?_)))))))));refine⟨⟨b+1,by omega⟩,by grind,ak trivial ?_⟩;simp[wk]
  obtain rfl:b=i:=by omega
  refine ax (k:=aQ rfl (df o (k:=?_)));refine⟨⟨a+1,by omega⟩,by grind,ak trivial ?_⟩;simp[wk]
 obtain rfl:a=i:=by omega
 refine ax (k:=aQ rfl (aZ (k:=aI @results85)))
theorem Q6 {m:Nat} (B:2<=m) (C:m<=8) (z:0<b 0 0) (A:b 0 0<65536) (s: ∀i,0<i->i<m-> -(b 0 0)<=2*b i 0/\2*b i 0<=b 0 0):CallC prog 86 [bV (mat m m b)] ⟨[],.raw (.bool true)⟩:=by
 have l:=aS m m b;have v:=bA m b (show 0<m by omega);have o:=aw (b 0) (show 0<m by omega);have j:1<=m:=by omega
 obtain⟨D,c⟩: ∃D,List.drop 1 (List.take m (mat m m b))=D:=⟨_,rfl⟩;have h:D.length=m-1:=by rw[<- c];simp[aS]
 have e: ∀i,i<m-1->D[i]?=some (aA m (b (i+1))):=fun i t=>by
  rw[<- c,aeS (by omega),agL,agn,bA m b (by omega)]
 refine aB func86 rfl ntmps86 (aE (k:=aF (aG v o) (k:=aj (ax (k:=aq rfl (al (aj (aF (aG l (aG j (aG (fj (ach fI)) (aG c h)))) (k:=?_)))))))));refine ay (G:=fp (m-1)) (fun q=>⟨(jk::jk::jk::.raw (.int .i64 (b 0 0))::j4 (j4 (j4 (jk::jk::bV D::.raw (.int .i64 ((m-1:Nat):Int))::rN q.i::j16 (jk::jk::[]))))),Hm []⟩) (fun q=>m-1-q.i) ⟨0,by omega⟩ ?_ ?_
 ·refine ak trivial ?_;simp[wk]
 rintro⟨i,t⟩;simp only;by_cases u:i<m-1
 ·have w:=e i u;have p:=aw (b (i+1)) (show 0<m by omega);obtain⟨x,y⟩:=s (i+1) (by omega) (by omega);have r:IntKind.i64.wrap ((i:Int)+1)=((i+1:Nat):Int):=by rw[aH (by omega) (by omega)];omega
  refine ax (k:=aP rfl (aj (ao (aF w (k:=aF p (k:=aq rfl (al (df r (k:=?_)))))))));refine⟨⟨i+1,by omega⟩,by grind,ak trivial ?_⟩;simp[wk]
 obtain rfl:i=m-1:=by omega
 refine ax (k:=aQ rfl (aZ (k:=aI @results86)))
def kZ (f:FF) (k:Nat):Nat->Nat->Int:=fun i j=>bk f k (k+i) (k+j)
theorem E9 {k:Nat} (c: ∀t,t<k->dk b (t+1)≠0) (i j:Nat):
  kZ b k 0 0*kZ b k (i+1) (j+1)-kZ b k (i+1) 0*kZ b k 0 (j+1)=dk b k*kZ b (k+1) i j:=by
 grind [sylv,kZ,cB]
theorem oG (f:FF) (k:Nat):kZ f k 0 0=dk f (k+1):=by
 rfl
structure aeo (n:Nat) where
 k:Nat
 m:Nat
 h:k+m=n
 h1:1<=m
theorem ge (M:List (List Int)) (hM:isReducedM M=true):CallC prog 36 [bV M] ⟨[],.raw (.bool true)⟩:=by
 obtain⟨n,f,rfl,h,I,C⟩:=Jo hM;have cS:=Q7 h I C;have y:=fW h I C;have x:=iZ h I C;obtain⟨W,z,K,L⟩:=C;have e0:mat n n f=mat n n (kZ f 0):=gJ fun i j _ _=>by
  show f i j=bk f 0 (0+i) (0+j);grind [de]
 refine aB func36 rfl ntmps36 (aE (k:=aj (bu [⟨1,_,_,_,cS⟩] (k:=aq rfl (al (aZ (k:=aZ (k:=?_))))))));refine aj (ay (G:=aeo n) (fun g=>⟨(jk::jk::jk::bV (mat g.m g.m (kZ f g.k))::.raw (.int .i64 (dk f g.k))::j16 (j16 (j16 (j16 (j16 (j16 (j16 (jk::[])))))))),Hm []⟩) (fun g=>g.m) ⟨0,n,by omega,h⟩ ?_ ?_)
 ·refine ak trivial ?_;simp[wk,e0,b8]
 rintro⟨k,m,ab,h1⟩;simp only;have w: ∀t,t<k->Okt f n t:=fun t O=>⟨z t (by omega),y t (by omega),(L t (by omega)).1⟩
 have nz: ∀t,t<k->dk f (t+1)≠0:=fun t O=>by have:=(w t O).1;omega
 have U: ∀i j,i<m->j<m-> -34359738368<=kZ f k i j/\kZ f k i j<=34359738368:=fun i j o q=>EQ (by omega) W (fun i o j q=>by have:=x i o j q;omega) (by omega) w (by omega) (by omega) (by omega) (by omega)
 have s:=z k (by omega);have u:=y k (by omega);rw[<- oG]at s u;have r:=aS m m (kZ f k);have P:=bA m (kZ f k) (show 0<m by omega);have Q:=aw (kZ f k 0) (show 0<m by omega);by_cases hm:1<m
 ·obtain⟨c,rfl⟩: ∃c,m=c+1:=⟨m-1,by omega⟩;obtain⟨hz,hL⟩:=L k (by omega);have hD:0<dk f k/\dk f k<65536:=by
   cases k with
   |zero=>rw[b8];omega
   |succ k=>exact⟨z k (by omega),y k (by omega)⟩
  have V: ∀i j,i<c->j<c-> -34359738368<=kZ f (k+1) i j/\kZ f (k+1) i j<=34359738368:=fun i j o q=>EQ (by omega) W (fun i o j q=>by have:=x i o j q;omega) (by omega) (fun t O=>⟨z t (by omega),y t (by omega),(L t (by omega)).1⟩) (by omega) (by omega) (by omega) (by omega)
  have hq: ∀i j,Int.tdiv (kZ f k 0 0*kZ f k (i+1) (j+1)-kZ f k (i+1) 0*kZ f k 0 (j+1)) (dk f k)=kZ f (k+1) i j:=fun i j=>by
   rw[E9 nz,ahn _ (by omega)]
  have J: ∀i,0<i->i<c+1-> -(kZ f k 0 0)<=2*kZ f k i 0/\2*kZ f k i 0<=kZ f k 0 0:=fun i h0 o=>hz (k+i) (by omega) (by omega)
  have cH:=Q6 (m:=c+1) (by omega) (by omega) s u J;have aa:3*kZ f k 0 0*kZ f k 0 0<=4*(dk f k*kZ f (k+1) 0 0+kZ f k 1 0*kZ f k 1 0):=hL;have en:kZ f k 0 0=dk f (k+1):=oG f k;generalize kZ f k=E at*
  generalize hF:kZ f (k+1)=F at*
  generalize ac:dk f k=last at*
  have em:IntKind.i64.wrap (((c+1:Nat):Int)-1)=(c:Int):=by rw[aH (by omega) (by omega)];omega
  have N:last≠0:=by omega
  have r1:=bA (c+1) E (show 1<c+1 by omega);have Z:=aw (E 1) (show 0<c+1 by omega);have q0:=bA c F (show 0<c by omega);have q1:=aw (F 0) (show 0<c by omega);have ad:=aS c c F;refine aj (aF r (k:=aC rfl (al (ao (aF (aG P Q) (k:=aj (bu [⟨1,_,_,_,cH⟩] (k:=aq rfl (al (aF (aG r em) (k:=aj (aZ (k:=?_)))))))))))));refine mc (S:=⟨(jk::jk::jk::bV (mat (c+1) (c+1) E)::.raw (.int .i64 last)::.raw (.int .i64 (E 0 0))::bV (mat c c F)::j16 (j16 (j16 (j16 (j16 (j16 (j4 (j4 (j4 (jk::jk::jk::[])))))))))),Hm []⟩) ?_ ?_
  ·refine ay (G:=fp c) (fun g=>⟨(jk::jk::jk::bV (mat (c+1) (c+1) E)::.raw (.int .i64 last)::.raw (.int .i64 (E 0 0))::.one (.sl 29 0 0 c)::j16 (j4 (j4 (.raw (.int .i64 (c:Int))::rN g.i::j16 (j16 (j16 (j16 (j16 (j4 (jk::[])))))))))),Hm [(29,kI 29 c c g.i (part F g.i 0))]⟩) (fun g=>c-g.i) ⟨0,by omega⟩ ?_ ?_
   ·refine ak ⟨rfl,trivial⟩ ?_;simp[wk]
   rintro⟨i,o⟩;simp only;have R:IntKind.i64.wrap ((i:Int)+1)=((i+1:Nat):Int):=by rw[aH (by omega) (by omega)];omega
   by_cases p:i<c
   ·have ri:=bA (c+1) E (show i+1<c+1 by omega);have ci:=aw (E (i+1)) (show 0<c+1 by omega);obtain⟨X,Y⟩:=J (i+1) (by omega) (by omega);have k1:=xr (i:=i) (n:=c) 29 c p;have k2:=lU (i:=i) (n:=c) 29 c o;have k3:=aS i c (part F i 0);have k4:=si (i:=i) (n:=c) (c:=c) 29 (part F i 0) p (fun j q=>by grind [part]);have k5:=tU (i:=i+1) (k:=i) (n:=c) 29 c (by omega);have k6:=lU (i:=i+1) (n:=c) 29 c (by omega);refine ax (k:=aP rfl (aj (ao (aZ (k:=aF (aG R ri) (k:=aF (aG k1 (aG @afc (aG @agb (aG k3 k4)))) (k:=?_)))))));refine bv.weak (ak (tm:=(jk::jk::jk::bV (mat (c+1) (c+1) E)::.raw (.int .i64 last)::.raw (.int .i64 (E 0 0))::.one (.sl 29 0 0 c)::rN i::d7 (aA (c+1) (E (i+1)))::j16 (j4 (jk::jk::rN c::rN i::j16 (j16 (j16 (j16 (j16 (j4 (jk::[])))))))))) (l:=[(29,kI 29 c c (i+1) (part F i 0))]) ⟨rfl,trivial⟩ (by simp[wk])) ?_;refine aZ (k:=?_);refine ay (G:=fp c) (fun g=>⟨(jk::jk::jk::bV (mat (c+1) (c+1) E)::.raw (.int .i64 last)::.raw (.int .i64 (E 0 0))::.one (.sl 29 0 0 c)::rN i::d7 (aA (c+1) (E (i+1)))::j16 (j4 (jk::jk::rN c::rN i::j4 (j4 (j4 (jk::jk::rN c::rN g.i::j16 (j16 (j16 (j16 (j4 (jk::[]))))))))))),Hm [(29,kI 29 c c (i+1) (part F i g.i))]⟩) (fun g=>c-g.i) ⟨0,by omega⟩ ?_ ?_
    ·refine ak ⟨rfl,trivial⟩ ?_;simp[wk]
    rintro⟨j,q⟩;simp only;by_cases v:j<c
    ·have cj:=aw (E (i+1)) (show j+1<c+1 by omega);have D:=aw (E 0) (show j+1<c+1 by omega);have e2:=hq i j;have m1:=mU (a:=E 0 0) (A:=65536) ⟨by omega,by omega⟩ (U (i+1) (j+1) (by omega) (by omega)) (by omega) (by omega);have m2:=mU (a:=E (i+1) 0) (A:=65536) ⟨by omega,by omega⟩ (U 0 (j+1) (by omega) (by omega)) (by omega) (by omega);obtain⟨n1,n2⟩:=V i j p v;have k7:=eU (n:=i+1) c (part F i j) (i:=i) (by omega);have k8:=aw (part F i j i) v;have T:IntKind.i64.wrap ((j:Int)+1)=((j+1:Nat):Int):=by rw[aH (by omega) (by omega)];omega
     refine ax (k:=aP rfl (aj (ao (aZ (k:=jz (aG k5 (aG T (aG cj (aG ci (aG P (aG D (aG (@ne_eq.{1}) (aG N (aG @not_false_eq_true (aG e2 (aG k7 (aG k8 @f7)))))))))))) (k:=df T (k:=?_)))))));refine⟨⟨j+1,by omega⟩,by grind,ak ⟨?_,trivial⟩ ?_⟩
     ·show _::_=_::_;rw[dw fun a b _ _=>ij F i j a b]
     simp[wk]
    obtain rfl:j=c:=by omega
    refine ax (k:=aQ rfl (df R (k:=?_)));refine⟨⟨i+1,by omega⟩,by grind,ak ⟨?_,trivial⟩ ?_⟩
    ·show _::_=_::_;rw[dw fun a b _ x=>jr F i a b x]
    simp[wk]
   obtain rfl:i=c:=by omega
   refine ax (k:=aQ rfl ?_);show bN _ _;have e:kI 29 i i i (part F i 0)=lV 29 i i F:=by
    grind [dw,jq]
   rw[e];refine(bR 29 (oH rfl)).trans (ak trivial ?_);simp[wk];exact⟨rfl,rfl,rfl,(QV (H:=Hm [(29,lV 29 i i F)]) (d:=29) (n:=i) (c:=i) (f:=F) rfl).symm⟩
  have m3:=mU (a:=last) (A:=65536) ⟨by omega,by omega⟩ (V 0 0 (by omega) (by omega)) (by omega) (by omega);obtain⟨X,Y⟩:=J 1 (by omega) (by omega);have m4:=mU (a:=E 1 0) (b:=E 1 0) (A:=65536) (B:=65536) ⟨by omega,by omega⟩ ⟨by omega,by omega⟩ (by omega) (by omega);have m5:=mU (a:=3*E 0 0) (b:=E 0 0) (A:=196608) (B:=65536) ⟨by omega,by omega⟩ ⟨by omega,by omega⟩ (by omega) (by omega);refine aF (aG r1 Z) (k:=aj (aF (aG q0 q1) (k:=aq rfl (al (aAl (k:=?_))))));refine⟨⟨k+1,c,by omega,by omega⟩,by simp only;omega,ak trivial ?_⟩;simp[wk,en,hF]
 obtain rfl:m=1:=by omega
 obtain rfl:n=k+1:=by omega
 rw[<- oG]at K;refine aj (aF r (k:=aq rfl (aT (aF (aG P Q) (k:=aI @results36)))))
end
end
theorem jZ (n:Nat) (h t:FF) (a b:Nat):bY n h t a b=BF n h (fun i=>t i a) (fun j=>t j b):=by
 unfold bY BF;rw[bP,au n (G:=fun p=>smF (fun q=>t q a*h q p*t p b) n) (fun p _=>by rw[bP,<- iT];rfl),
  au n (F:=fun i=>t i a*_) (G:=fun q=>smF (fun p=>t q a*h q p*t p b) n) (fun q _=>by grind [aW])]
 exact eh _ _ _
theorem dm (f:Nat->Int) {j:Nat} (b:j<n):(aA n f).getD j 0=f j:=by
 grind [aw]
section
variable {n:Nat}
def mV (n:Nat) (t:FF) (x:Nat->Int):Nat->Int:=fun i=>smF (fun a=>x a*t i a) n
theorem Ny (h t:FF) (x y:Nat->Int): ∀m,BF n h (fun i=>smF (fun a=>x a*t i a) m) y=smF (fun a=>x a*BF n h (fun i=>t i a) y) m
 |0=>gM fun _ _=>rfl
 |m+1=>by
  have b:=y5 (n:=n) h (fun i=>smF (fun a=>x a*t i a) m) (fun i=>t i m) y (x m);rw[Ny h t x y m]at b;exact b
theorem Nz (h t:FF) (x y:Nat->Int): ∀m,BF n h x (fun i=>smF (fun a=>y a*t i a) m)=smF (fun a=>y a*BF n h x (fun i=>t i a)) m
 |0=>by
  show BF n h x (fun _=>0)=0;simp_all[BF,b7]
 |m+1=>by
  have b:=y6 (n:=n) h x (fun i=>smF (fun a=>y a*t i a) m) (fun i=>t i m) (y m);rw[Nz h t x y m]at b;exact b
theorem mJ (h t:FF) (x y:Nat->Int):BF n h (mV n t x) (mV n t y)=BF n (bY n h t) x y:=by
 unfold mV;rw[Ny];unfold BF;refine au n fun a _=>?_
 congr 1
 have b:=Nz (n:=n) h t (fun i=>t i a) y n;grind [BF,jZ]
theorem PD.cng (g:PD b n) (m:dk c n≠0):PD (bY n b c) n:=by
 refine RH (fun i _ j _=>by rw[jZ,jZ];exact S0 g.1 _ _) fun x ⟨i,e,o⟩=>?_
 rw[<- mJ];obtain⟨p,l⟩:=g.pos (mV n c x);rcases afL 0 (BF n b (mV n c x) (mV n c x))with f|f
 ·exact f
 exfalso;have q:=l.1 (by omega);refine o (A3 m (fun i e=>?_) i e);grind [mV]
theorem yo {t:FF} {i:Nat} (b:i<n) (c:Nat->Int): ∀m,m<=n->dk (eR t i (fun r=>smF (fun j=>c j*t r j) m)) n=if i<m then c i*dk t n else 0
 |0,_=>by rw[if_neg (by omega)];exact Oj b fun _ _=>rfl
 |m+1,e=>by
  have h:=xf (R:=t) b 1 (c m) (fun r=>smF (fun j=>c j*t r j) m) (fun r=>t r m);rw[yo b c m (by omega)]at h;grind [smF,rY,AI]
theorem Og {t:FF} {i:Nat} (b:i<n) (c:Nat->Int):dk (eR t i (mV n t c)) n=c i*dk t n:=by
 have:=yo b c n (aeJ n) (t:=t);rwa[if_pos b]at this
theorem PD.diag (g:PD b n) {i:Nat} (c:i<n):0<b i i:=by
 have h:=g.pos (eC i);have e:=mX (f:=b) c;grind [nrm,eC]
end
section
variable {n:Nat}
def sZ (N:(Nat->Int)->Int) (B:FF):Nat->Nat->Nat->Int
 |0=>B
 |j+1=>if N (B (j+1))<N (B j)then sZ N (swp (j+1) j B) j else B
theorem MH {k:Nat}:swp n k b n=if n=k then b n else b k:=by
 grind [swp]
theorem MI {k:Nat}:swp n k b k=b n:=by
 grind [swp]
theorem xY {k a:Nat} (c:a≠n) (e:a≠k):swp n k b a=b a:=by grind [swp]
theorem vm (N:(Nat->Int)->Int): ∀j B a,j<a->sZ N B j a=B a
 |0,_,_,_=>rfl
 |j+1,B,a,h=>by
  rw[sZ];split
  ·rw[vm N j _ a (by omega),xY (by omega) (by omega)]
  rfl
theorem A4 (N:(Nat->Int)->Int) {Q:(Nat->Int)->Prop}: ∀j B,(∀a,a<=j->Q (B a))-> ∀a,a<=j->Q (sZ N B j a)
 |0,_,h,a,b=>h a b
 |j+1,B,h,a,b=>by
  rw[sZ];split
  ·by_cases e:a<=j
   ·refine A4 N j _ (fun c g=>?_) a e;by_cases f:c=j
    ·subst f;rw[MI];exact h _ (by omega)
    rw[xY (by omega) f];exact h c (by omega)
   rw[vm N j _ a (by omega)];obtain rfl:a=j+1:=by omega
   rw[MH,if_neg (by omega)];exact h j (by omega)
  exact h a b
def G5 (N:(Nat->Int)->Int) (B:FF) (i:Nat):Prop:= ∀a,a+1<i->N (B a)<=N (B (a+1))
theorem G5.le {N:(Nat->Int)->Int} {i:Nat} (h:G5 N b i) (g:n<i): ∀a,a<=n->N (b a)<=N (b n):=fun a f=>by
 obtain⟨m,rfl⟩: ∃m,n=a+m:=⟨n-a,by omega⟩
 induction m with
 |zero=>simp
 |succ m c=>
  have:=c (by omega) (by omega);have e:=h (a+m) (by omega);grind
theorem IE (N:(Nat->Int)->Int): ∀j B,G5 N B j->G5 N (sZ N B j) (j+1)
 |0,_,_=>fun a m=>by omega
 |j+1,B,h=>by
  intro a m;rw[sZ];by_cases f:N (B (j+1))<N (B j)
  ·rw[if_pos f];have l:G5 N (swp (j+1) j B) j:=fun c b=>by
    rw[xY (by omega) (by omega),xY (by omega) (by omega)];exact h c (by omega)
   by_cases e:a+1<j+1
   ·exact IE N j _ l a e
   obtain rfl:a=j:=by omega
   rw[vm N a _ (a+1) (by omega),MH,if_neg (by omega)];refine A4 N (Q:=fun x=>N x<=N (B a)) a _ (fun c b=>?_) a (aeJ _);by_cases g:c=a
   ·grind [MI]
   rw[xY (by omega) g];exact h.le (by omega) c b
  rw[if_neg f];by_cases e:a+1<j+1
  ·exact h a e
  grind
theorem MP {k:Nat}:trF (swp n k b)=fun i c=>if c=n then trF b i k else if c=k then trF b i n else trF b i c:=by
 funext i c;unfold trF swp;grind
theorem OA (N:(Nat->Int)->Int): ∀j B,j<n->(dk (trF (sZ N B j)) n).natAbs=(dk (trF B) n).natAbs
 |0,_,_=>rfl
 |j+1,B,h=>by
  rw[sZ];split
  ·rw[OA N j _ (by omega),MP,mQ h (by omega) (by omega),agw]
  rfl
def SX (N:(Nat->Int)->Int) (B:FF) (n:Nat):Int:=smF (fun a=>N (B a)) n
theorem Pt (F:Nat->Int) {j:Nat}: ∀{m},j+1<m->smF F m=smF (fun a=>if a=j then F (j+1)else if a=j+1 then F j else F a) m
 |m+1,h=>by
  rw[smF,smF];by_cases e:j+1<m
  ·rw[Pt F e,if_neg (by omega),if_neg (by omega)]
  grind [smF,au]
theorem IF (N:(Nat->Int)->Int): ∀j B,j<n->SX N (sZ N B j) n=SX N B n
 |0,_,_=>rfl
 |j+1,B,h=>by
  rw[sZ];split
  ·rw[IF N j _ (by omega)];unfold SX;rw[Pt (fun a=>N (B a)) h];grind [MI,MH,xY]
  rfl
def Cs (N:(Nat->Int)->Int) (B:FF):Nat->Nat->Nat->Int
 |0=>B
 |i+1=>sZ N (Cs N B i) i
theorem JN (N:(Nat->Int)->Int) (B:FF): ∀i,G5 N (Cs N B i) i
 |0=>fun a b=>by omega
 |i+1=>IE N i _ (JN N B i)
theorem Ct (N:(Nat->Int)->Int) {Q:(Nat->Int)->Prop} {B:FF} (h: ∀a,a<n->Q (B a)): ∀i,i<=n-> ∀a,a<n->Q (Cs N B i a)
 |0,_=>h
 |i+1,g=>fun a b=>by
  rw[Cs];by_cases e:a<=i
  ·exact A4 N i _ (fun c f=>Ct N h i (by omega) c (by omega)) a e
  rw[vm N i _ a (by omega)];exact Ct N h i (by omega) a b
theorem Pz (N:(Nat->Int)->Int) (B:FF): ∀i,i<=n->(dk (trF (Cs N B i)) n).natAbs=(dk (trF B) n).natAbs
 |0,_=>rfl
 |i+1,b=>by rw[Cs,OA N i _ (by omega),Pz N B i (by omega)]
theorem JO (N:(Nat->Int)->Int) (B:FF): ∀i,i<=n->SX N (Cs N B i) n=SX N B n
 |0,_=>rfl
 |i+1,b=>by rw[Cs,IF N i _ (by omega),JO N B i (by omega)]
end
section
variable {n:Nat}
def qx (n:Nat) (h B:FF):Nat->Nat->Int:=fun a b=>BF n h (B a) (B b)
theorem r9 (h B:FF):qx n h B=bY n h (trF B):=by
 funext a b;rw[jZ];rfl
open Classical in
noncomputable def SO (n:Nat) (f:FF):Nat->Nat->Option Nat
 |0,_=>none
 |m+1,i=>if wR n f i then some i else SO n f m (i+1)
noncomputable def adj (n:Nat) (f:FF):Option Nat:=SO n f n 0
theorem o9 {f:FF}: ∀m i r,SO n f m i=some r->i<=r/\r<i+m/\wR n f r/\ ∀a,i<=a->a<r-> ¬wR n f a
 |0,_,_,h=>by cases h
 |m+1,i,r,h=>by
  rw[SO]at h;split at h
  ·grind
  rename_i j;obtain⟨b,c,e,g⟩:=o9 m (i+1) r h;grind
theorem Es {f:FF}: ∀m i,SO n f m i=none-> ∀a,i<=a->a<i+m-> ¬wR n f a
 |0,_,_=>fun a b c=>by omega
 |m+1,i,h=>by
  rw[SO]at h;split at h
  ·cases h
  rename_i g;intro a b c;by_cases e:a=i
  ·grind
  exact Es m (i+1) h a (by omega) (by omega)
def C5 (n:Nat) (h B:FF):Nat->Nat->Int:=Cs (nrm n h) B n
def yV (n:Nat) (h S:FF) (i:Nat):Nat->Nat->Int:=fun k=>if k=i then mV n (trF S) (JE n (qx n h S) i (3^i))else S k
inductive yM (n:Nat) (h:FF):(Nat->Nat->Int)->(Nat->Nat->Int)->Prop
 |done (B:FF):adj n (qx n h (C5 n h B))=none->yM n h B (C5 n h B)
 |step (B R:FF) (i:Nat):adj n (qx n h (C5 n h B))=some i->yM n h (yV n h (C5 n h B) i) R->yM n h B R
structure pe (n:Nat) (h:FF) (W:Int) (B:FF):Prop where
 nr: ∀a,a<n->nrm n h (B a)<=W
 dt:(dk (trF B) n).natAbs=1
theorem pe.ord (f:pe n b x c):pe n b x (C5 n b c):=
 ⟨Ct _ (Q:=fun e=>nrm n b e<=x) f.nr n (aeJ n),by unfold C5;rw[Pz _ _ n (aeJ n)];exact f.dt⟩
theorem Wz {F G:Nat->Int} {i:Nat}: ∀{m},i<m->(∀a,a<m->a≠i->F a=G a)->F i<G i->smF F m<smF G m
 |m+1,g,h,c=>by
  rw[smF,smF];by_cases e:i=m
  ·grind [au]
  have:=Wz (m:=m) (by omega) (fun a f b=>h a (by omega) b) c;grind
theorem jG {F:Nat->Int}: ∀m,(∀a,a<m->0<=F a)->0<=smF F m
 |0,_=>by simp[smF]
 |m+1,h=>by
  have:=jG m fun a b=>h a (by omega)
  grind [smF]
theorem Jp {i:Nat}:nrm n b (yV n b c i i)=nrm n (qx n b c) (JE n (qx n b c) i (3^i)):=by
 grind [yV,nrm,mJ,r9]
theorem We {i:Nat} (e:i<n) (g:wR n (qx n b c) i):SX (nrm n b) (yV n b c i) n<SX (nrm n b) c n:=by
 refine Wz e (fun a _ f=>?_) ?_
 ·grind [yV]
 show nrm n b (yV n b c i i)<nrm n b (c i);rw[Jp];exact Ww e g
theorem MO {S:FF} {i:Nat}:trF (yV n b S i)=eR (trF S) i (mV n (trF S) (JE n (qx n b S) i (3^i))):=by
 funext r c;unfold trF yV eR;split<;>rfl
theorem pe.rep {i:Nat} (f:pe n b x c) (g:i<n) (l:wR n (qx n b c) i):pe n b x (yV n b c i):=by
 refine⟨fun a j=>?_,?_⟩
 ·by_cases e:a=i
  ·subst e;rw[Jp];have m:=Ww g l;have o:=f.nr a g;grind [qx,nrm]
  unfold yV;rw[if_neg e];exact f.nr a j
 rw[MO,Og g,(Mw n (qx n b c) i (3^i)).1,ag0];exact f.dt
theorem Jl (r:PD b n): ∀(m:Nat) (B:FF),(SX (nrm n b) B n).toNat=m->pe n b x B-> ∃R,yM n b B R:=fun m=>by
 induction m using Nat.strongRecOn with
 |_ m t=>
  intro B y o;cases f:adj n (qx n b (C5 n b B))with
  |none=>exact⟨_,.done B f⟩
  |some i=>
   obtain⟨_,u,g,_⟩:=o9 n 0 i f;have j:i<n:=by omega
   have p:=o.ord;have l:=We j g;have s:SX (nrm n b) (C5 n b B) n=SX (nrm n b) B n:=JO _ _ n (aeJ n);have c: ∀e,0<=SX (nrm n b) e n:=fun e=>jG n fun a _=>(r.pos (e a)).1
   have v:=c (yV n b (C5 n b B) i);have w:=c B;obtain⟨R,q⟩:=t (SX (nrm n b) (yV n b (C5 n b B) i) n).toNat (by omega) _ rfl (p.rep j g);exact⟨R,.step B R i f q⟩
theorem Wb {R:FF} (j:yM n b c R) (f:pe n b x c):pe n b x R/\G5 (nrm n b) R n/\ ∀i,i<n-> ¬wR n (qx n b R) i:=by
 induction j with
 |done c e=>exact⟨f.ord,JN _ _ n,fun i o=>Es n 0 e i (by omega) (by omega)⟩
 |step c R i e _ l=>
  obtain⟨_,m,g,_⟩:=o9 n 0 i e;exact l (f.ord.rep (by omega) g)
/-! Signs. -/
def xT (g:FF):Nat->Int
 |0=>1
 |i+1=>if xT g i*g i (i+1)<0 then -1 else 1
theorem v8 (g:FF): ∀i,xT g i=1\/xT g i= -1
 |0=> .inl rfl
 |i+1=>by grind [xT]
theorem acN (g:FF) (i:Nat):0<=xT g i*xT g (i+1)*g i (i+1):=by
 have e:xT g i*xT g (i+1)*g i (i+1)=xT g (i+1)*(xT g i*g i (i+1)):=by grind
 rw[e,xT];split
 ·omega
 omega
def Ms (g B:FF):Nat->Nat->Int:=fun k j=>xT g k*B k j
theorem UQ (h g B:FF):qx n h (Ms g B)=Z2 (xT g) (qx n h B):=by
 funext a b;unfold qx Ms Z2 BF;rw[<- aW];refine au n fun i _=>?_
 rw[au n (G:=fun j=>xT g b*(h i j*B b j)) (fun j _=>by grind),aW];grind
theorem Mt {g B:FF}: ∀m,m<=n->(dk (trF fun k j=>if k<m then xT g k*B k j else B k j) n).natAbs=(dk (trF B) n).natAbs
 |0,_=>by simp
 |m+1,f=>by
  rw[<- Mt (g:=g) (B:=B) m (by omega)];have e:=xf (R:=trF fun k j=>if k<m then xT g k*B k j else B k j) (n:=n) (a:=m) (by omega) (xT g m) 0 (fun i=>B m i) (fun i=>B m i);have b:eR (trF fun k j=>if k<m then xT g k*B k j else B k j) m (fun i=>xT g m*B m i+0*B m i)=trF fun k j=>if k<m+1 then xT g k*B k j else B k j:=by
   grind [eR,trF]
  have c:eR (trF fun k j=>if k<m then xT g k*B k j else B k j) m (fun i=>B m i)=trF fun k j=>if k<m then xT g k*B k j else B k j:=by
   grind [eR,trF]
  grind [v8]
theorem Vv (f:G5 (nrm n b) c n) (g: ∀i,i<n-> ¬wR n (qx n b c) i):fd (qx n b (Ms (qx n b c) c)) n:=by
 rw[UQ];refine⟨fun i e=>⟨?_,acN _ _⟩,fun i e j=>g i e (aaJ (v8 _) e j)⟩;have l:=f i e;grind [Z2,qx,nrm,v8]
end
section
variable {n:Nat}
theorem ad3 (h:x*x<=(n:Int)*(n:Int)): -(n:Int)<=x/\x<=(n:Int):=by
 have c:x.natAbs*x.natAbs<=n*n:=by
  grind [Int.natAbs_mul_self]
 have e:x.natAbs<=n:=by
  rcases agT n x.natAbs with b|b
  ·have:=ahB b b;omega
  exact b
 omega
theorem pe.one (f:1<=n) (l:n<=4) (m:RedR b n):pe n b 262144 (fun a c=>if a=c then 1 else 0):=by
 refine⟨fun a g=>?_,?_⟩
 ·have e:(fun c=>if a=c then(1:Int)else 0)=eC a:=by grind [eC]
  grind [mX,iZ]
 have e:trF (fun a c=>if a=c then(1:Int)else 0)=fun i j=>if i=j then 1 else 0:=by
  grind [trF]
 rw[e,E8];rfl
theorem pe.sg (g:FF) (l:pe n b x c):pe n b x (Ms g c):=by
 refine⟨fun a m=>?_,?_⟩
 ·have:=l.nr a m;have e:nrm n b (Ms g c a)=nrm n b (c a):=by
   have f:qx n b (Ms g c) a a=qx n b c a a:=by
    rw[UQ];grind [Z2,v8]
   exact f
  omega
 have f:=Mt (g:=g) (B:=c) n (aeJ n);rw[<- l.dt,<- f]
 congr 1
 exact cy fun i j _ o=>by show xT g j*c j i=if j<n then _ else _;omega
theorem lJ (e:1<=n) (p:n<=4) (l:RedR b n): ∃R,yM n b (fun a c=>if a=c then 1 else 0) R/\pe n b 262144 R/\pe n b 262144 (Ms (qx n b R) R)/\fd (qx n b (Ms (qx n b R) R)) n:=by
 have g:=pe.one e (by omega) l;obtain⟨R,j⟩:=Jl l.pd _ _ rfl g;obtain⟨f,m,o⟩:=Wb j g;exact⟨R,j,f,f.sg _,Vv m o⟩
theorem pe.pd (f:PD b n) (e:pe n b x c):PD (qx n b c) n:=by
 rw[r9];exact f.cng (by have:=e.dt;omega)
end
section
variable {n:Nat}
inductive OpR where
 |swp (i:Nat)
 |rep (i c:Nat)
 |neg (i:Nat)
def OpR.i:OpR->Nat
 | .swp i=>i
 | .rep i _=>i
 | .neg i=>i
theorem zi {u:FF} {a e:Nat}:bY n (bY n b c) u a e=bY n b (eJ n c u) a e:=by
 rw[jZ,jZ,<- mJ];refine cf (fun _ _ _ _=>rfl) (fun i _=>?_) (fun i _=>?_)<;>
 ·grind [mV,bP]
/-! What the operations do to the Gram matrix. -/
theorem mt {F G:Nat->Int} {i:Nat}: ∀{m},i<m->(∀a,a<m->a≠i->F a=G a)->smF G m=smF F m+(G i-F i)
 |m+1,f,h=>by
  rw[smF,smF];by_cases e:i=m
  ·grind [au]
  rw[mt (m:=m) (by omega) (fun a c b=>h a (by omega) b),h m (by omega) (agv e)];omega
theorem Ye (h:FF) (x y:Nat->Int):BF n h x (fun r=> - y r)= - BF n h x y:=by
 have b:=y6 (n:=n) h x y y (-2);grind
theorem Yd (h:FF) (x y:Nat->Int):BF n h (fun r=> - x r) y= - BF n h x y:=by
 have b:=y5 (n:=n) h x x y (-2);grind
end
section
variable {n:Nat}
theorem kT (m:SymF b n) (q: ∀k,k<n->0<dk b (k+1)) (x:Nat->Int) {k:Nat} (p:k<n):
  dk b k*BF n (bk b (k+1)) x x=dk b (k+1)*BF n (bk b k) x x-smF (fun j=>bk b k k j*x j) n*smF (fun j=>bk b k k j*x j) n:=by
 have c: ∀t,t<n->dk b (t+1)≠0:=fun t g=>by grind
 have h:dk b k*BF n (bk b (k+1)) x x=BF n (fun i j=>dk b k*bk b (k+1) i j+0*bk b k i j) x x:=by rw[yZ];omega
 rw[h,cf (f':=fun i j=>dk b (k+1)*bk b k i j+(-1)*(bk b k k i*bk b k k j)) (fun i j l o=>by
  have:=sylv b k (fun t g=>c t (by omega)) i j;have e:=iJ m k (by omega) (fun t g=>c t (by omega)) i k l (by omega);grind) (fun _ _=>rfl) (fun _ _=>rfl),yZ,Nx,au n (F:=fun i=>x i*bk b k k i) (G:=fun j=>bk b k k j*x j) (fun i _=>af0 _ _)]
 omega
theorem Cy {f:FF} (b:PD f n) (x:Nat->Int) {N:Int} (c:BF n f x x<=N): ∀k,k<=n->BF n (bk f k) x x<=N*dk f k
 |0,_=>by
  rw[b8,ait,cf (fun i j _ _=>de f i j) (fun _ _=>rfl) (fun _ _=>rfl)];exact c
 |k+1,r=>by
  have p:=Cy b x c k (by omega);have e:=kT b.1 b.2 x (show k<n by omega);have l:0<dk f k:=lS fun t s=>b.2 t (by omega)
  have m:=b.2 k (by omega);have o:0<=smF (fun j=>bk f k k j*x j) n*smF (fun j=>bk f k k j*x j) n:=by
   rcases afF 0 (smF (fun j=>bk f k k j*x j) n)with h|h
   ·exact aeQ h h
   exact ae9 h h
  have q:dk f (k+1)*BF n (bk f k) x x<=dk f (k+1)*(N*dk f k):=aeO p (by omega);have g:dk f k*BF n (bk f (k+1)) x x<=dk f k*(N*dk f (k+1)):=by
   grind
  exact afe g l
theorem Ve {f:FF} (b:RedR f n): ∀k,k<n->dk f k<=((2^k:Nat):Int)*dk f (k+1)
 |0,h=>by
  have q:=b.2.1 0 h;grind [b8]
 |k+1,h=>by
  have p:=Ve b k (by omega);obtain⟨m,j⟩:=b.2.2.2 k h;have c:=b.2.1 k (by omega);have g:=b.2.1 (k+1) h;unfold X0 at j;have o:=m (k+1) h (by omega);generalize bk f k (k+1) k=l at*
  generalize dk f (k+1+1)=d2 at*
  generalize dk f (k+1)=d1 at*
  generalize dk f k=d0 at*
  have r:4*(l*l)<=d1*d1:=by
   have e:(2*l.natAbs)*(2*l.natAbs)<=d1.toNat*d1.toNat:=afd (by omega) (by omega);grind [Int.natAbs_mul_self]
  have s:d1*d1<=2*(d0*d2):=by
   grind
  have t:d0*d2<=((2^k:Nat):Int)*d1*d2:=aeY p (by omega);have u:d1*d1<=d1*(((2^(k+1):Nat):Int)*d2):=by
   have e:d1*(((2^(k+1):Nat):Int)*d2)=2*(((2^k:Nat):Int)*d1*d2):=by
    grind
   omega
  simp_all
theorem Dt (v:RedR b n) (c:Nat->Int) (W:0<=x) (hN:BF n b c c<=x) {M:Nat} (hM:x*((2^n:Nat):Int)<=(M:Int)*(M:Int)): ∀m k,m+k+1=n->(c k).natAbs<=M*2^m:=fun m=>by
 induction m using Nat.strongRecOn with
 |_ m ih=>
  intro k hk;have o:=v.pd;have g:k<n:=by omega
  have F: ∀t,t<n->dk b (t+1)≠0:=fun t T=>by have:=v.2.1 t T;omega
  have ab:=v.2.1 k g;have hd:0<dk b k:=lS fun t T=>v.2.1 t (by omega)
  have E:=kT o.1 o.2 c g;have K:=Cy o c hN k (by omega);have R:=(jQ o.1 o.2 c (n-(k+1)) (k+1) (by omega)).1;have O:=Ve v k g
  -- the sum
  obtain⟨L,X⟩: ∃L,L=smF (fun j=>bk b k k j*c j) n:=⟨_,rfl⟩;rw[<- X]at E;have B:L*L<=(M*dk b (k+1))*(M*dk b (k+1)):=by
   have a1:0<=dk b k*BF n (bk b (k+1)) c c:=aeQ (by omega) R;have a2:dk b (k+1)*BF n (bk b k) c c<=dk b (k+1)*(x*dk b k):=aeO K (by omega);have a3:dk b (k+1)*(x*dk b k)<=dk b (k+1)*(x*(((2^k:Nat):Int)*dk b (k+1))):=aeO (aeO O W) (by omega);have a4:x*((2^k:Nat):Int)<=(M:Int)*(M:Int):=by
    have:((2^k:Nat):Int)<=((2^n:Nat):Int):=aif.2 (ae5 (by omega) (by omega));exact aie (aeO this W) hM
   have a5:x*((2^k:Nat):Int)*(dk b (k+1)*dk b (k+1))<=(M:Int)*(M:Int)*(dk b (k+1)*dk b (k+1)):=aeY a4 (aeQ (by omega) (by omega));grind
  have aa:L.natAbs<=M*(dk b (k+1)).toNat:=by
   have e:(M:Int)*dk b (k+1)=((M*(dk b (k+1)).toNat:Nat):Int):=by
    grind
   rw[e]at B;have:=ad3 B;omega
  -- the other coordinates
  have u: ∀q,k+1+q<=n->2*(smF (fun j=>bk b k k j*c j) (k+1+q)-dk b (k+1)*c k).natAbs<=(dk b (k+1)).toNat*(M*(2^(m+1)-2^(m+1-q))):=fun q=>by
   induction q with
   |zero=>
    intro _;have e:smF (fun j=>bk b k k j*c j) (k+1)=dk b (k+1)*c k:=by
     rw[smF,au k (G:=fun _=>0) (fun j hj=>by rw[EO o.1 F (by omega) hj (by omega),ag2]),b7,cB];omega
    grind
   |succ q V=>
    intro hq;have U:=V (by omega);rw[<- ahc,smF];have Z:=ih (n-(k+1+q)-1) (by omega) (k+1+q) (by omega);have ad:=(v.2.2.2 k (by omega)).1 (k+1+q) (by omega) (by omega);have H:=iJ o.1 k (by omega) (fun t T=>F t (by omega)) k (k+1+q) g (by omega);rw[H];rw[show n-(k+1+q)-1=m-1-q by omega]at Z;have s:2^(m+1-q)=2*2^(m+1-(q+1))/\2^(m+1-(q+1))=2*2^(m-1-q):=by
     refine⟨?_,?_⟩
     ·rw[show m+1-q=(m+1-(q+1))+1 by omega,af3];omega
     rw[show m+1-(q+1)=(m-1-q)+1 by omega,af3];omega
    have Q:2^(m+1-q)<=2^(m+1):=ae5 (by omega) (by omega);have hD:(((dk b (k+1)).toNat:Nat):Int)=dk b (k+1):=by omega
    have e5:smF (fun j=>bk b k k j*c j) (k+1+q)+bk b k (k+1+q) k*c (k+1+q)-dk b (k+1)*c k=(smF (fun j=>bk b k k j*c j) (k+1+q)-dk b (k+1)*c k)+bk b k (k+1+q) k*c (k+1+q):=by omega
    rw[e5];generalize smF (fun j=>bk b k k j*c j) (k+1+q)-dk b (k+1)*c k=S at*
    generalize bk b k (k+1+q) k=l at*
    generalize c (k+1+q)=y at*
    generalize(dk b (k+1)).toNat=D at*
    have hl:2*l.natAbs<=D:=by omega
    have ac:2*(l*y).natAbs<=D*(M*2^(m-1-q)):=by
     rw[afr,<- agj];exact afd hl Z
    have C:=ahY S (l*y);generalize 2^(m-1-q)=P at*
    generalize 2^(m+1)=A at*
    obtain⟨p1,p2⟩:=s;rw[p1,p2]at U Q;rw[p2];have h6:D*(M*(A-2*(2*P)))+D*(M*P)<=D*(M*(A-2*P)):=by
     rw[<- ai9,<- ai9];exact ae7 _ (ae7 _ (by omega))
    omega
  have h:=u m (by omega);rw[show k+1+m=n by omega,<- X,show m+1-m=1 by omega]at h;have hD:(((dk b (k+1)).toNat:Nat):Int)=dk b (k+1):=by omega
  have I:0<(dk b (k+1)).toNat:=by omega
  have J:(dk b (k+1)*c k).natAbs=(dk b (k+1)).toNat*(c k).natAbs:=by
   grind
  have C:(dk b (k+1)*c k).natAbs<=L.natAbs+(L-dk b (k+1)*c k).natAbs:=by omega
  rw[J]at C;have s:2^(m+1)=2*2^m:=by omega
  have Y:0<2^m:=agB (by omega);generalize(L-dk b (k+1)*c k).natAbs=r at*
  generalize(dk b (k+1)).toNat=D at*
  generalize(c k).natAbs=z at*
  generalize L.natAbs=w at*
  rw[s]at h;generalize 2^m=P at*
  have h7:2*(M*D)+D*(M*(2*P-2^1))=D*(2*(M*P)):=by
   have e:2*P-2^1=2*(P-1):=by omega
   rw[e];obtain⟨p,rfl⟩: ∃p,P=p+1:=⟨P-1,by omega⟩;grind
  have h8:D*(2*z)<=D*(2*(M*P)):=by
   grind
  have:=ahX h8 I;omega
end
end Go.Proofs.YtalmoejhjceflaaGreat
