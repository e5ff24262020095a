/-
  Proved: the statement ShortBoundsSaid: for every input the law quadformlaw13.ShortBounds returns true, and each argument reads afterwards as it read before. No condition.
-/
import Derived.Test.YtalmoejhjceflaaGreatV33
set_option linter.all false
set_option maxRecDepth 100000
set_option maxHeartbeats 64000000
open Nat renaming reduceAdd → aa
namespace Go.Proofs.YtalmoejhjceflaaGreat
open Go.RowKit Go.Proofs.Tryz
section
open Go.ChangeShapes Go.WideShapes Go.ChangeAt Go.RowKit
theorem wi:joinedFacts Tryz.pinned.checked.prog 13 f13 Rows.shortBoundsSpec Rows.shortBoundsRow=true:=by kernel_rfl
end
variable {b c:FF} {x y z u v:Int} {n m:Nat} {e:List Int}
theorem La (f:FF):dk f 2=f 0 0*f 1 1-f 0 1*f 1 0:=by
 simp[dk,om,eH,jc];grind
def gB (i j:Nat) (c:Int) (f:FF):Nat->Nat->Int:=fun r b=>
 if i=j then(if c<0 then(if b=i then-f r i else f r b)else f r b)
 else if c=0 then(if b=i then f r j else if b=j then f r i else f r b)
 else if b=i then f r i+c*f r j else f r b
def gP (i j:Nat) (c:Int) (f:FF) (m:Nat):Nat->Nat->Int:=fun r b=>if r<m then gB i j c f r b else f r b
theorem xd (i j:Nat) (c:Int) (f:FF):gP i j c f 0=f:=by funext r b;simp[gP]
theorem oD {i:Nat} (e:Nat):gP i n x b m m e=b m e:=by simp[gP]
theorem AA {i:Nat} {r e:Nat} (h:r<m):gP i n x b m r e=gB i n x b r e:=by simp[gP,h]
def bX (L:List Int) (n:Nat):Nat->(Nat->Nat->Int)×Nat
 |0=>(fun i j=>if i=j then 1 else 0,0)
 |k+1=>
  let s:=bX L n k
  if s.2<L.length then(gB (kr L s.2 n) (kr L (bL L s.2) n) (Int.tmod (L.getD (bL L (bL L s.2)) 0) 3) s.1,bL L (bL L (bL L s.2)))else s
def d6 (L:List Int) (n:Nat):Nat->Nat->Int:=(bX L n 12).1
theorem jR {L:List Int} {n k:Nat} (h: ¬(bX L n k).2<L.length): ∀m,bX L n (k+m)=bX L n k
 |0=>rfl
 |m+1=>by
  have b:=jR h m;rw[<- ahc,bX];rw[b,if_neg h]
theorem CJ {L:List Int} {n k:Nat} (b:k<=12) (h:k=12\/ ¬(bX L n k).2<L.length):(bX L n k).1=d6 L n:=by
 unfold d6;rcases h with rfl|h
 ·rfl
 have:=jR h (12-k);rw[show k+(12-k)=12 by omega]at this;rw[this]
theorem sV (L:List Int) (n:Nat): ∀k,(bX L n k).2<=L.length
 |0=>afl _
 |k+1=>by
  have b:=sV L n k;rw[bX];split
  ·exact fg (fg (fg b))
  exact b
theorem AB {i j:Nat} (o: -2<=x/\x<=2) (h: ∀a e,(b a e).natAbs<=n) (a e:Nat):(gB i j x b a e).natAbs<=3*n:=by
 have g:=h a e;have l:=h a i;have m:=h a j;unfold gB;split
 ·split
  ·split<;>omega
  omega
 split
 ·split
  ·omega
  split<;>omega
 split
 ·have:x= -2\/x= -1\/x=1\/x=2:=by omega
  rcases this with rfl|rfl|rfl|rfl<;>omega
 omega
theorem xZ (x:Int): -2<=Int.tmod x 3/\Int.tmod x 3<=2:=by
 have b:=ahq x (show(0:Int)<3 by omega);have c:=ahp x (show(0:Int)<3 by omega);omega
theorem nQ (L:List Int) (n:Nat): ∀k a b,((bX L n k).1 a b).natAbs<=3^k
 |0,a,b=>by
  rw[bX];show(if a=b then(1:Int)else 0).natAbs<=3^0;split<;>simp
 |k+1,a,b=>by
  have c:=nQ L n k;rw[bX];split
  ·have:=AB (i:=kr L (bX L n k).2 n) (j:=kr L (bL L (bX L n k).2) n) (xZ (L.getD (bL L (bL L (bX L n k).2)) 0)) c a b;exact aeN this (by rw[af3];omega)
  have:=c a b;exact aeN this (by rw[af3];omega)
theorem kV (L:List Int) (n:Nat) {k:Nat} (e:k<=12) (a b:Nat): -531441<=(bX L n k).1 a b/\(bX L n k).1 a b<=531441:=by
 have f:=nQ L n k a b;have c:3^k<=3^12:=ae5 (by omega) e;rw[show 3^12=531441 from rfl]at c;omega
theorem qT {i:Nat} (c:Int) (f:FF) (l:i<m) (o:n<m):(dk (gB i n c f) m).natAbs=(dk f m).natAbs:=by
 by_cases e:i=n
 ·by_cases g:c<0
  ·have h:gB i n c f=eR f i (fun r=> - f r i):=by
    funext r b;unfold gB eR;rw[if_pos e,if_pos g]
   rw[h,r5 l,agw]
  have h:gB i n c f=f:=by
   funext r b;unfold gB;rw[if_pos e,if_neg g]
  rw[h]
 by_cases g:c=0
 ·have h:gB i n c f=fun r b=>if b=i then f r n else if b=n then f r i else f r b:=by
   funext r b;unfold gB;rw[if_neg e,if_pos g]
  rw[h,mQ l o e,agw]
 have h:gB i n c f=eR f i (fun r=>f r i+c*f r n):=by
  funext r b;unfold gB eR;rw[if_neg e,if_neg g]
 rw[h,kG l o e]
theorem nR (L:List Int) {n:Nat} (b:0<n): ∀k,(dk (bX L n k).1 n).natAbs=1
 |0=>by rw[bX,E8];rfl
 |k+1=>by
  have c:=nR L b k;rw[bX];split
  ·rw[qT _ _ (dH _ _ b) (dH _ _ b),c]
  exact c
theorem wI (L:List Int) {n:Nat} (b:0<n):(dk (d6 L n) n).natAbs=1:=nR L b 12
theorem kU (L:List Int) (n a b:Nat): -531441<=d6 L n a b/\d6 L n a b<=531441:=kV L n (aeJ 12) a b
section
variable {n:Nat}
theorem jm.mul (g:jm n b) (h:jm n c):jm n (eJ n b c):=fun v=>by
 obtain⟨y,l⟩:=g v;obtain⟨z,m⟩:=h y;refine⟨z,fun j e=>?_⟩;rw[<- l j e];unfold mV;rw[au n (F:=fun a=>y a*b j a) (G:=fun p=>smF (fun a=>z a*(b j p*c p a)) n) (fun p f=>by
  rw[<- m p f];unfold mV;rw[<- iT];exact au n fun a _=>by grind),eh]
 exact au n fun a _=>by rw[bP,aW]
theorem fb.trans {p:FF} (l:fb n b c) (m:fb n c p):fb n b p:=by
 obtain⟨T,r,f⟩:=l;obtain⟨S,s,j⟩:=m;refine⟨_,r.mul s,fun a e o q=>?_⟩;rw[<- zi,EZ f];exact j a e o q
theorem nc (l:yM n b idF c):fb n b (qx n b (Ms (qx n b c) c)):=by
 have one:jm n (trF idF):=jm.one.congr fun i j _ _=>by
  show(if j=i then(1:Int)else 0)=if i=j then 1 else 0
  by_cases e:i=j<;>simp[e,eq_comm]
 exact⟨_,Gl (g:=qx n b c) (BO l one),fun a f _ _=>by rw[<- r9]⟩
theorem rh {q:FF} (t:n<=4) (r:fb n b c) (s:fb n b q) (w:PD c n) (x:PD q n) (u:fd c n) (v:fd q n) {i:Nat} (e:i<n):c i i=q i i:=by
 obtain⟨T,y,m⟩:=r;obtain⟨S,z,o⟩:=s;have f:=fun i j e l=>(m i j e l).symm
 have h:=fun i j e l=>(o i j e l).symm
 rw[<- m i i e e,<- o i i e e];exact xz t (w.congr f) (x.congr h) (u.congr f) (v.congr h) y.rinv z.rinv e
/-! Unimodular of quadformmake. -/
theorem uW {i:Nat} (c:Int) (p:i<n) (q:m<n) (h:jm n b):jm n (gB i m c b):=by
 by_cases e:i=m
 ·by_cases l:c<0
  ·refine(h.sign (s:=fun a=>if a=i then -1 else 1) (fun a=>by by_cases r:a=i<;>simp[r])).congr fun a g _ _=>?_
   unfold gB;rw[if_pos e,if_pos l];by_cases o:g=i
   ·subst o;simp
   simp[o]
  refine h.congr fun a g _ _=>?_
  unfold gB;rw[if_pos e,if_neg l]
 by_cases l:c=0
 ·refine(h.swap p q).congr fun a g _ _=>?_
  unfold gB;rw[if_neg e,if_pos l]
 refine(h.addc p q e c).congr fun a g _ _=>?_
 unfold gB;rw[if_neg e,if_neg l]
theorem lR (L:List Int) (b:0<n): ∀k,jm n (bX L n k).1
 |0=>Gu.congr fun _ _ _ _=>rfl
 |k+1=>by
  have c:=lR L b k;rw[bX];split
  ·exact uW _ (dH _ _ b) (dH _ _ b) c
  exact c
theorem vz (X:FF) (i j:Nat) (c:Int) (f:FF) (r b:Nat):eJ n X (gB i j c f) r b=gB i j c (eJ n X f) r b:=by
 have m: ∀(A:FF) b,eJ n X A r b=smF (fun p=>X r p*A p b) n:=fun A b=>bP _ _ _ _ _
 by_cases e:i=j
 ·by_cases l:c<0
  ·simp only[gB,if_pos e,if_pos l,m];by_cases g:b=i
   ·simp only[if_pos g];have o:=aW (-1) (fun p=>X r p*f p i) n;rw[au n (G:=fun p=> -1*(X r p*f p i)) (fun p _=>by grind),o];omega
   simp only[if_neg g]
  simp only[gB,if_pos e,if_neg l,m]
 by_cases l:c=0
 ·simp only[gB,if_neg e,if_pos l,m];by_cases g:b=i
  ·simp only[if_pos g]
  by_cases h:b=j
  ·simp only[if_neg g,if_pos h]
  simp only[if_neg g,if_neg h]
 simp only[gB,if_neg e,if_neg l,m];by_cases g:b=i
 ·simp only[if_pos g];rw[<- aW c,<- iw];exact au n fun p _=>by grind
 simp only[if_neg g]
theorem fy (L:List Int) (b:0<n) (X:FF): ∀k,(dk (eJ n X (bX L n k).1) n).natAbs=(dk X n).natAbs
 |0=>by
  rw[cy (g:=X) fun i j _ e=>?_];rw[bP];exact rK (y:=fun p=>X i p) e
 |k+1=>by
  have c:=fy L b X k;rw[bX];split
  ·rw[cy (k:=n) fun i j _ _=>vz X _ _ _ _ i j,qT _ _ (dH _ _ b) (dH _ _ b),c]
  exact c
theorem tc (b:n<=4) (f:FF):dk (trF f) n=dk f n:=by
 have:n=0\/n=1\/n=2\/n=3\/n=4:=by omega
 rcases this with rfl|rfl|rfl|rfl|rfl
 ·rfl
 ·simp[dk,om,eH,jc,trF]
 ·simp[dk,om,eH,jc,trF];grind
 ·simp[dk,om,eH,jc,trF];grind
 simp[dk,om,eH,jc,trF];grind
theorem mP (L:List Int) (b:1<=n) (c:n<=4) (g:FF):(dk (bY n g (d6 L n)) n).natAbs=(dk g n).natAbs:=by
 unfold bY;rw[show d6 L n=(bX L n 12).1 from rfl,fy L b _ 12,cy (g:=trF (eJ n (trF g) (bX L n 12).1)) fun i j _ _=>?_,tc c,fy L b _ 12,tc c];rw[trF,bP,bP];exact au n fun p _=>af0 _ _
theorem mN (L:List Int) (p: ∀a c,(b a c).natAbs<=m) (o:n*n*m<=200) (a c:Nat):(bY n b (d6 L n) a c).natAbs<=2^46:=by
 have f: ∀a c,(d6 L n a c).natAbs<=531441:=fun a c=>by have:=kU L n a c;omega
 rw[jZ];have h: ∀i,(smF (fun j=>b i j*d6 L n j c) n).natAbs<=n*(m*531441):=fun i=>ki n fun j _=>by
  rw[afr];exact afd (p i j) (f j c)
 have l:(BF n b (fun i=>d6 L n i a) fun j=>d6 L n j c).natAbs<=n*(531441*(n*(m*531441))):=ki n fun i _=>by
  rw[afr];exact afd (f i a) (h i)
 refine aeN l ?_;have e:n*(531441*(n*(m*531441)))=n*n*m*(531441*531441):=by grind
 rw[e];exact aeN (ae2 _ o) (by decide)
theorem Md (L:List Int) {E:Nat} (q:1<=n) (r:n<=4) (z:GoodP n b) (w: ∀a c,(b a c).natAbs<=E) (v:n*n*E<=200):zY 4 (2^192) 90 n (bY n b (d6 L n)):=by
 obtain⟨A,s,x⟩:=z;have u:PD b n:=⟨A,fun k m=>(n9 s k m).1⟩;have B:=wI L (n:=n) (by omega);have l:PD (bY n b (d6 L n)) n:=u.cng (by omega);have o:=mN L w v;have h:uG (bY n b (d6 L n)) n:=fun k m=>by
  rw[ip fun t G=>by have:=l.2 t (by omega);omega];exact l.2 k m
 have e: ∀f:Nat->Nat->Int,uG f n->detF n f=dk f n:=fun f y=>by
  have:=(n9 y (n-1) (by omega)).2;rwa[show n-1+1=n by omega]at this
 have p:detF n (bY n b (d6 L n))<=10000:=by
  have C:=mP L q r b;have D:=l.det;have F:=u.det;rw[e _ s]at x;rw[e _ h];omega
 refine⟨⟨l.1,h,p⟩,fun i j _ _=>?_,RedI.start_ bd4 r l.1 h (fun k m=>?_) (fun a _=>aeN (o a a) (by decide)) fun a c _ _=>xn a c⟩
 ·exact Sz.mono (k:=2) (agd (o i j) (by decide)) (by omega)
 exact aeN (E7 (L:=4) (by decide) o (by omega)) (by decide)
theorem GE (L:List Int) (b:1<=n) (g:FF):fb n g (bY n g (d6 L n)):=⟨_,lR L b 12,fun _ _ _ _=>rfl⟩
end
section
theorem ru (n:Nat) (f:FF) (x:Nat->Int):gp n f (aA n x)=BF n f x x:=by
 rw[fL];exact cf (fun _ _ _ _=>rfl) (fun i b=>dm x b) fun i b=>dm x b
theorem iR (h:e.length=n):aA n (fun i=>e.getD i 0)=e:=aeW fun i=>by
 by_cases b:i<n
 ·rw[aw _ b,aeM,aeR (show i<e.length by omega)];rfl
 rw[afI (by rw[az];omega),afI (by omega)]
theorem I6 (c:PD b n) (z:List Int):0<=gp n b z:=by
 rw[fL];exact(c.pos _).1
section
variable {n:Nat} {s h:FF}
theorem nP (F G:Nat->Int): ∀m,smF (fun i=>F i-G i) m=smF F m-smF G m
 |0=>rfl
 |m+1=>by rw[smF,smF,smF,nP F G m];omega
theorem vt (x:fb n s h) (y:PD h n): ∃c q:List Int->List Int,(∀z,(c z).length=n/\gp n s (c z)=gp n h z)/\(∀w,w.length=n->(q w).length=n/\c (q w)=w)/\ ∀z b,z.length=n->b.length=n->c z=c b->z=b:=by
 obtain⟨T,p,o⟩:=x;refine⟨fun z=>aA n (mV n T fun i=>z.getD i 0),fun w=>aA n (Classical.choose (p fun i=>w.getD i 0)),fun z=>⟨az _ _,?_⟩,fun w A=>⟨az _ _,?_⟩,fun z b B m e=>?_⟩
 ·rw[ru,mJ,fL];exact cf o (fun _ _=>rfl) fun _ _=>rfl
 ·refine air ?_ (iR A);refine bG fun j f=>?_
  have g:=agN (p fun i=>w.getD i 0) j f;refine air ?_ g;exact au n fun a u=>congrArg (· *T j a) (dm _ u)
 have g: ∀j,j<n->mV n T (fun i=>z.getD i 0-b.getD i 0) j=0:=fun j f=>by
  have l:(aA n (mV n T fun i=>z.getD i 0)).getD j 0=(aA n (mV n T fun i=>b.getD i 0)).getD j 0:=congrArg (·.getD j 0) e;rw[dm _ f,dm _ f]at l;simp only[mV]at l⊢;rw[au (G:=fun a=>z.getD a 0*T j a-b.getD a 0*T j a) n (fun a _=>ai8 _ _ _),nP,l];omega
 have r:BF n h (fun i=>z.getD i 0-b.getD i 0) (fun i=>z.getD i 0-b.getD i 0)=0:=by
  rw[<- cf o (fun _ _=>rfl) fun _ _=>rfl,<- mJ];exact gM g
 have t:=(y.pos _).2.1 r;rw[<- iR B,<- iR m];exact bG fun i v=>by have:=t i v;omega
end
theorem xC {j q:Type} {g:j->q} {l:List j} (f: ∀x∈l,∀y∈l,g x=g y->x=y) (h:l.Nodup):(l.map g).Nodup:=by
 induction l with
 |nil=>simp
 |cons a l p=>
  rw[afU]at h;rw[aeX,afU];refine⟨fun m=>?_,p (fun x n y o=>f x (by simp[n]) y (by simp[o])) h.2⟩;obtain⟨c,b,e⟩:=aeL.1 m;have:=f c (by simp[b]) a (by simp) e;exact h.1 (this▸b)
section
variable {M A B:List (List Int)} {n1 n2:Nat} {h f g:FF}
end
section
variable {M A B:List (List Int)} {n n1 n2:Nat} {h f g:FF}
theorem Eb (l:Rf M n f) (m:e.length=n):0<gp n f e↔bT e≠0:=by
 refine⟨fun c b=>?_,fun b=>FO l m b⟩;have j:=jP.1 b;rw[fL,gM fun i o=>j _ (by rw[aeM,aeR (by omega)];simp)]at c;omega
theorem VE (c:Rf M n f) (m:e.length=n) (q:0<gp n f e):yU f n<=gp n f e:=by
 obtain⟨_,r,o⟩:=xB c;have p:=qt c;rcases afF (gp n f e) (l7 n f)with j|j
 ·have l:=(Eb c m).1 q;have b:=n7 c (s:=bT e) (by have:=dx e;omega) e;have:=o (gp n f e,e.map fun a=>bT e*a) ((cq c (by omega) p.2 _).2 ⟨by simp[m],b.symm,j,by
   rw[g7 (by have:=dx e;omega)];rcases dx e with h|h|h
   ·exact absurd h l
   ·rw[h];rfl
   rw[h];rfl⟩)
  exact this
 omega
theorem VD (b:Rf M n f): ∃z,z.length=n/\gp n f z=yU f n:=by
 have l:=qt b;obtain⟨p,c⟩:=getElem?_of_lt (Et b);obtain⟨e,j,_,_⟩:=(cq b (by omega) l.2 p).1 (adQ c);refine⟨p.2,e,?_⟩;rw[<- j];unfold yU;rw[aeM,c];rfl
end
end
section
section
variable {M:List (List Int)} {n:Nat} {f:FF} {B:Int}
theorem th (f:FF) (n:Nat) (B:Int):(dJ f n B).Pairwise fun a b=>a.1<=b.1:=(rR f n B).imp fun{a b} h=>by
 rcases h with h|h
 ·omega
 omega
theorem uv (h:Rf M n f) (b:0<=B) (c:B<=65536): ∀x∈dJ f n B,x.1=nrm n f fun i=>x.2.getD i 0:=fun x e=>by
 rw[((cq h b c x).1 e).2.1,fL];rfl
theorem ut (h:Rf M n f) (g:0<=B) (p:B<=65536) (z:Nat->Int) (o: ∃i,i<n/\z i≠0) (q:nrm n f z<=B): ∃x∈dJ f n B,∃e:Int,(e=1\/e= -1)/\ ∀i,i<n->x.2.getD i 0=e*z i:=by
 obtain⟨i,r,o⟩:=o;have u:bT (aA n z)≠0:=fun g=>o (jP.1 g (z i) (adQ (aw z r)))
 have c:bT (aA n z)=1\/bT (aA n z)= -1:=by rcases dx (aA n z)with h|h|h<;>simp_all
 have m:bT (aA n z)*bT (aA n z)=1:=by rcases c with h|h<;>rw[h]<;>rfl
 have b:=g7 (x:=aA n z) c;rw[m]at b;have l:gp n f ((aA n z).map fun a=>bT (aA n z)*a)=nrm n f z:=by
  rw[n7 h c,ru];rfl
 generalize bT (aA n z)=s at*
 exact⟨(gp n f ((aA n z).map fun a=>s*a),(aA n z).map fun a=>s*a),(cq h g p _).2 ⟨by rw[ae3,az],rfl,by rw[l];exact q,b⟩,s,c,fun j t=>by
  show((aA n z).map fun a=>s*a).getD j 0=_;rw[aeM,aeG,aw z t];rfl⟩
theorem j8 (b:Rf M n f) (q:n<=4) (m:0<=dN f n) (o:dN f n<=65536): ∃p,fb n f p/\PD p n/\fd p n/\(grS n (dJ f n (dN f n)) []).map Prod.fst=aA n fun i=>p i i:=by
 obtain⟨R,g,_,w,s⟩:=lJ b.n1 q b.r;obtain⟨T,u,e⟩:=nc g;have t:=w.pd b.r.pd;have l:=fun i j c h=>(e i j c h).symm
 refine⟨_,⟨T,u,e⟩,t,s,?_⟩;rw[bG (g':=fun i=>bY n f T i i) fun i c=>(e i i c c).symm];exact lI (B:=dN f n) q (t.congr l) (s.congr l) u (th f n _) (uv b m o) (fun z x v=>ut b m o z x v) fun j h=>xk n j h
theorem FH {N:List (List Int)} {a:FF} (o:Rf M n a) (r:Rf N n c) (e:n<=4) (u:fb n b a) (v:fb n b c) (h:0<=dN a n/\dN a n<=65536) (j:0<=dN c n/\dN c n<=65536):
  (grS n (dJ a n (dN a n)) []).map Prod.fst=(grS n (dJ c n (dN c n)) []).map Prod.fst:=by
 obtain⟨p,l1,y,w,l⟩:=j8 o e h.1 h.2;obtain⟨q,t,z,x,m⟩:=j8 r e j.1 j.2;rw[l,m];exact bG fun i s=>rh e (u.trans l1) (v.trans t) y z w x s
theorem vi (f:FF) (n:Nat) (B:Int):GrI n (dJ f n B) (grS n (dJ f n B) []):=by
 have:=se (n:=n) (dJ f n B) [] [] (th f n B) ⟨(fun c g a e=>by simp at e),List.Pairwise.nil,(fun x b=>by cases b),fun x b=>by cases b⟩;rwa[afQ]at this
theorem vq {pre c:List (Int×List Int)} (h:GrI n pre c) {a:Nat} (j:a<=m) (g:m<c.length):kL c a<=kL c m:=by
 by_cases e:a=m
 ·rw[e];exact afY _
 have:=agP.1 h.asc a m (by omega) g (by omega);unfold kL;rw[aeM,aeM,aeR (show a<c.length by omega),aeR g];exact this
theorem WF (h:Rf M n f) (g:0<=B) (l:B<=65536) {i:Nat} (v:i<(grS n (dJ f n B) []).length) {C:Int} (o:0<=C) (L:C<kL (grS n (dJ f n B) []) i):rkF n (kp (dJ f n C).length (vL (dJ f n C)))<=i:=by
 have m:=vi f n B;generalize u:grS n (dJ f n B) []=p at*
 obtain⟨y,E,K,_⟩:=jf v;have F:=((cq h g l y).1 (m.sub y E)).2.2.1;refine sK (gK n _) (Y:=vL p) fun a r=>?_
 obtain⟨x,D,_,ev⟩:=jf r;obtain⟨H,I,O,J⟩:=(cq h o (by omega) x).1 D;obtain⟨s,N,G,q,c,A,t⟩:=m.hng x ((cq h g l x).2 ⟨H,I,by omega,J⟩);have e:s<=i:=af2 fun z=>by have:=G i z;omega
 refine⟨q,fun b=>if b<s then c b else 0,A,fun j w=>?_⟩;rw[kY e,ev];exact t j w
theorem WD (h:Rf M n f) (p:0<=B) (q:B<=65536) {i:Nat} (s:i<(grS n (dJ f n B) []).length):i+1<=rkF n (kp (dJ f n (kL (grS n (dJ f n B) []) i)).length (vL (dJ f n (kL (grS n (dJ f n B) []) i)))):=by
 have g:=vi f n B;generalize w:grS n (dJ f n B) []=e at*
 obtain⟨y,D,u,_⟩:=jf s;obtain⟨L,H,N,O⟩:=(cq h p q y).1 (g.sub y D);have o:0<=kL e i:=by rw[u,H];exact I6 h.r.pd _
 refine BV (gK n _) (Y:=vL e) (fun b J=>?_) fun c v a m=>?_
 ·obtain⟨x,C,I,t⟩:=jf (show b<e.length by omega);obtain⟨E,F,K,G⟩:=(cq h p q x).1 (g.sub x C);have A:=vq g (show b<=i by omega) s;obtain⟨a,m⟩:=afo.1 ((cq h o (by omega) x).2 ⟨E,F,by omega,G⟩);refine⟨a,(aeI.1 m).1,fun j _=>?_⟩;rw[t];unfold vL;rw[aeM (l:=dJ f n (kL e i)),m];rfl
 have:=g.ind (fun b=>if b<i+1 then c b else 0) (fun j z=>by
  rw[kY (by omega) c fun b=>vL e b j];exact v j z) a (by omega)
 rwa[if_pos m]at this
theorem Ff (h:Rf M n f) (g:n<=4) (b:0<=dN f n) (c:dN f n<=65536):(grS n (dJ f n (dN f n)) []).length=n:=by
 obtain⟨p,_,_,_,e⟩:=j8 h g b c;have:=congrArg List.length e;rwa[ae3,az]at this
end
end
section
variable {n:Nat}
def yg (n:Nat) (t:FF):Prop:= ∀X,(dk (eJ n X t) n).natAbs=(dk X n).natAbs
theorem yg.congr (h:yg n b) (e: ∀i j,i<n->j<n->c i j=b i j):yg n c:=fun X=>by
 rw[<- h X,cy fun i j _ f=>?_];rw[bP,bP];exact au n fun p g=>by rw[e p j g f]
theorem yg.one:yg n (fun i j=>if i=j then 1 else 0):=fun X=>by
 rw[cy (g:=X) fun i j _ b=>?_];rw[bP];exact rK (y:=fun p=>X i p) b
theorem yg.swap (h:yg n b) {q:Nat} (l:m<n) (o:q<n) (f:m≠q):yg n (fun i c=>if c=m then b i q else if c=q then b i m else b i c):=fun X=>by
 rw[<- h X,<- agw (dk (eJ n X b) n),<- mQ (R:=eJ n X b) l o f,cy fun i j _ r=>?_];rw[bP];by_cases e:j=m
 ·subst e;simp only[if_true,bP]
 simp only[if_neg e];by_cases g:j=q
 ·subst g;simp only[if_true,bP]
 simp only[if_neg g,bP]
theorem yg.comb (h:yg n b) {i:Nat} (l:i<n) {c:Nat->Int} (j:c i=1):yg n (eR b i (mV n b c)):=fun X=>by
 have e:=Og (t:=eJ n X b) l c;rw[j,ag0]at e;rw[<- h X,<- e,cy fun a f _ m=>?_];rw[bP];unfold eR;by_cases e:f=i
 ·simp only[if_pos e];unfold mV;rw[au n (G:=fun p=>smF (fun g=>X a p*(c g*b p g)) n) (fun p _=>(aW _ _ n).symm),eh];exact au n fun q _=>by
   rw[bP,<- aW];exact au n fun p _=>by grind
 simp only[if_neg e,bP]
theorem yg.sg (h:yg n (trF b)) (g:FF):yg n (trF (Ms g b)):=fun X=>by
 have c:=Mt (g:=g) (B:=trF (eJ n X (trF b))) n (aeJ n);rw[<- h X];rw[show trF (trF (eJ n X (trF b)))=eJ n X (trF b)from rfl]at c;rw[<- c,cy fun i j _ e=>?_];show eJ n X (trF (Ms g b)) i j=if j<n then xT g j*eJ n X (trF b) i j else eJ n X (trF b) i j
 rw[if_pos e,bP,bP,<- aW];exact au n fun p _=>by show X i p*(xT g j*b j p)=xT g j*(X i p*b j p);grind
theorem IH (N:(Nat->Int)->Int): ∀j B,j<n->yg n (trF B)->yg n (trF (sZ N B j))
 |0,_,_,h=>h
 |j+1,B,b,h=>by
  rw[sZ];split
  ·refine IH N j _ (by omega) ?_;rw[MP];exact h.swap b (by omega) (by omega)
  exact h
theorem Cv (N:(Nat->Int)->Int) {B:FF} (h:yg n (trF B)): ∀i,i<=n->yg n (trF (Cs N B i))
 |0,_=>h
 |i+1,b=>IH N i _ (by omega) (Cv N h i (by omega))
theorem Wc {R:FF} (g:yM n b c R) (e:yg n (trF c)):yg n (trF R):=by
 induction g with
 |done c f=>exact Cv _ e n (aeJ n)
 |step c R i f _ j=>
  obtain⟨_,l,m,_⟩:=o9 n 0 i f;refine j ?_;rw[MO];exact yg.comb (Cv _ e n (aeJ n)) (by omega) (Mw n _ i (3^i)).1
theorem yg.cng (c:n<=4) (h:yg n b) (g:FF):(dk (bY n g b) n).natAbs=(dk g n).natAbs:=by
 unfold bY;rw[h,cy (g:=trF (eJ n (trF g) b)) fun i j _ _=>?_,tc c,h,tc c];rw[trF,bP,bP];exact au n fun p _=>af0 _ _
theorem Wa (g:n<=4) (f:yM n b idF c):(dk (qx n b (Ms (qx n b c) c)) n).natAbs=(dk b n).natAbs:=by
 rw[r9];refine yg.cng g (yg.sg (Wc f ?_) _) b;exact yg.one.congr fun i j _ _=>by
  show(if j=i then(1:Int)else 0)=if i=j then 1 else 0
  by_cases e:i=j
  ·rw[if_pos e,if_pos e.symm]
  rw[if_neg e,if_neg (agv e)]
end
theorem K3 {A B C l u x:Int} (f:0<=A) (g:l<=x) (j:x<=u) (b:0<=C+B*l-A*(l*l)) (c:0<=C+B*u-A*(u*u)):0<=C+B*x-A*(x*x):=by
 rcases afL l u with h|h
 ·have e:(u-l)*(C+B*x-A*(x*x))=(u-x)*(C+B*l-A*(l*l))+(x-l)*(C+B*u-A*(u*u))+A*((x-l)*(u-x))*(u-l):=by grind
  have m:=aeQ (show 0<=u-x by omega) b;have n:=aeQ (show 0<=x-l by omega) c;have o:=aeQ (aeQ f (aeQ (show 0<=x-l by omega) (show 0<=u-x by omega))) (show 0<=u-l by omega);have p:0<=(u-l)*(C+B*x-A*(x*x)):=by omega
  exact afe (a:=u-l) (by simpa using p) (by omega)
 have:x=l:=by omega
 subst this;exact b
theorem rq {a:Int} (e:0<=a) (h:x<=y):a*x<=a*y:=aeO h e
theorem zE {a b c R S T:Int} (w:0<a) (q:a<=b) (r:b<=c) (j:0<=T) (p:T<=a) (f:0<=S) (h:S<=a) (e:0<=R) (g:R<=b):
  0<=2*(a*b*c)+R*S*T-a*(R*R)-b*(S*S)-c*(T*T):=by
 have x:0<b:=by omega
 have y:0<c:=by omega
 have C:0<=a*b*(2*c-a-b):=aeQ (aeQ (by omega) (by omega)) (by omega);have u:R*R<=b*b:=ae0 g g e (by omega);have v:S*S<=a*a:=ae0 h h f (by omega);have l:=rq (by omega:0<=a) u;have m:=rq (by omega:0<=b) v;have z:0<=a*b*(c-a):=aeQ (aeQ (by omega) (by omega)) (by omega);have A:0<=a*b*(c-b):=aeQ (aeQ (by omega) (by omega)) (by omega);have B:0<=a*c*(b-a):=aeQ (aeQ (by omega) (by omega)) (by omega);have f0:0<=(2*(a*b*c)-a*(R*R)-b*(S*S))+R*S*0-c*(0*0):=by grind
 have f1:0<=(2*(a*b*c)-a*(R*R)-b*(S*S))+R*S*a-c*(a*a):=by
  have n:0<=(2*(a*b*c)-a*(R*R)-c*(a*a))+R*a*0-b*(0*0):=by grind
  have o:0<=(2*(a*b*c)-a*(R*R)-c*(a*a))+R*a*a-b*(a*a):=by
   have s:0<=(2*(a*b*c)-c*(a*a)-b*(a*a))+a*a*0-a*(0*0):=by grind
   have t:0<=(2*(a*b*c)-c*(a*a)-b*(a*a))+a*a*b-a*(b*b):=by grind
   have:=K3 (by omega) e g s t;grind
  have:=K3 (by omega) f h n o;grind
 have:=K3 (by omega) j p f0 f1;grind
theorem zD {a b c R S T:Int} (J:0<a) (D:a<=b) (E:b<=c) (f:0<=T) (z:T<=a) (j:0<=S) (I:S<=a) (o:0<=R) (y:R<=b) (M:R+S+T<=a+b):
  0<=2*(a*b*c)-R*S*T-a*(R*R)-b*(S*S)-c*(T*T):=by
 have K:0<b:=by omega
 have L:0<c:=by omega
 have N:0<=a*b*(c-a):=aeQ (aeQ (by omega) (by omega)) (by omega);have O:0<=a*b*(c-b):=aeQ (aeQ (by omega) (by omega)) (by omega);have P:0<=a*c*(b-a):=aeQ (aeQ (by omega) (by omega)) (by omega);have p:0<=S*T:=aeQ j f
 -- a larger R makes the value smaller
 have mono: ∀Q:Int,R<=Q->0<=2*(a*b*c)-Q*S*T-a*(Q*Q)-b*(S*S)-c*(T*T)->0<=2*(a*b*c)-R*S*T-a*(R*R)-b*(S*S)-c*(T*T):=fun Q n h=>by
  have r:R*(S*T)<=Q*(S*T):=aeY n p;have m:R*R<=Q*Q:=ae0 n n o (by omega);have w:=rq (by omega:0<=a) m;grind
 rcases afL a (S+T)with h|h
 ·refine mono (a+b-S-T) (by omega) ?_
  -- on the line S + T = const the value is concave
  have G:0<=S+T-a:=by omega
  have s:0<=(2*(a*b*c)-a*b*b-a*a*b)+a*b*(S+T-a)-c*((S+T-a)*(S+T-a)):=by
   refine K3 (l:=0) (u:=a) (by omega) (by omega) (by omega) ?_ ?_
   ·grind
   grind
  have t:0<=(2*(a*b*c)-a*b*b-c*a*a)+a*b*(S+T-a)-b*((S+T-a)*(S+T-a)):=by
   refine K3 (l:=0) (u:=a) (by omega) (by omega) (by omega) ?_ ?_
   ·grind
   grind
  have q: ∃g,g=S+T:=⟨_,rfl⟩;obtain⟨g,F⟩:=q;have v:S=g-T:=by omega
  rw[<- F]at s t h G;have:=K3 (A:=b+c-(a+b-g)) (B:=2*b*g-(a+b-g)*g) (C:=2*(a*b*c)-a*((a+b-g)*(a+b-g))-b*(g*g)) (l:=g-a) (u:=a) (x:=T) (by omega) (by omega) (by omega) (by grind) (by grind);subst v;grind
 refine mono b y ?_;have e:S<=a-T:=by omega
 have r:S*T<=(a-T)*T:=aeY e f;have m:S*S<=(a-T)*(a-T):=ae0 e e j (by omega);have w:=rq (by omega:0<=b) r;have H:=rq (by omega:0<=b) m;have:=K3 (A:=c) (B:=b*a) (C:=2*(a*b*c)-a*b*b-b*a*a) (l:=0) (u:=a) (x:=T) (by omega) f z (by grind) (by grind);grind
theorem mv {a b c R S T:Int} (g:0<a) (e:a<=b) (f:b<=c) (p: -a<=T/\T<=a) (o: -a<=S/\S<=a) (n: -b<=R/\R<=b)
  (h:0<=a+b+T+S+R) (j:0<=a+b+T-S-R) (l:0<=a+b-T+S-R) (m:0<=a+b-T-S+R):
  2*(a*b*c)<=4*(a*b*c)+R*S*T-a*(R*R)-b*(S*S)-c*(T*T):=by
 rcases afL T 0 with t|t<;>rcases afL S 0 with s|s<;>rcases afL R 0 with r|r
 ·have:=zD (a:=a) (b:=b) (c:=c) (R:= -R) (S:= -S) (T:= -T) g e f (by omega) (by omega) (by omega) (by omega) (by omega) (by omega) (by omega);grind
 ·have:=zE (a:=a) (b:=b) (c:=c) (R:=R) (S:= -S) (T:= -T) g e f (by omega) (by omega) (by omega) (by omega) (by omega) (by omega);grind
 ·have:=zE (a:=a) (b:=b) (c:=c) (R:= -R) (S:=S) (T:= -T) g e f (by omega) (by omega) (by omega) (by omega) (by omega) (by omega);grind
 ·have:=zD (a:=a) (b:=b) (c:=c) (R:=R) (S:=S) (T:= -T) g e f (by omega) (by omega) (by omega) (by omega) (by omega) (by omega) (by omega);grind
 ·have:=zE (a:=a) (b:=b) (c:=c) (R:= -R) (S:= -S) (T:=T) g e f (by omega) (by omega) (by omega) (by omega) (by omega) (by omega);grind
 ·have:=zD (a:=a) (b:=b) (c:=c) (R:=R) (S:= -S) (T:=T) g e f (by omega) (by omega) (by omega) (by omega) (by omega) (by omega) (by omega);grind
 ·have:=zD (a:=a) (b:=b) (c:=c) (R:= -R) (S:=S) (T:=T) g e f (by omega) (by omega) (by omega) (by omega) (by omega) (by omega) (by omega);grind
 have:=zE (a:=a) (b:=b) (c:=c) (R:=R) (S:=S) (T:=T) g e f (by omega) (by omega) (by omega) (by omega) (by omega) (by omega);grind
theorem PO {a b c x y z:Int} (j:0<a) (m:0<b) (l:0<c) (n:(-a<=x/\x<=a)/\ -b<=x/\x<=b) (o:(-a<=y/\y<=a)/\ -c<=y/\y<=c) (p:(-b<=z/\z<=b)/\ -c<=z/\z<=c)
  (h: ∀s,(s=a+b\/s=a+c\/s=b+c)->0<=s+x+y+z/\0<=s+x-y-z/\0<=s-x+y-z/\0<=s-x-y+z):
  2*(a*b*c)<=4*(a*b*c)+x*y*z-a*(z*z)-b*(y*y)-c*(x*x):=by
 obtain⟨q,r,t,u⟩:=h _ (.inl rfl);obtain⟨v,w,A,q4⟩:=h _ (.inr (.inl rfl));obtain⟨B,C,D,E⟩:=h _ (.inr (.inr rfl));rcases afF a b with e|e<;>rcases afF b c with f|f<;>rcases afF a c with g|g
 ·have:=mv (a:=a) (b:=b) (c:=c) (R:=z) (S:=y) (T:=x) j e f (by omega) (by omega) (by omega) (by omega) (by omega) (by omega) (by omega);grind
 ·have:=mv (a:=a) (b:=b) (c:=c) (R:=z) (S:=y) (T:=x) j e f (by omega) (by omega) (by omega) (by omega) (by omega) (by omega) (by omega);grind
 ·have:=mv (a:=a) (b:=c) (c:=b) (R:=z) (S:=x) (T:=y) j g f (by omega) (by omega) (by omega) (by omega) (by omega) (by omega) (by omega);grind
 ·have:=mv (a:=c) (b:=a) (c:=b) (R:=x) (S:=z) (T:=y) l g e (by omega) (by omega) (by omega) (by omega) (by omega) (by omega) (by omega);grind
 ·have:=mv (a:=b) (b:=a) (c:=c) (R:=y) (S:=z) (T:=x) m e g (by omega) (by omega) (by omega) (by omega) (by omega) (by omega) (by omega);grind
 ·have:=mv (a:=b) (b:=c) (c:=a) (R:=y) (S:=x) (T:=z) m f g (by omega) (by omega) (by omega) (by omega) (by omega) (by omega) (by omega);grind
 ·have:=mv (a:=c) (b:=b) (c:=a) (R:=x) (S:=y) (T:=z) l f e (by omega) (by omega) (by omega) (by omega) (by omega) (by omega) (by omega);grind
 have:=mv (a:=c) (b:=b) (c:=a) (R:=x) (S:=y) (T:=z) l f e (by omega) (by omega) (by omega) (by omega) (by omega) (by omega) (by omega);grind
theorem least {e:Type} (P:e->Prop) (b:e->Nat): ∀(k:Nat) (x:e),P x->b x=k-> ∃y,P y/\ ∀z,P z->b y<=b z:=fun k=>by
 induction k using Nat.strongRecOn with
 |ind k j=>
  intro x g l;by_cases h: ∃z,P z/\b z<b x
  ·obtain⟨z,c,f⟩:=h;exact j (b z) (by omega) z c rfl
  exact⟨x,g,fun z c=>af2 fun f=>h ⟨z,c,f⟩⟩
def kv (i j:Nat) (c:Int) (G:FF):Nat->Nat->Int:=fun a b=>
 if a=j then(if b=j then G j j+2*c*G i j+c*c*G i i else G j b+c*G i b)else if b=j then G a j+c*G a i else G a b
def Em (p q a:Nat):Nat:=if a=p then q else if a=q then p else a
def Yb (p q:Nat) (G:FF):Nat->Nat->Int:=fun a b=>G (Em p q a) (Em p q b)
inductive Cl (G0:FF):(Nat->Nat->Int)->Prop
 |base:Cl G0 G0
 |ad {G:FF} (i j:Nat) (c:Int):Cl G0 G->i<4->j<4->i≠j->Cl G0 (kv i j c G)
 |sw {G:FF} (p q:Nat):Cl G0 G->p<4->q<4->p≠q->Cl G0 (Yb p q G)
def q4 (G:FF) (x y z w:Int):Int:=
 G 0 0*(x*x)+G 1 1*(y*y)+G 2 2*(z*z)+G 3 3*(w*w)+2*(G 0 1*(x*y)+G 0 2*(x*z)+G 0 3*(x*w)+G 1 2*(y*z)+G 1 3*(y*w)+G 2 3*(z*w))
def m3 (a b c x y z:Int):Int:=a*b*c+2*(x*y*z)-a*(z*z)-b*(y*y)-c*(x*x)
def D3 (G:FF) (i j k:Nat):Int:=m3 (G i i) (G j j) (G k k) (G i j) (G i k) (G j k)
def d4 (G:FF):Int:=G 0 0*D3 G 1 2 3-(G 0 1*G 0 1*(G 2 2*G 3 3-G 2 3*G 2 3)+G 0 2*G 0 2*(G 1 1*G 3 3-G 1 3*G 1 3)+G 0 3*G 0 3*(G 1 1*G 2 2-G 1 2*G 1 2)
 +2*(G 0 1*G 0 2*(G 1 3*G 2 3-G 1 2*G 3 3))+2*(G 0 1*G 0 3*(G 1 2*G 2 3-G 1 3*G 2 2))+2*(G 0 2*G 0 3*(G 1 2*G 1 3-G 1 1*G 2 3)))
def sE (G:FF) (i j:Nat):Int:=G 0 0*G i j-G 0 i*G 0 j
structure ClI (D dt:Int) (G:FF):Prop where
 sm: ∀a b,G a b=G b a
 dt:d4 G=dt
 mn: ∀X:Nat->Int,(∃i,i<4/\X i≠0)->D<=q4 G (X 0) (X 1) (X 2) (X 3)
theorem ON {i:Nat} (h:i<4):i=0\/i=1\/i=2\/i=3:=by omega
theorem adD (f: ∀a e,b a e=b e a) {i:Nat} (h:i<4) (l:n<4) (g:i≠n) (c:Int) (X:Nat->Int):
  q4 (kv i n c b) (X 0) (X 1) (X 2) (X 3)=q4 b ((fun a=>if a=i then X a+c*X n else X a) 0) ((fun a=>if a=i then X a+c*X n else X a) 1) ((fun a=>if a=i then X a+c*X n else X a) 2) ((fun a=>if a=i then X a+c*X n else X a) 3):=by
 have m:=f 0 1;have o:=f 0 2;have p:=f 0 3;have q:=f 1 2;have r:=f 1 3;have s:=f 2 3
 rcases ON h with rfl|rfl|rfl|rfl<;>rcases ON l with rfl|rfl|rfl|rfl<;>first|exact absurd rfl g|(simp[kv,q4];grind)
theorem ad7 (e: ∀a c,b a c=b c a) {i:Nat} (g:i<4) (h:n<4) (f:i≠n) (X:Nat->Int):
  q4 (Yb i n b) (X 0) (X 1) (X 2) (X 3)=q4 b (X (Em i n 0)) (X (Em i n 1)) (X (Em i n 2)) (X (Em i n 3)):=by
 have l:=e 0 1;have m:=e 0 2;have o:=e 0 3;have p:=e 1 2;have q:=e 1 3;have r:=e 2 3
 rcases ON g with rfl|rfl|rfl|rfl<;>rcases ON h with rfl|rfl|rfl|rfl<;>first|exact absurd rfl f|(simp[Yb,Em,q4];grind)
theorem adC (f: ∀a e,b a e=b e a) {i:Nat} (h:i<4) (l:n<4) (g:i≠n) (c:Int):d4 (kv i n c b)=d4 b:=by
 have m:=f 0 1;have o:=f 0 2;have p:=f 0 3;have q:=f 1 2;have r:=f 1 3;have s:=f 2 3
 rcases ON h with rfl|rfl|rfl|rfl<;>rcases ON l with rfl|rfl|rfl|rfl<;>first|exact absurd rfl g|(simp[kv,d4,D3,m3];grind)
theorem ad6 (e: ∀a c,b a c=b c a) {i:Nat} (g:i<4) (h:n<4) (f:i≠n):d4 (Yb i n b)=d4 b:=by
 have l:=e 0 1;have m:=e 0 2;have o:=e 0 3;have p:=e 1 2;have q:=e 1 3;have r:=e 2 3
 rcases ON g with rfl|rfl|rfl|rfl<;>rcases ON h with rfl|rfl|rfl|rfl<;>first|exact absurd rfl f|(simp[Yb,Em,d4,D3,m3];grind)
theorem ade {a:Nat} (c:n<4) (e:m<4) (b:a<4):Em n m a<4:=by unfold Em;split<;>(try split)<;>omega
theorem aap (p q a:Nat):Em p q (Em p q a)=a:=by unfold Em;grind
theorem Cl.inv {dt:Int} (z:ClI x dt b) (h:Cl b c):ClI x dt c:=by
 induction h with
 |base=>exact z
 |ad i j g _ y t r l=>
  refine⟨fun a f=>?_,by rw[adC l.sm y t r];exact l.dt,fun X o=>?_⟩
  ·have:=l.sm;unfold kv;by_cases m:a=j<;>by_cases n:f=j
   ·rw[m,n]
   ·rw[if_pos m,if_neg n,if_neg n,if_pos m,this j f,this i f]
   ·rw[if_neg m,if_pos n,if_pos n,if_neg m,this a j,this a i]
   rw[if_neg m,if_neg n,if_neg n,if_neg m,this a f]
  rw[adD l.sm y t r];refine l.mn (fun a=>if a=i then X a+g*X j else X a) ?_;obtain⟨k,u,o⟩:=o;by_cases e:X j=0
  ·refine⟨k,u,?_⟩;show(if k=i then X k+g*X j else X k)≠0;rw[e,af1,aid];split<;>exact o
  refine⟨j,t,?_⟩;show(if j=i then X j+g*X j else X j)≠0;rw[if_neg (agv r)];exact e
 |sw p q _ v w s l=>
  refine⟨fun a f=>l.sm _ _,by rw[ad6 l.sm v w s];exact l.dt,fun X o=>?_⟩;rw[ad7 l.sm v w s];refine l.mn (fun a=>X (Em p q a)) ?_;obtain⟨k,u,o⟩:=o;exact⟨Em p q k,ade v w u,by show X (Em p q (Em p q k))≠0;rw[aap];exact o⟩
theorem ClI.diag {dt:Int} (h:ClI x dt b) {i:Nat} (c:i<4):x<=b i i:=by
 have:=h.mn (fun a=>if a=i then 1 else 0) ⟨i,c,by simp⟩;rcases ON c with rfl|rfl|rfl|rfl<;>simp[q4]at this<;>exact this
theorem ClI.d3 {dt:Int} (h:ClI x dt b) (g:0<x):0<b 0 0*b 1 1-b 0 1*b 0 1/\0<D3 b 0 1 2:=by
 have f:=h.diag (i:=0) (by omega);have c:0<b 0 0*b 1 1-b 0 1*b 0 1:=by
  have:=h.mn (fun a=>if a=0 then-b 0 1 else if a=1 then b 0 0 else 0) ⟨1,by omega,by simp;omega⟩;simp[q4]at this;have e:0<b 0 0*(b 0 0*b 1 1-b 0 1*b 0 1):=by grind
  exact ahU (a:=b 0 0) (by simpa using e) (by omega)
 refine⟨c,?_⟩;have:=h.mn (fun a=>if a=0 then b 0 1*b 1 2-b 0 2*b 1 1 else if a=1 then b 0 1*b 0 2-b 0 0*b 1 2 else if a=2 then b 0 0*b 1 1-b 0 1*b 0 1 else 0) ⟨2,by omega,by simp;omega⟩;simp[q4]at this;have e:0<(b 0 0*b 1 1-b 0 1*b 0 1)*D3 b 0 1 2:=by unfold D3 m3;grind
 exact ahU (a:=b 0 0*b 1 1-b 0 1*b 0 1) (by simpa using e) (by omega)
theorem YP {a:Int} (c:0<=a) (h:a<=x):a*a*a<=x*x*x:=
 ae0 (ae0 h h c (by omega)) h c (aeQ (by omega) (by omega))
theorem TD (g: ∀a e,b a e=b e a) {i:Nat} (h:i<3) (l:n<3) (f:i≠n) (c:Int):D3 (kv i n c b) 0 1 2=D3 b 0 1 2:=by
 have m:=g 0 1;have o:=g 0 2;have p:=g 1 2
 rcases ON (show i<4 by omega)with rfl|rfl|rfl|rfl<;>rcases ON (show n<4 by omega)with rfl|rfl|rfl|rfl<;>first|exact absurd rfl f|omega|(simp[kv,D3,m3];grind)
def t1 (G:FF):Int:=sE G 2 2*sE G 3 3-sE G 2 3*sE G 2 3
def t2 (G:FF):Int:=sE G 1 1*sE G 3 3-sE G 1 3*sE G 1 3
def t3 (G:FF):Int:=sE G 1 1*sE G 2 2-sE G 1 2*sE G 1 2
def WR (G:FF):Int:=sE G 1 3*sE G 2 3-sE G 1 2*sE G 3 3
def WS (G:FF):Int:=sE G 1 2*sE G 2 3-sE G 1 3*sE G 2 2
def WT (G:FF):Int:=sE G 1 2*sE G 1 3-sE G 1 1*sE G 2 3
def tS (S:FF):Int:=(S 2 2*S 3 3-S 2 3*S 2 3)+(S 1 1*S 3 3-S 1 3*S 1 3)+(S 1 1*S 2 2-S 1 2*S 1 2)
theorem ad9 (G:FF):m3 (t1 G) (t2 G) (t3 G) (WR G) (WS G) (WT G)=(G 0 0*G 0 0*d4 G)*(G 0 0*G 0 0*d4 G):=by
 have e:G 0 0*G 0 0*d4 G=m3 (sE G 1 1) (sE G 2 2) (sE G 3 3) (sE G 1 2) (sE G 1 3) (sE G 2 3):=by unfold sE d4 D3 m3;grind
 rw[e];unfold t1 t2 t3 WR WS WT m3;grind
theorem aah (G:FF):t1 G=G 0 0*D3 G 0 2 3/\t2 G=G 0 0*D3 G 0 1 3/\t3 G=G 0 0*D3 G 0 1 2:=by
 refine⟨?_,?_,?_⟩
 ·unfold t1 sE D3 m3;grind
 ·unfold t2 sE D3 m3;grind
 unfold t3 sE D3 m3;grind
theorem aaX {i:Nat} (l:0≠n) (h: ∀e,b i e=b e i) (c:Int) (a e:Nat):sE (kv i n c b) a e=kv i n c (sE b) a e:=by
 unfold sE kv;by_cases f:a=n<;>by_cases g:e=n
 ·subst f;subst g;simp only[if_true,if_neg l];have:=h 0;grind
 ·subst f;simp only[if_true,if_neg l,if_neg g];have:=h 0;grind
 ·subst g;simp only[if_true,if_neg l,if_neg f];have:=h 0;have:=h a;grind
 simp only[if_neg l,if_neg f,if_neg g]
theorem adS {dt:Int} (W:ClI u dt b) (hD:0<u) (af:0<dt):u*u*(u*u)<=4*dt:=by
 obtain⟨A,hA,mA⟩:=least (Cl b) (fun G=>(D3 G 0 1 2).toNat) _ b .base rfl;obtain⟨B,⟨hB,eB⟩,mB⟩:=least (fun G=>Cl b G/\D3 G 0 1 2=D3 A 0 1 2) (fun G=>(G 0 0+G 1 1+G 2 2).toNat) _ A ⟨hA,rfl⟩ rfl;obtain⟨C,hC,mC⟩:=least (Cl b) (fun G=>(G 0 0).toNat) _ b .base rfl;obtain⟨E,⟨hE,eE⟩,mE⟩:=least (fun G=>Cl b G/\G 0 0=C 0 0) (fun G=>(t1 G+t2 G+t3 G).toNat) _ C ⟨hC,rfl⟩ rfl;have iA:=hA.inv W;have J:=hB.inv W;have iC:=hC.inv W;have H:=hE.inv W;have M0:=(iA.d3 hD).2;have m0:=iC.diag (i:=0) (by omega)
 -- every diagonal entry is at least m, every minor at least M
 have dg: ∀{G:FF},Cl b G-> ∀i,i<4->C 0 0<=G i i:=fun{G} r i hi=>by
  have: ∃G',Cl b G'/\G' 0 0=G i i:=by
   by_cases e:i=0
   ·subst e;exact⟨G,r,rfl⟩
   exact⟨_,r.sw 0 i (by omega) hi (agv e),by simp[Yb,Em]⟩
  obtain⟨G',h1,h2⟩:=this;have:=mC G' h1;have h3:=(h1.inv W).diag (i:=0) (by omega);omega
 have Z: ∀{G:FF},Cl b G->D3 A 0 1 2<=D3 G 0 1 2:=fun{G} r=>by
  have:=mA G r;have h3:=((r.inv W).d3 hD).2;omega
 -- the first three vectors
 have w:C 0 0*C 0 0*C 0 0<=2*D3 A 0 1 2:=by
  have b0:=dg hB 0 (by omega);have b1:=dg hB 1 (by omega);have b2:=dg hB 2 (by omega);have s1:=J.sm 0 1;have s2:=J.sm 0 2;have s3:=J.sm 1 2;have g: ∀i j c,i<3->j<3->i≠j->B 0 0+B 1 1+B 2 2<=kv i j c B 0 0+kv i j c B 1 1+kv i j c B 2 2:=fun i j c hi Y v=>by
   have r:=hB.ad i j c (by omega) (by omega) v;have:=mB _ ⟨r,by rw[TD J.sm hi Y v];exact eB⟩;have g0:=dg r 0 (by omega);have g1:=dg r 1 (by omega);have g2:=dg r 2 (by omega);omega
  have l: ∀i k j c d,i<3->k<3->j<3->i≠j->k≠j->B 0 0+B 1 1+B 2 2<=kv k j d (kv i j c B) 0 0+kv k j d (kv i j c B) 1 1+kv k j d (kv i j c B) 2 2:=fun i k j c d hi hk Y v ab=>by
   have I:=hB.ad i j c (by omega) (by omega) v;have r:=I.ad k j d (by omega) (by omega) ab;have:=mB _ ⟨r,by rw[TD (I.inv W).sm hk Y ab,TD J.sm hi Y v];exact eB⟩;have g0:=dg r 0 (by omega);have g1:=dg r 1 (by omega);have g2:=dg r 2 (by omega);omega
  have t:=PO (a:=B 0 0) (b:=B 1 1) (c:=B 2 2) (x:=2*B 0 1) (y:=2*B 0 2) (z:=2*B 1 2) (by omega) (by omega) (by omega)
   (by
    have n:=g 0 1 1 (by omega) (by omega) (by omega);have o:=g 0 1 (-1) (by omega) (by omega) (by omega);have p:=g 1 0 1 (by omega) (by omega) (by omega);have V:=g 1 0 (-1) (by omega) (by omega) (by omega);simp[kv]at n o p V;omega)
   (by
    have n:=g 0 2 1 (by omega) (by omega) (by omega);have o:=g 0 2 (-1) (by omega) (by omega) (by omega);have p:=g 2 0 1 (by omega) (by omega) (by omega);have V:=g 2 0 (-1) (by omega) (by omega) (by omega);simp[kv]at n o p V;omega)
   (by
    have n:=g 1 2 1 (by omega) (by omega) (by omega);have o:=g 1 2 (-1) (by omega) (by omega) (by omega);have p:=g 2 1 1 (by omega) (by omega) (by omega);have V:=g 2 1 (-1) (by omega) (by omega) (by omega);simp[kv]at n o p V;omega)
   (by
    rintro s (rfl|rfl|rfl)
    ·have n:=l 0 1 2 1 1 (by omega) (by omega) (by omega) (by omega) (by omega);have o:=l 0 1 2 1 (-1) (by omega) (by omega) (by omega) (by omega) (by omega);have p:=l 0 1 2 (-1) 1 (by omega) (by omega) (by omega) (by omega) (by omega);have V:=l 0 1 2 (-1) (-1) (by omega) (by omega) (by omega) (by omega) (by omega);simp[kv]at n o p V;omega
    ·have n:=l 0 2 1 1 1 (by omega) (by omega) (by omega) (by omega) (by omega);have o:=l 0 2 1 1 (-1) (by omega) (by omega) (by omega) (by omega) (by omega);have p:=l 0 2 1 (-1) 1 (by omega) (by omega) (by omega) (by omega) (by omega);have V:=l 0 2 1 (-1) (-1) (by omega) (by omega) (by omega) (by omega) (by omega);simp[kv]at n o p V;omega
    have n:=l 1 2 0 1 1 (by omega) (by omega) (by omega) (by omega) (by omega);have o:=l 1 2 0 1 (-1) (by omega) (by omega) (by omega) (by omega) (by omega);have p:=l 1 2 0 (-1) 1 (by omega) (by omega) (by omega) (by omega) (by omega);have V:=l 1 2 0 (-1) (-1) (by omega) (by omega) (by omega) (by omega) (by omega);simp[kv]at n o p V;omega)
  have e:4*(B 0 0*B 1 1*B 2 2)+2*B 0 1*(2*B 0 2)*(2*B 1 2)-B 0 0*(2*B 1 2*(2*B 1 2))-B 1 1*(2*B 0 2*(2*B 0 2))-B 2 2*(2*B 0 1*(2*B 0 1))=4*D3 B 0 1 2:=by unfold D3 m3;grind
  rw[e,eB]at t;have c1:C 0 0*C 0 0<=B 0 0*B 1 1:=ae0 b0 b1 (by omega) (by omega);have c2:C 0 0*C 0 0*C 0 0<=B 0 0*B 1 1*B 2 2:=ae0 c1 b2 (by omega) (aeQ (by omega) (by omega));omega
 -- the dual of the first stage
 have ag:D3 A 0 1 2*D3 A 0 1 2*D3 A 0 1 2<=2*(C 0 0*(dt*dt)):=by
  have key: ∀{G:FF},Cl b G->G 0 0=C 0 0->C 0 0*D3 A 0 1 2<=t1 G/\C 0 0*D3 A 0 1 2<=t2 G/\C 0 0*D3 A 0 1 2<=t3 G:=fun{G} r e=>by
   obtain⟨e1,e2,e3⟩:=aah G;rw[e1,e2,e3,e];have sm:=(r.inv W).sm;refine⟨rq (by omega) ?_,rq (by omega) ?_,rq (by omega) (Z r)⟩
   ·have:=Z (r.sw 1 3 (by omega) (by omega) (by omega));have e:D3 (Yb 1 3 G) 0 1 2=D3 G 0 2 3:=by
     have:=sm 2 3;simp[D3,Yb,Em,m3];grind
    rw[e]at this;exact this
   have:=Z (r.sw 2 3 (by omega) (by omega) (by omega));have e:D3 (Yb 2 3 G) 0 1 2=D3 G 0 1 3:=by
    simp[D3,Yb,Em,m3]
   rw[e]at this;exact this
  have F:0<C 0 0*D3 A 0 1 2:=afa (by omega) M0;obtain⟨k1,k2,k3⟩:=key hE eE;have s1:=H.sm 1 2;have s2:=H.sm 1 3;have s3:=H.sm 2 3;have sS: ∀a f,sE E a f=sE E f a:=fun a f=>by unfold sE;rw[H.sm a f,af0 (E 0 a)]
  have f1: ∀i j c,0<j->sE (kv i j c E)=kv i j c (sE E):=fun i j c Y=>by
   funext a f;exact aaX (by omega) (fun f=>H.sm i f) c a f
  have g: ∀i j c,0<i->0<j->i<4->j<4->i≠j->tS (sE E)<=tS (kv i j c (sE E)):=fun i j c hi Y X aa v=>by
   have r:=hE.ad i j c X aa v;have e:kv i j c E 0 0=C 0 0:=by rw[<- eE];unfold kv;rw[if_neg (by omega),if_neg (by omega)]
   have h:=mE _ ⟨r,e⟩;obtain⟨g1,g2,g3⟩:=key r e;have h:t1 E+t2 E+t3 E<=t1 (kv i j c E)+t2 (kv i j c E)+t3 (kv i j c E):=by omega
   rw[<- f1 i j c Y];exact h
  have l: ∀i j k c d,0<i->0<j->0<k->i<4->j<4->k<4->i≠j->i≠k->tS (sE E)<=tS (kv i k d (kv i j c (sE E))):=fun i j k c d hi Y hk X aa ae v ac=>by
   have I:=hE.ad i j c X aa v;have r:=I.ad i k d X ae ac;have e:kv i k d (kv i j c E) 0 0=C 0 0:=by
    rw[<- eE];show(if 0=k then _ else if 0=k then _ else kv i j c E 0 0)=_;rw[if_neg (by omega),if_neg (by omega)];unfold kv;rw[if_neg (by omega),if_neg (by omega)]
   have h:=mE _ ⟨r,e⟩;obtain⟨g1,g2,g3⟩:=key r e;have f2:sE (kv i k d (kv i j c E))=kv i k d (kv i j c (sE E)):=by
    rw[<- f1 i j c Y];funext a f;exact aaX (by omega) (fun f=>(I.inv W).sm i f) d a f
   have h:t1 E+t2 E+t3 E<=t1 (kv i k d (kv i j c E))+t2 (kv i k d (kv i j c E))+t3 (kv i k d (kv i j c E)):=by omega
   rw[<- f2];exact h
  have z1:=sS 1 2;have z2:=sS 1 3;have z3:=sS 2 3;have t:=PO (a:=t1 E) (b:=t2 E) (c:=t3 E) (x:=2*WR E) (y:=2*WS E) (z:=2*WT E) (by omega) (by omega) (by omega)
   (by
    have q:=g 1 2 1 (by omega) (by omega) (by omega) (by omega) (by omega);have n:=g 1 2 (-1) (by omega) (by omega) (by omega) (by omega) (by omega);have o:=g 2 1 1 (by omega) (by omega) (by omega) (by omega) (by omega);have p:=g 2 1 (-1) (by omega) (by omega) (by omega) (by omega) (by omega);clear key g l mA mB mC mE Z dg f1;simp[kv,tS]at q n o p;unfold t1 t2 WR;generalize sE E=S at*
    clear sS k1 k2 k3 iA J iC H F w;generalize S 1 1=K at*;generalize S 1 2=L at*;generalize S 1 3=N at*;generalize S 2 1=O at*;generalize S 2 2=P at*;generalize S 2 3=Q at*;generalize S 3 1=R at*;generalize S 3 2=T at*;generalize S 3 3=U at*
    subst z1;subst z2;subst z3;refine⟨⟨?_,?_⟩,?_,?_⟩<;>first|(clear n o p;grind)|(clear q o p;grind)|(clear q n p;grind)|(clear q n o;grind))
   (by
    have q:=g 1 3 1 (by omega) (by omega) (by omega) (by omega) (by omega);have n:=g 1 3 (-1) (by omega) (by omega) (by omega) (by omega) (by omega);have o:=g 3 1 1 (by omega) (by omega) (by omega) (by omega) (by omega);have p:=g 3 1 (-1) (by omega) (by omega) (by omega) (by omega) (by omega);clear key g l mA mB mC mE Z dg f1;simp[kv,tS]at q n o p;unfold t1 t3 WS;generalize sE E=S at*
    clear sS k1 k2 k3 iA J iC H F w;generalize S 1 1=K at*;generalize S 1 2=L at*;generalize S 1 3=N at*;generalize S 2 1=O at*;generalize S 2 2=P at*;generalize S 2 3=Q at*;generalize S 3 1=R at*;generalize S 3 2=T at*;generalize S 3 3=U at*
    subst z1;subst z2;subst z3;refine⟨⟨?_,?_⟩,?_,?_⟩<;>first|(clear n o p;grind)|(clear q o p;grind)|(clear q n p;grind)|(clear q n o;grind))
   (by
    have q:=g 2 3 1 (by omega) (by omega) (by omega) (by omega) (by omega);have n:=g 2 3 (-1) (by omega) (by omega) (by omega) (by omega) (by omega);have o:=g 3 2 1 (by omega) (by omega) (by omega) (by omega) (by omega);have p:=g 3 2 (-1) (by omega) (by omega) (by omega) (by omega) (by omega);clear key g l mA mB mC mE Z dg f1;simp[kv,tS]at q n o p;unfold t2 t3 WT;generalize sE E=S at*
    clear sS k1 k2 k3 iA J iC H F w;generalize S 1 1=K at*;generalize S 1 2=L at*;generalize S 1 3=N at*;generalize S 2 1=O at*;generalize S 2 2=P at*;generalize S 2 3=Q at*;generalize S 3 1=R at*;generalize S 3 2=T at*;generalize S 3 3=U at*
    subst z1;subst z2;subst z3;refine⟨⟨?_,?_⟩,?_,?_⟩<;>first|(clear n o p;grind)|(clear q o p;grind)|(clear q n p;grind)|(clear q n o;grind))
   (by
    rintro s (rfl|rfl|rfl)
    ·have q:=l 3 1 2 1 1 (by omega) (by omega) (by omega) (by omega) (by omega) (by omega) (by omega) (by omega);have n:=l 3 1 2 1 (-1) (by omega) (by omega) (by omega) (by omega) (by omega) (by omega) (by omega) (by omega);have o:=l 3 1 2 (-1) 1 (by omega) (by omega) (by omega) (by omega) (by omega) (by omega) (by omega) (by omega);have p:=l 3 1 2 (-1) (-1) (by omega) (by omega) (by omega) (by omega) (by omega) (by omega) (by omega) (by omega);clear key g l mA mB mC mE Z dg f1;simp[kv,tS]at q n o p;unfold t1 t2 WR WS WT;generalize sE E=S at*
     clear sS k1 k2 k3 iA J iC H F w;generalize S 1 1=K at*;generalize S 1 2=L at*;generalize S 1 3=N at*;generalize S 2 1=O at*;generalize S 2 2=P at*;generalize S 2 3=Q at*;generalize S 3 1=R at*;generalize S 3 2=T at*;generalize S 3 3=U at*
     subst z1;subst z2;subst z3;refine⟨?_,?_,?_,?_⟩<;>first|(clear n o p;grind)|(clear q o p;grind)|(clear q n p;grind)|(clear q n o;grind)
    ·have q:=l 2 1 3 1 1 (by omega) (by omega) (by omega) (by omega) (by omega) (by omega) (by omega) (by omega);have n:=l 2 1 3 1 (-1) (by omega) (by omega) (by omega) (by omega) (by omega) (by omega) (by omega) (by omega);have o:=l 2 1 3 (-1) 1 (by omega) (by omega) (by omega) (by omega) (by omega) (by omega) (by omega) (by omega);have p:=l 2 1 3 (-1) (-1) (by omega) (by omega) (by omega) (by omega) (by omega) (by omega) (by omega) (by omega);clear key g l mA mB mC mE Z dg f1;simp[kv,tS]at q n o p;unfold t1 t3 WR WS WT;generalize sE E=S at*
     clear sS k1 k2 k3 iA J iC H F w;generalize S 1 1=K at*;generalize S 1 2=L at*;generalize S 1 3=N at*;generalize S 2 1=O at*;generalize S 2 2=P at*;generalize S 2 3=Q at*;generalize S 3 1=R at*;generalize S 3 2=T at*;generalize S 3 3=U at*
     subst z1;subst z2;subst z3;refine⟨?_,?_,?_,?_⟩<;>first|(clear n o p;grind)|(clear q o p;grind)|(clear q n p;grind)|(clear q n o;grind)
    have q:=l 1 2 3 1 1 (by omega) (by omega) (by omega) (by omega) (by omega) (by omega) (by omega) (by omega);have n:=l 1 2 3 1 (-1) (by omega) (by omega) (by omega) (by omega) (by omega) (by omega) (by omega) (by omega);have o:=l 1 2 3 (-1) 1 (by omega) (by omega) (by omega) (by omega) (by omega) (by omega) (by omega) (by omega);have p:=l 1 2 3 (-1) (-1) (by omega) (by omega) (by omega) (by omega) (by omega) (by omega) (by omega) (by omega);clear key g l mA mB mC mE Z dg f1;simp[kv,tS]at q n o p;unfold t2 t3 WR WS WT;generalize sE E=S at*
    clear sS k1 k2 k3 iA J iC H F w;generalize S 1 1=K at*;generalize S 1 2=L at*;generalize S 1 3=N at*;generalize S 2 1=O at*;generalize S 2 2=P at*;generalize S 2 3=Q at*;generalize S 3 1=R at*;generalize S 3 2=T at*;generalize S 3 3=U at*
    subst z1;subst z2;subst z3;refine⟨?_,?_,?_,?_⟩<;>first|(clear n o p;grind)|(clear q o p;grind)|(clear q n p;grind)|(clear q n o;grind))
  have e:4*(t1 E*t2 E*t3 E)+2*WR E*(2*WS E)*(2*WT E)-t1 E*(2*WT E*(2*WT E))-t2 E*(2*WS E*(2*WS E))-t3 E*(2*WR E*(2*WR E))=4*m3 (t1 E) (t2 E) (t3 E) (WR E) (WS E) (WT E):=by unfold m3;grind
  rw[e,ad9,H.dt,eE]at t;have c1:C 0 0*D3 A 0 1 2*(C 0 0*D3 A 0 1 2)<=t1 E*t2 E:=ae0 k1 k2 (by omega) (by omega);have c2:C 0 0*D3 A 0 1 2*(C 0 0*D3 A 0 1 2)*(C 0 0*D3 A 0 1 2)<=t1 E*t2 E*t3 E:=ae0 c1 k3 (by omega) (aeQ (by omega) (by omega));have c3:(C 0 0*C 0 0*C 0 0)*(D3 A 0 1 2*D3 A 0 1 2*D3 A 0 1 2)<=(C 0 0*C 0 0*C 0 0)*(2*(C 0 0*(dt*dt))):=by grind
  exact afe c3 (afa (afa (by omega) (by omega)) (by omega))
 -- both together
 generalize C 0 0=m at*
 generalize D3 A 0 1 2=M at*
 have c1:=YP (aeQ (aeQ (by omega) (by omega)) (by omega)) w;have c2:m*((m*m*(m*m))*(m*m*(m*m)))<=m*((4*dt)*(4*dt)):=by grind
 have c3:=afe c2 (by omega);have c4:m*m*(m*m)<=4*dt:=by
  refine afR fun h=>?_
  have h1:(4*dt)*(4*dt)<(m*m*(m*m))*(m*m*(m*m)):=Int.mul_lt_mul h (by omega) (by omega) (by omega);omega
 have c5:u*u<=m*m:=ae0 m0 m0 (by omega) (by omega);have c6:u*u*(u*u)<=m*m*(m*m):=ae0 c5 c5 (aeQ (by omega) (by omega)) (aeQ (by omega) (by omega));omega
def prdD (f:FF):Nat->Int
 |0=>1
 |k+1=>prdD f k*f k k
theorem Oi {f:FF} {n:Nat} (c:PD f n): ∀k,k<=n->dk f k<=prdD f k
 |0,_=>by rw[b8,prdD];omega
 |k+1,b=>by
  have g:=Oi c k (by omega);have e:=Cy c (eC k) (N:=f k k) (by rw[show BF n f (eC k) (eC k)=f k k from Nw b b];omega) k (by omega);rw[show BF n (bk f k) (eC k) (eC k)=bk f k k k from Nw b b]at e;rw[cB,prdD,af0 (prdD f k)];have h:f k k*dk f k<=f k k*prdD f k:=rq (by have:=c.diag b;omega) g;omega
def X6 (c:Nat->Int) (u:FF) (i j:Nat):Int:=smF (fun k=>c k*((if i<k then 0 else u k i)*(if j<k then 0 else u k j))) 4
def jT (u:FF) (k:Nat) (X:Nat->Int):Int:=smF (fun j=>(if j<k then 0 else u k j)*X j) 4
theorem acm (c:Nat->Int) (u:FF) (X:Nat->Int):q4 (X6 c u) (X 0) (X 1) (X 2) (X 3)=smF (fun k=>c k*(jT u k X*jT u k X)) 4:=by
 simp[q4,X6,jT,smF];grind
theorem acl (c:Nat->Int) (u:FF):d4 (X6 c u)=c 0*c 1*c 2*c 3*((u 0 0*u 1 1*u 2 2*u 3 3)*(u 0 0*u 1 1*u 2 2*u 3 3)):=by
 simp[d4,D3,m3,X6,smF];grind
theorem acn (c:Nat->Int) (u:FF) (a b:Nat):X6 c u a b=X6 c u b a:=by
 unfold X6;exact au 4 fun k _=>by rw[af0 (if a<k then _ else _)]
theorem QU {f : Nat -> Nat -> Int} (l : PD f 4) (v : fd f 4) : f 0 0 * f 1 1 * f 2 2 * f 3 3 <= 4 * dk f 4 := by
  have C := l.2 0 (by omega); have D := l.2 1 (by omega); have E := l.2 2 (by omega); have S := l.2 3 (by omega)
  have l0 := l.diag (i := 0) (by omega); have l1 := l.diag (i := 1) (by omega); have l2 := l.diag (i := 2) (by omega); have l3 := l.diag (i := 3) (by omega)
  have ne : ∀ t, t < 4 -> dk f (t + 1) ≠ 0 := fun t ht => by have := l.2 t ht; omega
  simp only [afm, aa] at C D E S
  -- the rows of the stages
  have Sd : ∀ k j, k < 4 -> j < k -> bk f k k j = 0 := fun k j B hj => by rw [iJ l.1 k (by omega) (fun t ht => ne t (by omega)) k j B (by omega)]; exact kX f hj k
  have li : ∀ k X, k < 4 -> smF (fun j => bk f k k j * X j) 4 = jT (fun k j => bk f k k j) k X := fun k X B => au 4 fun j _ => by
    split
    · rename_i h; rw [Sd k j B h]
    · rfl
  have dg : ∀ k, bk f k k k = dk f (k + 1) := fun k => rfl
  have R : ∀ k X, k < 4 -> dk f k * BF 4 (bk f (k + 1)) X X = dk f (k + 1) * BF 4 (bk f k) X X - jT (fun k j => bk f k k j) k X * jT (fun k j => bk f k k j) k X := fun k X B => by
    rw [<- li k X B]; exact kT l.1 l.2 X B
  have q0 : ∀ X, BF 4 (bk f 0) X X = nrm 4 f X := fun X => cf (fun i j _ _ => de f i j) (fun _ _ => rfl) (fun _ _ => rfl)
  have qe : ∀ X, BF 4 (bk f 4) X X = 0 := fun X => by
    rw [cf (f' := fun _ _ => 0) (fun i j hi _ => kX f hi j) (fun _ _ => rfl) (fun _ _ => rfl)];simp [BF, smF]
  have ord : f 0 0 <= f 1 1 /\ f 1 1 <= f 2 2 /\ f 2 2 <= f 3 3 := ⟨(v.1 0 (by omega)).1, (v.1 1 (by omega)).1, (v.1 2 (by omega)).1⟩;have M : ∀ X : Nat -> Int, X 0 ≠ 0 -> (∀ j, 0 < j -> j < 4 -> X j = 0) -> f 0 0 <= nrm 4 f X := fun X n g => oO l v (by omega) (by omega) n g
  have N : ∀ X : Nat -> Int, X 1 ≠ 0 -> (∀ j, 1 < j -> j < 4 -> X j = 0) -> f 1 1 <= nrm 4 f X := fun X n g => oO l v (by omega) (by omega) n g
  have O : ∀ X : Nat -> Int, X 2 ≠ 0 -> (∀ j, 2 < j -> j < 4 -> X j = 0) -> f 2 2 <= nrm 4 f X := fun X n g => oO l v (by omega) (by omega) n g
  have Q : ∀ X : Nat -> Int, X 3 ≠ 0 -> (∀ j, 3 < j -> j < 4 -> X j = 0) -> f 3 3 <= nrm 4 f X := fun X n g => oO l v (by omega) (by omega) n g
  have o : ∀ X k m, k < m -> (∀ j, k < j -> j < 4 -> X j = 0) -> jT (fun k j => bk f k k j) m X = 0 := fun X k m v h => by
    unfold jT;rw [au 4 (G := fun _ => 0) fun j hj => ?_]
    · simp [smF]
    · by_cases e : j < m
      · rw [if_pos e, ag2]
      · rw [h j (by omega) hj, af1]
  have du : (fun k j => bk f k k j) 0 0 * (fun k j => bk f k k j) 1 1 * (fun k j => bk f k k j) 2 2 * (fun k j => bk f k k j) 3 3 = dk f 1 * dk f 2 * dk f 3 * dk f 4 := rfl;have d0 : dk f 0 = 1 := b8 f;have k0 := fun X => R 0 X (by omega); have k1 := fun X => R 1 X (by omega); have k2 := fun X => R 2 X (by omega); have k3 := fun X => R 3 X (by omega)
  simp only [afm, aa, q0, qe, d0, ag0, af1] at k0 k1 k2 k3;generalize hu : (fun k j => bk f k k j) = u at *
  generalize dk f 1 = d1 at *
  generalize dk f 2 = d2 at *
  generalize dk f 3 = d3 at *
  generalize dk f 4 = e4 at *
  generalize f 0 0 = a at *
  generalize f 1 1 = b at *
  generalize f 2 2 = c at *
  generalize f 3 3 = d at *
  -- the value of f with a common denominator
  have val : ∀ X, nrm 4 f X * (d1 * (d1 * d2) * (d2 * d3) * (d3 * e4)) = jT u 0 X * jT u 0 X * ((d1 * d2) * (d2 * d3) * (d3 * e4)) + jT u 1 X * jT u 1 X * (d1 * (d2 * d3) * (d3 * e4)) + jT u 2 X * jT u 2 X * (d1 * (d1 * d2) * (d3 * e4)) + jT u 3 X * jT u 3 X * (d1 * (d1 * d2) * (d2 * d3)) := fun X => by
    have e0 := k0 X; have e1 := k1 X; have e2 := k2 X; have e3 := k3 X
    generalize BF 4 (bk f 1) X X = B1 at *
    generalize BF 4 (bk f 2) X X = B2 at *
    generalize BF 4 (bk f 3) X X = B3 at *
    generalize nrm 4 f X = q at *
    generalize jT u 0 X = L0 at *
    generalize jT u 1 X = L1 at *
    generalize jT u 2 X = L2 at *
    generalize jT u 3 X = L3 at *
    have U : d1 * q = B1 + L0 * L0 := by omega
    have V : d2 * B1 = d1 * B2 + L1 * L1 := by omega
    have W : d3 * B2 = d2 * B3 + L2 * L2 := by omega
    have Y : e4 * B3 = L3 * L3 := by omega
    calc q * (d1 * (d1 * d2) * (d2 * d3) * (d3 * e4)) = (d1 * q) * (d1 * d2 * (d2 * d3) * (d3 * e4)) := by grind
      _ = (d2 * B1) * (d1 * (d2 * d3) * (d3 * e4)) + L0 * L0 * ((d1 * d2) * (d2 * d3) * (d3 * e4)) := by rw [U]; grind
      _ = (d3 * B2) * (d1 * (d1 * d2) * (d3 * e4)) + L1 * L1 * (d1 * (d2 * d3) * (d3 * e4)) + L0 * L0 * ((d1 * d2) * (d2 * d3) * (d3 * e4)) := by rw [V]; grind
      _ = (e4 * B3) * (d1 * (d1 * d2) * (d2 * d3)) + L2 * L2 * (d1 * (d1 * d2) * (d3 * e4)) + L1 * L1 * (d1 * (d2 * d3) * (d3 * e4)) + L0 * L0 * ((d1 * d2) * (d2 * d3) * (d3 * e4)) := by rw [W]; grind
      _ = _ := by rw [Y]; grind
  have F : 0 < d1 * a := afa C l0;have H : 0 < d1 * d2 * b := afa (afa C D) l1;have I : 0 < d2 * d3 * c := afa (afa D E) l2;have J : 0 < d3 * e4 * d := afa (afa E S) l3;have sq : ∀ x : Int, 0 <= x * x := fun x => by
    rcases afF 0 x with h | h
    · exact aeQ h h
    · exact ae9 h h
  let s : Nat -> Int := fun k => if k = 0 then (d1 * d2 * b) * (d2 * d3 * c) * (d3 * e4 * d) else if k = 1 then (d1 * a) * (d2 * d3 * c) * (d3 * e4 * d) else if k = 2 then (d1 * a) * (d1 * d2 * b) * (d3 * e4 * d) else (d1 * a) * (d1 * d2 * b) * (d2 * d3 * c)
  have ac : ClI ((d1 * a) * (d1 * d2 * b) * (d2 * d3 * c) * (d3 * e4 * d)) (d4 (X6 s u)) (X6 s u) := by
    refine ⟨acn s u, rfl, fun X A => ?_⟩;rw [acm];have s0 := sq (jT u 0 X); have s1 := sq (jT u 1 X); have s2 := sq (jT u 2 X); have s3 := sq (jT u 3 X)
    have hv := val X;have p : ∀ lam, 0 < lam -> lam <= nrm 4 f X -> (a <= lam \/ jT u 0 X = 0) -> (b <= lam \/ jT u 1 X = 0) -> (c <= lam \/ jT u 2 X = 0) -> (d <= lam \/ jT u 3 X = 0) ->
        (d1 * a) * (d1 * d2 * b) * (d2 * d3 * c) * (d3 * e4 * d) <= smF (fun k => s k * (jT u k X * jT u k X)) 4 := fun lam hl hq Z n g r => by
      have T : ∀ (x y z P : Int), 0 <= z -> 0 <= P * P -> (x <= y \/ P = 0) -> x * (z * (P * P)) <= y * (z * (P * P)) := fun x y z P hz hP h => by
        rcases h with h | h
        · exact aeY h (aeQ hz hP)
        · rw [h]; simp
      have g0 := T a lam ((d1 * d2 * b) * (d2 * d3 * c) * (d3 * e4 * d)) (jT u 0 X) (afA (afa (afa H I) J)) s0 Z;have g1 := T b lam ((d1 * a) * (d2 * d3 * c) * (d3 * e4 * d)) (jT u 1 X) (afA (afa (afa F I) J)) s1 n;have g2 := T c lam ((d1 * a) * (d1 * d2 * b) * (d3 * e4 * d)) (jT u 2 X) (afA (afa (afa F H) J)) s2 g;have g3 := T d lam ((d1 * a) * (d1 * d2 * b) * (d2 * d3 * c)) (jT u 3 X) (afA (afa (afa F H) I)) s3 r;have gq := rq (afA (afa (afa (afa F H) I) J)) hq;have hS : smF (fun k => s k * (jT u k X * jT u k X)) 4 = (d1 * d2 * b) * (d2 * d3 * c) * (d3 * e4 * d) * (jT u 0 X * jT u 0 X) + (d1 * a) * (d2 * d3 * c) * (d3 * e4 * d) * (jT u 1 X * jT u 1 X) + (d1 * a) * (d1 * d2 * b) * (d3 * e4 * d) * (jT u 2 X * jT u 2 X) + (d1 * a) * (d1 * d2 * b) * (d2 * d3 * c) * (jT u 3 X * jT u 3 X) := by
        simp [smF, s]
      rw [hS];have ad : (d1 * a) * (d1 * d2 * b) * (d2 * d3 * c) * (d3 * e4 * d) * nrm 4 f X = a * ((d1 * d2 * b) * (d2 * d3 * c) * (d3 * e4 * d) * (jT u 0 X * jT u 0 X)) + b * ((d1 * a) * (d2 * d3 * c) * (d3 * e4 * d) * (jT u 1 X * jT u 1 X)) + c * ((d1 * a) * (d1 * d2 * b) * (d3 * e4 * d) * (jT u 2 X * jT u 2 X)) + d * ((d1 * a) * (d1 * d2 * b) * (d2 * d3 * c) * (jT u 3 X * jT u 3 X)) := by
        calc _ = (a * b * c * d) * (nrm 4 f X * (d1 * (d1 * d2) * (d2 * d3) * (d3 * e4))) := by grind
          _ = _ := by rw [hv]; grind
      refine afe (a := lam) ?_ hl;rw [ad] at gq;generalize (d1 * d2 * b) * (d2 * d3 * c) * (d3 * e4 * d) * (jT u 0 X * jT u 0 X) = P0 at *
      generalize (d1 * a) * (d2 * d3 * c) * (d3 * e4 * d) * (jT u 1 X * jT u 1 X) = P1 at *
      generalize (d1 * a) * (d1 * d2 * b) * (d3 * e4 * d) * (jT u 2 X * jT u 2 X) = P2 at *
      generalize (d1 * a) * (d1 * d2 * b) * (d2 * d3 * c) * (jT u 3 X * jT u 3 X) = P3 at *
      rw [af0 lam, ais, ais, ais];omega
    by_cases r : X 3 = 0
    · by_cases g : X 2 = 0
      · by_cases n : X 1 = 0
        · have Z : X 0 ≠ 0 := by
            obtain ⟨i, hi, A⟩ := A;rcases ON hi with rfl | rfl | rfl | rfl
            · exact A
            · exact absurd n A
            · exact absurd g A
            · exact absurd r A
          have z : ∀ j, 0 < j -> j < 4 -> X j = 0 := fun j h4 K => by
            rcases ON K with rfl | rfl | rfl | rfl
            · omega
            · exact n
            · exact g
            · exact r
          exact p a l0 (M X Z z) (.inl (by omega)) (.inr (o X 0 1 (by omega) z)) (.inr (o X 0 2 (by omega) z)) (.inr (o X 0 3 (by omega) z))
        · have z : ∀ j, 1 < j -> j < 4 -> X j = 0 := fun j h4 K => by
            rcases ON K with rfl | rfl | rfl | rfl
            · omega
            · omega
            · exact g
            · exact r
          exact p b l1 (N X n z) (.inl (by omega)) (.inl (by omega)) (.inr (o X 1 2 (by omega) z)) (.inr (o X 1 3 (by omega) z))
      · have z : ∀ j, 2 < j -> j < 4 -> X j = 0 := fun j h4 K => by
          have : j = 3 := by omega
          rw [this]; exact r
        exact p c l2 (O X g z) (.inl (by omega)) (.inl (by omega)) (.inl (by omega)) (.inr (o X 2 3 (by omega) z))
    · exact p d l3 (Q X r (fun j h4 K => by omega)) (.inl (by omega)) (.inl (by omega)) (.inl (by omega)) (.inl (by omega))
  have L : d4 (X6 s u) = ((d1 * a) * (d1 * d2 * b) * (d2 * d3 * c) * (d3 * e4 * d)) * ((d1 * a) * (d1 * d2 * b) * (d2 * d3 * c) * (d3 * e4 * d)) * ((d1 * a) * (d1 * d2 * b) * (d2 * d3 * c) * (d3 * e4 * d)) * ((d1 * d2 * d3 * e4) * (d1 * d2 * d3 * e4)) := by
    rw [acl, du];simp [s]; grind
  have w := afa (afa (afa F H) I) J;have hE := afa (afa (afa C D) E) S;have hh := adS ac w (by rw [L]; exact afa (afa (afa w w) w) (afa hE hE));rw [L] at hh;have ab := afa (afa w w) w;have hK : 0 < d1 * d2 * d3 * (d1 * d2 * d3) * e4 := afa (afa (afa (afa C D) E) (afa (afa C D) E)) S;have e1 : (d1 * a) * (d1 * d2 * b) * (d2 * d3 * c) * (d3 * e4 * d) = (d1 * d2 * d3 * (d1 * d2 * d3) * e4) * (a * b * c * d) := by grind
  have e2 : (d1 * d2 * d3 * e4) * (d1 * d2 * d3 * e4) = (d1 * d2 * d3 * (d1 * d2 * d3) * e4) * e4 := by grind
  rw [e2] at hh;generalize ae : (d1 * a) * (d1 * d2 * b) * (d2 * d3 * c) * (d3 * e4 * d) = DD at *
  have n : DD * DD * DD * DD <= DD * DD * DD * (4 * ((d1 * d2 * d3 * (d1 * d2 * d3) * e4) * e4)) := by grind
  have g := afe n ab;rw [e1] at g;have r : (d1 * d2 * d3 * (d1 * d2 * d3) * e4) * (a * b * c * d) <= (d1 * d2 * d3 * (d1 * d2 * d3) * e4) * (4 * e4) := by grind
  exact afe r hK
theorem Uq (f:FF) (b:SymF f 3):dk f 3=D3 f 0 1 2:=by
 have c:=b 0 (by omega) 1 (by omega);have e:=b 0 (by omega) 2 (by omega);have g:=b 1 (by omega) 2 (by omega)
 simp[dk,om,eH,jc,D3,m3];grind
theorem MM {f:FF} (h:PD f 3) (l:fd f 3):f 0 0*f 1 1*f 2 2<=2*dk f 3:=by
 have l0:=h.diag (i:=0) (by omega);have l1:=h.diag (i:=1) (by omega);have B:=h.diag (i:=2) (by omega)
 have r:=(l.1 0 (by omega)).1;have s:=(l.1 1 (by omega)).1
 have C:=h.1 0 (by omega) 1 (by omega);have D:=h.1 0 (by omega) 2 (by omega);have E:=h.1 1 (by omega) 2 (by omega)
 have p:=oN h.1 l (i:=0) (j:=1) (by omega) (by omega);have q:=oN h.1 l (i:=0) (j:=2) (by omega) (by omega);have m:=oN h.1 l (i:=1) (j:=2) (by omega) (by omega);have g: ∀e d:Int,(e=1\/e= -1)->(d=1\/d= -1)->0<=f 0 0+f 1 1+e*d*(2*f 0 1)+e*(2*f 0 2)+d*(2*f 1 2):=fun e d o n=>by
  have:=xA l (i:=2) (by omega) (x:=fun j=>if j=0 then e else if j=1 then d else if j=2 then 1 else 0)
   (fun j A=>by have:j=0\/j=1:=(by omega);rcases this with rfl|rfl<;>simp<;>omega) (by simp) (fun j y z=>by omega)
  simp[nrm,BF,smF]at this;rcases o with rfl|rfl<;>rcases n with rfl|rfl<;>omega
 have t:=g 1 1 (.inl rfl) (.inl rfl);have u:=g 1 (-1) (.inl rfl) (.inr rfl);have v:=g (-1) 1 (.inr rfl) (.inl rfl);have w:=g (-1) (-1) (.inr rfl) (.inr rfl)
 have:=mv (a:=f 0 0) (b:=f 1 1) (c:=f 2 2) (R:=2*f 1 2) (S:=2*f 0 2) (T:=2*f 0 1) l0 r s p q m (by omega) (by omega) (by omega) (by omega);rw[Uq f h.1];unfold D3 m3;grind
theorem W9 (c:PD b 2) (e:fd b 2):3*(b 0 0*b 1 1)<=4*dk b 2:=by
 have l0:=c.diag (i:=0) (by omega);have l:=(e.1 0 (by omega)).1;have m:=c.1 0 (by omega) 1 (by omega);have g:=oN c.1 e (i:=0) (j:=1) (by omega) (by omega);rw[La,<- m];have n:(2*b 0 1)*(2*b 0 1)<=b 0 0*b 0 0:=by
  rcases afF 0 (b 0 1)with h|h
  ·exact ae0 g.2 g.2 (by omega) (by omega)
  have:(-(2*b 0 1))*(-(2*b 0 1))<=b 0 0*b 0 0:=ae0 (by omega) (by omega) (by omega) (by omega);grind
 have o:=rq (by omega:0<=b 0 0) l;grind
def ovL (n:Nat):Int:=[1,4,2,4].getD (n-1) 0
def udL (n:Nat):Int:=[1,3,1,1].getD (n-1) 0
theorem Je (g:1<=n) (h:n<=4) (c:PD b n) (e:fd b n):dk b n<=prdD b n/\udL n*prdD b n<=ovL n*dk b n:=by
 refine⟨Oi c n (aeJ n),?_⟩;have:n=1\/n=2\/n=3\/n=4:=by omega
 rcases this with rfl|rfl|rfl|rfl
 ·simp[udL,ovL,prdD,dk,om,eH,jc]
 ·have:=W9 c e;simp[udL,ovL,prdD];exact this
 ·have:=MM c e;simp[udL,ovL,prdD];exact this
 have:=QU c e;simp[udL,ovL,prdD];exact this
section
section
variable {M:List (List Int)} {n:Nat} {f:FF} {B:Int}
theorem acy (b:Rf M n f) (g:n<=4) (q:0<=dN f n) (s:dN f n<=65536): ∃p,PD p n/\fd p n/\dk p n=dk f n/\(grS n (dJ f n (dN f n)) []).map Prod.fst=aA n fun i=>p i i:=by
 obtain⟨R,c,_,v,t⟩:=lJ b.n1 g b.r;have C:=Wa g c;obtain⟨T,x,o⟩:=nc c;have l:=v.pd b.r.pd;have m:=fun i j e h=>(o i j e h).symm
 have y:=l.det;have A:=b.r.pd.det;refine⟨_,l,t,by omega,?_⟩;rw[bG (g':=fun i=>bY n f T i i) fun i e=>(o i i e e).symm];exact lI (B:=dN f n) g (l.congr m) (t.congr m) x (th f n _) (uv b q s) (fun z w u=>ut b q s z w u) fun j h=>xk n j h
theorem Zo (o:Rf M n f) (u:n<=4) (y:0<=dN f n) (l:dN f n<=65536) {g:Nat->Nat} (D: ∀i,i<n->g i<n) (q: ∀i j,i<n->j<n->g i=g j->i=j)
  (L: ∀i j,i<=j->j<n->f (g i) (g i)<=f (g j) (g j)) {i:Nat} (p:i<n):((grS n (dJ f n (dN f n)) []).map Prod.fst).getD i 0<=f (g i) (g i):=by
 obtain⟨R,v,_,I,C⟩:=lJ o.n1 u o.r;obtain⟨T,F,G⟩:=nc v;have E:=I.pd o.r.pd;have s:=fun i j p w=>(G i j p w).symm
 have K:=lI (B:=dN f n) u (E.congr s) (C.congr s) F (th f n _) (uv o y l) (fun z N H=>ut o y l z N H) fun j w=>xk n j w
 rw[K,show(List.range n).map (fun i=>bY n f T i i)=aA n fun i=>bY n f T i i from rfl,aeM,aw _ p];show bY n f T i i<=_;refine afR fun P=>?_
 have:=xo (h:=f) (t:=T) (m:=i+1) (X:=fun a=>eC (g a)) u (E.congr s) (C.congr s) F p (fun c J a A=>by
  have l:=J (g a) (D a (by omega));rw[gD A fun b O x=>by
   show c b*eC (g b) (g a)=0;unfold eC;rw[if_neg fun e=>x (q a b (by omega) (by omega) e).symm,af1]]at l
  change c a*eC (g a) (g a)=0 at l
  unfold eC at l;rw[if_pos rfl,ait]at l;exact l) fun a A=>by
   have l:=L a i (by omega) p;have:nrm n f (eC (g a))=f (g a) (g a):=mX (D a (by omega));omega
 omega
end
end
def nbF (f:Nat->Int) (j:Nat):Nat->Int:=fun i=>if i=j+1 then f j else if i=j then f (j+1)else f i
def inF (f:Nat->Int):Nat->Nat->Int
 |0=>f
 |j+1=>if f (j+1)<f j then inF (nbF f j) j else f
def soF (f:Nat->Int):Nat->Nat->Int
 |0=>f
 |k+1=>inF (soF f k) (k+1)
def Yo (n:Nat) (f g:Nat->Int):Prop:= ∃b:Nat->Nat,(∀i,i<n->b i<n)/\(∀i j,i<n->j<n->b i=b j->i=j)/\ ∀i,i<n->g i=f (b i)
theorem Yo.refl (n:Nat) (f:Nat->Int):Yo n f f:=⟨fun i=>i,fun _ h=>h,fun _ _ _ _ h=>h,fun _ _=>rfl⟩
theorem Yo.sw {f g:Nat->Int} (h:Yo n f g) (l:m+1<n):Yo n f (nbF g m):=by
 obtain⟨c,r,e,s⟩:=h;refine⟨fun i=>if i=m+1 then c m else if i=m then c (m+1)else c i,fun i v=>?_,fun a b t u=>?_,fun i v=>?_⟩
 ·show(if i=m+1 then c m else if i=m then c (m+1)else c i)<n;have o:=r m (by omega);have p:=r (m+1) l;have q:=r i v;split
  ·exact o
  split
  ·exact p
  exact q
 ·show(if a=m+1 then c m else if a=m then c (m+1)else c a)=(if b=m+1 then c m else if b=m then c (m+1)else c b)->a=b;have o:=e m (m+1) (by omega) l;have p:=e m a (by omega) t;have q:=e m b (by omega) u;have q4:=e (m+1) a l t;have w:=e (m+1) b l u;have x:=e a b t u;split<;>split<;>(try split)<;>(try split)<;>intro h<;>first|omega|(have:=o h;omega)|(have:=o h.symm;omega)|(have:=p h;omega)|(have:=p h.symm;omega)|(have:=q h;omega)|(have:=q h.symm;omega)|(have:=q4 h;omega)|(have:=q4 h.symm;omega)|(have:=w h;omega)|(have:=w h.symm;omega)|(have:=x h;omega)
 show(if i=m+1 then g m else if i=m then g (m+1)else g i)=f (if i=m+1 then c m else if i=m then c (m+1)else c i);split
 ·exact s m (by omega)
 split
 ·exact s (m+1) l
 exact s i v
theorem aa6 {n:Nat} {f:Nat->Int}: ∀(j:Nat) (g:Nat->Int),j<n->Yo n f g->Yo n f (inF g j)
 |0,g,_,h=>h
 |j+1,g,b,h=>by
  unfold inF;split
  ·exact aa6 j _ (Nat.lt_of_succ_lt b) (h.sw b)
  exact h
theorem abk {n:Nat} (f:Nat->Int): ∀k,k<n->Yo n f (soF f k)
 |0,_=>Yo.refl n f
 |k+1,h=>aa6 (k+1) _ h (abk f k (Nat.lt_of_succ_lt h))
theorem UW {i:Nat}: ∀(j:Nat) (g:Nat->Int),j<=i->(∀a b,a<b->b<=i->b≠j->g a<=g b)-> ∀a b,a<b->b<=i->inF g j a<=inF g j b
 |0,g,_,h=>fun a b c m=>h a b c m (by omega)
 |j+1,g,s,h=>by
  unfold inF;split
  ·rename_i q;refine UW j _ (by omega) fun a b c m n=>?_
   unfold nbF;have o:=fun a l=>h a b l m
   have r:=h a j;have t:=fun b l=>h (j+1) b l
   have q4:=fun b l=>h j b l
   by_cases e:b=j+1
   ·subst e;rw[if_pos rfl,if_neg (by omega)];by_cases f:a=j
    ·rw[if_pos f];omega
    rw[if_neg f];exact r (by omega) (by omega) (by omega)
   rw[if_neg e,if_neg n];by_cases f:a=j+1
   ·rw[if_pos f];exact o j (by omega) e
   rw[if_neg f];by_cases p:a=j
   ·rw[if_pos p];exact o (j+1) (by omega) e
   rw[if_neg p];exact o a c e
  rename_i q;intro a b c m;by_cases e:b=j+1
  ·subst e;by_cases f:a=j
   ·rw[f];omega
   exact aie (h a j (by omega) (by omega) (by omega)) (by omega)
  exact h a b c m e
theorem WA (f:Nat->Int): ∀k a b,a<b->b<=k->soF f k a<=soF f k b
 |0,a,b,h,c=>by omega
 |k+1,a,b,h,c=>UW (k+1) _ (aeJ _) (fun a b e g j=>WA f k a b e (by omega)) a b h c
theorem OD (a:Int):CallC prog 220 [.raw (.int .i64 a)] ⟨[],.raw (.bool false)⟩:=by
 refine aB func220 rfl ntmps220 (aE (k:=ax (k:=aI @results220)))
theorem acs (a b:Int):CallC prog 181 [.raw (.int .i64 a),.raw (.int .i64 b)] ⟨[],.raw (.bool (decide (a<b)))⟩:=by
 have c:=OD a;have e:=OD b;refine aB func181 rfl ntmps181 (aE (k:=bD [⟨1,_,_,_,c⟩,⟨4,_,_,_,e⟩] (k:=aI @results181)))
theorem Fu (n j:Nat) (g:Nat->Int) (v:Int):(lc fI (aA n g)).set j [.p (.raw (.int .i64 v))]=lc fI (aA n (fun b=>if b=j then v else g b)):=by
 rw[<- lQ,<- tW];rfl
theorem Vd (n j:Nat) (g:Nat->Int):((lc fI (aA n g)).set (j+1) [.p (.raw (.int .i64 (g j)))]).set j [.p (.raw (.int .i64 (g (j+1))))]=lc fI (aA n (nbF g j)):=by
 rw[Fu,Fu]
 congr 2
 funext b;unfold nbF;by_cases c:b=j
 ·rw[if_pos c,if_neg (by omega),if_pos c]
 rw[if_neg c];by_cases e:b=j+1
 ·rw[if_pos e,if_pos e]
 rw[if_neg e,if_neg e,if_neg c]
structure OsG (n:Nat) where
 i:Nat
 h1:1<=i
 h:i<=n
structure IsG (f:Nat->Int) (i:Nat) where
 j:Nat
 g:Nat->Int
 hj:j<=i
 e:inF g j=soF f i
theorem Q4 (n:Nat) (f:Nat->Int) (w:0<n) (D:n<=1000000):
  im prog 175 [.undef,.raw (.int .i64 0),.raw (.int .i64 (n:Int))] 0 0 n ⟨3,1,lc fI (aA n f)⟩ ⟨3,1,lc fI (aA n (soF f (n-1)))⟩ (.tup []):=by
 refine oC func175 rfl (by kernel_rfl) (by simp) w (by simp[lc,az]) (cd _ _) rfl (by simp[lc,az]) (cd _ _) rfl (lu ?_);rw[ntmps175];refine Ty (k:=?_);refine dT (G:=OsG n) (fun g=>⟨(.one (.sl 0 0 0 n)::.raw (.int .i64 0)::rN n::jk::jk::jk::rN g.i::j16 (j16 (j4 (j4 (jk::jk::[]))))),Hm [(0,[⟨3,1,lc fI (aA n (soF f (g.i-1)))⟩])]⟩) (fun _=>()) (fun g=>n-g.i) ⟨1,by omega,by omega⟩ ?_ rfl ?_
 ·refine ak ⟨rfl,trivial⟩ ?_;simp[wk]
 rintro⟨i,z,A⟩;simp only;by_cases C:i<n
 ·have t:(i:Int)+1=((i+1:Nat):Int):=by omega
  have u:soF f i=inF (soF f (i-1)) i:=by
   obtain⟨k,rfl⟩: ∃k,i=k+1:=⟨i-1,by omega⟩;rfl
  refine aR (bU (k:=d8 rfl (cb (aR (cQ (bU (k:=?_)))))));refine dT (G:=IsG f i) (fun g=>⟨(.one (.sl 0 0 0 n)::.raw (.int .i64 0)::rN n::jk::jk::jk::rN i::rN g.j::j16 (j16 (j4 (j4 (jk::[]))))),Hm [(0,[⟨3,1,lc fI (aA n g.g)⟩])]⟩) (fun _=>()) (fun g=>g.j) ⟨i,soF f (i-1),aeJ _,u.symm⟩ ?_ rfl ?_
  ·refine ak ⟨rfl,trivial⟩ ?_;simp[wk]
  rintro⟨j,g,B,c⟩;simp only;cases j with
  |zero=>
   refine aR (tA bZ (by kernel_rfl) (by kernel_rfl) fun _ K=>?_);simp(disch:=omega) only[kd,aa];apply K;refine dO rfl (gV ?_);obtain rfl:g=soF f i:=c;show eF _ _ _ _ _ _ _;refine eF.weak (ak (tm:=(.one (.sl 0 0 0 n)::.raw (.int .i64 0)::rN n::jk::jk::jk::rN i::j16 (j16 (j4 (j4 (jk::jk::[])))))) (l:=[(0,[⟨3,1,lc fI (aA n (soF f i))⟩])]) ⟨rfl,trivial⟩ (by simp[wk])) ?_;refine jW t (k:=?_);refine⟨⟨i+1,by omega,by omega⟩,by show n-(i+1)<n-i;omega,ak ⟨rfl,trivial⟩ ?_,trivial⟩;simp[wk]
  |succ j=>
   have p:=aw (m:=n) g (j:=j+1) (by omega);have q:=aw (m:=n) g (j:=j) (by omega);have h:((j+1:Nat):Int)-1=(j:Int):=by omega
   have e:=acs (g (j+1)) (g j);obtain⟨G,r⟩: ∃G,G=fun b=>if b=j+1 then g j else g b:=⟨_,rfl⟩
   have s:=Fu n (j+1) g (g j);have sw:=Vd n j g;rw[s,<- r]at sw;rw[<- r]at s;have v:=aw (m:=n) G (j:=j) (by omega);clear r;unfold inF at c;by_cases o:g (j+1)<g j
   ·rw[decide_eq_true o]at e;rw[if_pos o]at c;generalize g (j+1)=y at*
    generalize g j=x at*
    refine aR (ov bZ [⟨13,_,_,_,e⟩] [] (by kernel_rfl) (by kernel_rfl) fun _ K=>?_);simp(disch:=omega) only[kd,aa,p,h,aH,q];apply K;refine d8 rfl (cb ?_);show eF _ _ _ _ _ _ _;refine aR (cQ ?_);refine KB bZ (by kernel_rfl) (by kernel_rfl) fun _ K=>?_;simp(disch:=omega) only[kd,aa,h,aH,q,p,s,v,sw];apply K
    show eF _ _ _ _ _ _ _;refine jW h (k:=?_);refine⟨⟨j,nbF g j,by omega,c⟩,by simp,ak ⟨rfl,trivial⟩ ?_,trivial⟩;simp[wk]
   rw[decide_eq_false o]at e;rw[if_neg o]at c;generalize g (j+1)=y at*
   generalize g j=x at*
   refine aR (ov bZ [⟨13,_,_,_,e⟩] [] (by kernel_rfl) (by kernel_rfl) fun _ K=>?_);simp(disch:=omega) only[kd,aa,p,h,aH,q];apply K;refine dO rfl (gV ?_);obtain rfl:g=soF f i:=c;show eF _ _ _ _ _ _ _;refine eF.weak (ak (tm:=(.one (.sl 0 0 0 n)::.raw (.int .i64 0)::rN n::jk::jk::jk::rN i::j16 (j16 (j4 (j4 (jk::jk::[])))))) (l:=[(0,[⟨3,1,lc fI (aA n (soF f i))⟩])]) ⟨rfl,trivial⟩ (by simp[wk])) ?_;refine jW t (k:=?_);refine⟨⟨i+1,by omega,by omega⟩,by show n-(i+1)<n-i;omega,ak ⟨rfl,trivial⟩ ?_,trivial⟩;simp[wk]
 refine aR (bU (k:=dO rfl (gV ?_)));obtain rfl:i=n:=by omega
 refine⟨.inl rfl,_,bN.refl _,rfl,eZ _,?_⟩;simp(disch:=omega) only[kd,results175]
theorem CK (F G:List OObj):aK (famH 0 F) 0 G=famH 0 G:=by
 funext a;unfold aK famH;split<;>simp_all
theorem aco (a:Int) (c:0<=a) (e:a<=4611686018427387904):CallC prog 127 [.raw (.int .u64 a)] ⟨[],.raw (.int .i64 (Lib.bitLen a.toNat:Int))⟩:=by
 have b:=ID a c e;refine aB func127 rfl ntmps127 (aE (k:=aj (aq rfl (al (bu [⟨1,_,_,_,b⟩] (k:=aI @results127))))))
theorem ad0 (n:Nat) (f:Nat->Int) (l:Int) (c:0<n) (g:n<=12):
  im prog 126 [.undef,.raw (.int .i64 0),.raw (.int .i64 (n:Int)),.raw (.int .i64 l)] 0 0 n ⟨3,1,lc fI (aA n f)⟩ ⟨3,1,lc fI (aA n (soF f (n-1)))⟩ (.tup []):=by
 have e:=Q4 n f c (by omega);refine oC func126 rfl (by kernel_rfl) (by simp) c (by simp[lc,az]) (cd _ _) rfl (by simp[lc,az]) (cd _ _) rfl (lu ?_);rw[ntmps126];refine Ty (k:=bU (k:=?_));refine dT (G:=Unit) (fun _=>⟨(.one (.sl 0 0 0 n)::.raw (.int .i64 0)::rN n::.raw (.int .i64 l)::j16 (j16 (j16 (j16 (j16 (j16 (j16 (j16 (jk::jk::[]))))))))),Hm [(0,[⟨3,1,lc fI (aA n f)⟩])]⟩) (fun _=>()) (fun _=>0) () ?_ rfl ?_
 ·refine ak ⟨rfl,trivial⟩ ?_;simp[wk]
 rintro⟨⟩;simp only;refine cQ (dh @aiU (k:=aR (bU (k:=d8 rfl (KD 3 e 0 0 [] [] (by kernel_rfl) (by simp[wk]) c (jD rfl) (cd _ _) (by simp[wk]) fun K b=>?_)))));simp only[kd,aa];apply b;clear b K;refine⟨⟨rfl,rfl⟩,?_⟩;intro K b;simp only[kd,aa,Im,cwD];apply b;clear b K;refine dX ⟨.inr rfl,_,bN.refl _,rfl,CK _ _,?_⟩;simp(disch:=omega) only[kd,results126]
theorem acU (n:Nat) (f:Nat->Int) (c:0<n) (j:n<=12):
  im prog 71 [.undef] 0 0 n ⟨3,1,lc fI (aA n f)⟩ ⟨3,1,lc fI (aA n (soF f (n-1)))⟩ (.tup []):=by
 have e:=aco (n:Int) (by omega) (by omega);obtain⟨l,h⟩: ∃l:Int,l=(Lib.bitLen (n:Int).toNat:Int):=⟨_,rfl⟩;rw[<- h]at e;have g:=ad0 n f l c j;refine oC func71 rfl (by kernel_rfl) (by simp) c (by simp[lc,az]) (cd _ _) rfl (by simp[lc,az]) (cd _ _) rfl (lu ?_);rw[ntmps71];refine Ty (k:=pw 5 g 0 0 [⟨4,_,_,_,e⟩] [] (by kernel_rfl) (by simp[wk]) c (jD rfl) (cd _ _) (by simp[wk]) fun K b=>?_);simp(disch:=omega) only[kd,aa,eD];apply b;clear b K;refine⟨⟨rfl,rfl⟩,?_⟩;intro K b;simp only[kd,aa,Im,cwD];apply b;clear b K;refine⟨.inl rfl,_,bN.refl _,rfl,CK _ _,?_⟩;simp(disch:=omega) only[kd,results71]
theorem acp (n:Nat) (f:Nat->Int) (c:0<n) (g:n<=12):
  im prog 32 [.undef] 0 0 n ⟨3,1,lc fI (aA n f)⟩ ⟨3,1,lc fI (aA n (soF f (n-1)))⟩ (.tup []):=by
 have e:=acU n f c g;refine oC func32 rfl (by kernel_rfl) (by simp) c (by simp[lc,az]) (cd _ _) rfl (by simp[lc,az]) (cd _ _) rfl (lu ?_);rw[ntmps32];refine pw 1 e 0 0 [] [] (by kernel_rfl) (by simp[wk]) c (jD rfl) (cd _ _) (by simp[wk]) fun K b=>?_
 simp only[kd,List.replicate];apply b;clear b K;refine⟨⟨rfl,rfl⟩,?_⟩;intro K b;simp only[kd,aa,Im,cwD,famH];apply b;clear b K;refine⟨.inl rfl,_,bN.refl _,rfl,CK _ _,?_⟩;simp(disch:=omega) only[kd,results32]
section
section
variable {M:List (List Int)} {n:Nat} {f:FF}
structure aei (n:Nat) (f p:FF):Prop where
 v: ∀i,i<n->1<=p i i/\p i i<=36/\p i i<=soF (fun i=>f i i) (n-1) i/\soF (fun i=>f i i) (n-1) i<=36
 a: ∀i,i+1<n->p i i<=p (i+1) (i+1)
 b: ∀k,k<=n->1<=prdD p k/\prdD p k<=46656
 d:0<dk f n/\dk f n<=prdD p n/\udL n*prdD p n<=ovL n*dk f n
theorem bds (g:Rf M n f) (O:n<=3) (D: ∀i,i<n->f i i<=36) (s:0<=dN f n) (t:dN f n<=65536): ∃p,aei n f p/\(grS n (dJ f n (dN f n)) []).map Prod.fst=aA n fun i=>p i i:=by
 have l:=g.n1;obtain⟨p,x,w,e,el⟩:=acy g (by omega) s t;obtain⟨o,q⟩:=Je l (by omega) x w;obtain⟨c,z,K,m⟩:=abk (n:=n) (fun i=>f i i) (n-1) (by omega);have C:=WA (fun i=>f i i) (n-1);have v: ∀i,i<n->1<=p i i/\p i i<=36/\p i i<=soF (fun i=>f i i) (n-1) i/\soF (fun i=>f i i) (n-1) i<=36:=fun i b=>by
  have y:=Zo g (by omega) s t z K (fun i j E F=>by
   by_cases h:i=j
   ·rw[h];exact afY _
   have:=C i j (by omega) (by omega);rw[m i (by omega),m j F]at this;exact this) b
  rw[el,aeM,aw _ b]at y
  change p i i<=f (c i) (c i)at y
  have P:=D (c i) (z i b);have Q:=x.diag b;have q4:=m i b
  change _=f (c i) (c i)at q4
  rw[q4];omega
 have d0:=g.r.pd.det;rw[e]at o q;refine⟨p,⟨v,fun i b=>(w.1 i b).1,?_,d0,o,q⟩,el⟩;have J: ∀k,k<=n->1<=prdD p k/\prdD p k<=36^k:=fun k=>by
  induction k with
  |zero=>intro _;exact⟨afY _,afY _⟩
  |succ k I=>
   intro u;obtain⟨G,H⟩:=I (by omega);obtain⟨L,N,_⟩:=v k (by omega);show 1<=prdD p k*p k k/\prdD p k*p k k<=36^(k+1);rw[Int.pow_succ];exact⟨by have:=ae0 G L (by omega) (by omega);omega,ae0 H N (by omega) (by omega)⟩
 intro k u;obtain⟨A,B⟩:=J k u;refine⟨A,aie B ?_⟩;have:k=0\/k=1\/k=2\/k=3:=by omega
 rcases this with rfl|rfl|rfl|rfl<;>decide
end
end
theorem RQ (i:Nat) (g:Nat->Int):aA i g++[g i]=aA (i+1) g:=by
 unfold aA;rw[afH,afv];rfl
theorem IR (q o:Nat) (L B:List Int) (hL:I8 L) (C:q<=255) (w:o<=255):CallC prog 13 [tL q o L B] ⟨[],.raw (.bool true)⟩:=by
 have cA:=oA;obtain⟨n,hn⟩: ∃n,n=1+q%3:=⟨_,rfl⟩;have e:1<=n:=by omega
 have Q:n<=3:=by have:=afp q (show 0<3 by omega);omega
 obtain⟨h,T,z,W⟩:=zM o L e (by omega);have cF:=uE q o L B 3 n h T hL C w (by omega) (by omega) hn z W;rw[show((3:Nat):Int)=3 from rfl]at cF;have x:=sJ e (by omega) z;have A: ∀i,i<n->ent (mat n n h) i i<=36:=fun i c=>by rw[mj h c c];exact Ov e Q z W i c
 have S: ∀i j,i<n->j<n-> -262144<=h i j/\h i j<=262144:=fun i j c u=>by have:=iZ e (by omega) z i c j u;omega
 have cO:=Ku n n h e (by omega) e (by omega) (fun i j c u=>by have:=S i j c u;constructor<;>omega);have cT:=gm n h e (by omega) (fun i j c u=>kA (by have:=S i j c u;omega) (by omega));rw[ip (fun t ht=>by have:=z.2.1 t (by omega);omega),<- cy (f:=ent (mat n n h)) (g:=h) fun i j c u=>mj h c u]at cT;have I: ∀i,i<n-> ∃r,(mat n n h)[i]?=some r/\r[i]?=some (ent (mat n n h) i i):=fun i c=>⟨_,bA n h c,by rw[mj h c c];exact aw (h i) c⟩
 clear S;generalize mat n n h=M at*
 clear z W;generalize ent M=f at*
 obtain⟨U,P⟩:=yn (by omega) A;have cM:=(Bl x Q A (k:=20000) (by omega) (by omega)).1 (by have:=rP (x.vs U (by omega)) e Q P;omega);obtain⟨p,y,el⟩:=bds x Q A U (by omega);rw[el]at cM;have s:=x.l;have D:=az n fun i=>p i i
 obtain⟨ad,Y,Z⟩:=y.d;have pb:=y.b n (aeJ _);have cI:=nt (dk f n) ((show ju (dk f n) by constructor<;>omega).sz (by omega));rw[show kK (dk f n)= .tup [(false,[.p (.raw (.int .i64 (dk f n)))]),(false,[.p (.raw (.bool true))])]from if_pos ⟨by omega,by omega⟩]at cI;have cS:=acp n (fun i=>f i i) (by omega) (by omega);have ab: ∀i,i<n-> -9223372036854775808<=f i i/\f i i<=9223372036854775807:=fun i c=>by have:=A i c;have:=x.r.pd.diag c;omega
 clear el x A U P;generalize J:soF (fun i=>f i i) (n-1)=sd at*
 have hv:=y.v;rw[J]at hv;have ha:=y.a;have hb:=y.b;clear y J;refine aB func13 rfl ntmps13 (je @tL.eq_1 (k:=fJ [⟨1,_,_,_,cF⟩] @tL.eq_1 (k:=bu [⟨1,_,_,_,cM⟩] (k:=aj (ax (k:=aq rfl (al (aj (aF (aG D s) (k:=aq rfl (al (aZ (k:=aj (d9 s (k:=?_)))))))))))))));refine ay (G:=fp n) (fun g=>⟨(jk::jk::jk::bV M::d7 (aA n fun i=>p i i)::jk::jk::jk::.one (.sl 58 0 0 g.i)::j16 (j16 (j4 (.raw (.int .i64 (n:Int))::rN g.i::j16 (j16 (j16 (j16 (j16 (j4 (jk::jk::[])))))))))),Hm [(58,[⟨3,1,lc fI (aA g.i fun i=>f i i)⟩])]⟩) (fun g=>n-g.i) ⟨0,by omega⟩ ?_ ?_
 ·refine(ca (k:=8) (d:=58) 3 1 (by omega) rfl rfl).trans (ak ⟨rfl,trivial⟩ ?_);simp[wk]
 rintro⟨i,c⟩;simp only;by_cases F:i<n
 ·have O:(i:Int)+1=((i+1:Nat):Int):=by omega
  obtain⟨r,q1,q2⟩:=I i F;have E:=j6 (aA i fun i=>f i i) (f i i);rw[RQ i fun i=>f i i]at E;have X:=az i fun i=>f i i
  generalize f i i=v at*
  refine ax (k:=aP rfl (aj (ao (aZ (k:=dz (aG q1 (aG q2 (aG X E))) (k:=dz O (k:=?_)))))));refine⟨⟨i+1,by omega⟩,by simp only;omega,ak ⟨rfl,trivial⟩ ?_⟩;simp[wk]
 obtain rfl:i=n:=by omega
 refine ax (k:=aQ rfl ?_);show bv _ _ _ _;have ac:=az i sd
 (refine EH 1 cS 58 0 [] [] (by simp[wk]) (by omega) (jD rfl) (cd _ _) (by decide) fun K V=>?_;simp only[kd];apply V;refine⟨⟨rfl,rfl⟩,?_⟩;intro K V;simp only[kd,aa,Im,cwD];apply V)
 refine aZ (k:=aj (d9 D (k:=?_)));refine ay (G:=fp i) (fun g=>⟨(jk::jk::jk::bV M::d7 (aA i fun i=>p i i)::jk::jk::jk::.one (.sl 58 0 0 i)::jk::.raw (.int .i64 (prdD p g.i))::j16 (j16 (j16 (j4 (.raw (.int .i64 (i:Int))::rN g.i::j16 (j16 (j16 (j16 (j4 ([])))))))))),Hm [(58,[⟨3,1,lc fI (aA i sd)⟩])]⟩) (fun g=>i-g.i) ⟨0,by omega⟩ ?_ ?_
 ·refine ak ⟨rfl,trivial⟩ ?_;simp[wk,prdD]
 rintro⟨j,u⟩;simp only;by_cases F:j<i
 ·have O:(j:Int)+1=((j+1:Nat):Int):=by omega
  have hw:IntKind.i64.wrap (prdD p j*p j j)=prdD p (j+1):=by
   have:=hb (j+1) (by omega);exact aH (by show _<=prdD p (j+1);omega) (by show prdD p (j+1)<=_;omega)
  have N:=aw (m:=i) (fun i=>p i i) F;have R:=aw (m:=i) sd F;obtain⟨v1,v2,v3,v4⟩:=hv j F;have x1:(sd j<p j j)=False:=eq_false (by omega);have x2:(p j j>sd j)=False:=eq_false (by omega);generalize H:prdD p (j+1)=pn at*
  refine ax (k:=aP rfl (aj (ao (aZ (k:=aF (aG N hw) (k:=?_))))));cases j with
  |zero=>
   refine iH (aG N (aG R x1)) (k:=aq rfl (al (dz O (k:=?_))));refine⟨⟨0+1,by omega⟩,by simp only;omega,ak ⟨rfl,trivial⟩ ?_⟩;simp[wk,H]
  |succ j=>
   have w3:=aw (m:=i) (fun i=>p i i) (j:=j) (by omega);have ej:((j+1:Nat):Int)-1=(j:Int):=by omega
   have x3:(p (j+1) (j+1)<p j j)=False:=eq_false (by have:=ha j (by omega);omega);refine iH (aG N (aG R (aG x1 (aG ej (aG w3 x3))))) (k:=aq rfl (al (dz O (k:=?_))));refine⟨⟨j+1+1,by omega⟩,by simp only;omega,ak ⟨rfl,trivial⟩ ?_⟩;simp[wk,H]
 obtain rfl:j=i:=by omega
 refine ax (k:=aQ rfl (bD [⟨1,_,_,_,cO⟩,⟨2,_,_,_,cT⟩,⟨3,_,_,_,cI⟩] (k:=?_)));have e0:(j:Int)-1=((j-1:Nat):Int):=by omega
 have o1:([[PV.raw (.int .i64 1)],[PV.raw (.int .i64 4)],[PV.raw (.int .i64 2)]]:List (List PV))[j-1]?=some [PV.raw (.int .i64 (ovL j))]/\([[PV.raw (.int .i64 1)],[PV.raw (.int .i64 3)],[PV.raw (.int .i64 1)]]:List (List PV))[j-1]?=some [PV.raw (.int .i64 (udL j))]/\1<=ovL j/\ovL j<=4/\1<=udL j/\udL j<=3:=by
  have:j=1\/j=2\/j=3:=by omega
  rcases this with rfl|rfl|rfl<;>refine⟨rfl,rfl,?_⟩<;>decide
 obtain⟨P,g2,o2,o3,u2,u3⟩:=o1;have k1:udL j*prdD p j<=3*46656:=ae0 u3 pb.2 (by omega) (by omega);have k2:ovL j*dk f j<=4*46656:=ae0 o3 (by omega) (by omega) (by omega);have k3:0<=udL j*prdD p j:=aeQ (by omega) (by omega);have k4:0<=ovL j*dk f j:=aeQ (by omega) (by omega);have N:IntKind.i64.wrap (udL j*prdD p j)=udL j*prdD p j:=aH (by omega) (by omega);have R:IntKind.i64.wrap (ovL j*dk f j)=ovL j*dk f j:=aH (by omega) (by omega);have y1:(dk f j<=prdD p j)=True:=eq_true Y;have y2:(udL j*prdD p j<=ovL j*dk f j)=True:=eq_true Z;refine aF (aG s (aG e0 P)) (k:=aF (aG s (aG e0 g2)) (k:=ce [⟨13,_,_,_,cA⟩] (aG y1 (aG N (aG R y2))) (k:=aI @results13)))
section
open Go.ChangeShapes Go.WideShapes Go.ChangeAt Go.RowKit
theorem uo (Y:Os) (l:Y.Started) (H:Type) (f:TypeId×Value->H):
  ReturnsInHanded {} checked Y 13 .any (Rows.shortBoundsSpec.pre6 f prog f13 Rows.shortBoundsRow.domain false) (Rows.shortBoundsSpec.post f prog f13 false true false false):=by
 refine returnsInHanded_of_change_sized (C:=checked) Tryz.ownKnob_ l (by kernel_rfl) func13
  (ahm (enc:=f) (C:=checked) false ⟨#[],#[.agg #[.int .u8 0,.int .u8 0,.slice none 0 0,.slice none 0 0]],[]⟩ 8 (by kernel_rfl) (by kernel_rfl) (by kernel_rfl) (by kernel_rfl)) ?_
 intro W base args R gs B g U V n _;have o: ∀(j:Nat) t v,f13.params[j]?=some t->args[j]?=some v->Value.okWide prog W .any base t v:=g;have J:(DataW.weightsEach prog (f13.params.toList++Rows.shortBoundsSpec.plain.varTypes prog) (R++gs)).all (· <=reachBytes)=true:=n;have E:=U;obtain⟨p,q,w,hV,rfl,ac,ad⟩:=U;have T:DataW.TrodAll f prog W 0 (fun _=>true) true f13.params.toList args.toList R p:=w;rw[params13]at T o J;obtain⟨Z,ag,d0,aa,p0,q0,F,rfl,rfl,S,r0⟩:=trodAll_cons T;obtain⟨rfl,rfl,rfl⟩:=trodAll_nil r0;obtain rfl:args= #[Z]:=by cases args;simp_all
 obtain⟨rfl,rfl⟩:=trodVars_none hV;have X:=S;have K: ∀x∈p0,x.block<W.heap.size:=by obtain⟨m,hm⟩:=X;exact ah5 m _ _ _ hm
 obtain⟨ae,af,z,A,ah,ai,an,ap,n0,rfl,rfl,rfl,L,M,N,O⟩:=Go.Joins.open_agg4 underlying24 (by kernel_rfl) (by kernel_rfl) (o 0 24 Z rfl rfl) S;obtain⟨c,rfl,G⟩:=iQ underlying5 L;obtain⟨b,rfl,I⟩:=iQ underlying5 M;obtain⟨L0,Q,D⟩:=iP underlying22 underlying157 (by kernel_rfl) N;obtain⟨B0,P,ab⟩:=iP underlying22 underlying157 (by kernel_rfl) O;clear w g n;refine((IR c b L0 B0 D G I).law (vs:= #[.agg #[.int .u8 (c:Int),.int .u8 (b:Int),z,A]]) rfl (NS (vs:=[.agg #[.int .u8 (c:Int),.int .u8 (b:Int),z,A]]) rfl (fun j t v r y=>by
  match j,r,y with
  |0,r,y=>simp at r y;subst r;subst y;exact Pb Q P
  |j+1,r,y=>simp at r))).mono fun e W' ⟨he,u⟩=>?_
 have s:Below W.heap.size W W':=u;subst he;exact⟨_,rfl,_,_,_,[],_,[],E,trodAll_mk1 (shut_bool underlying4 _),(trodAll_cons_mk (aiJ Tryz.laidOut_ (by kernel_rfl) (of_decide_eq_true (by kernel_rfl)) X s K) trodAll_mk0),rfl,s.frame _,fun h=>by cases h⟩
theorem shortBounds_holds:Rows.ShortBoundsSaid:=
 agY 13 f13 rfl rfl rfl rfl rfl rfl rfl ⟨rfl,rfl,rfl,rfl,rfl⟩ rfl rfl rfl rfl rfl (by kernel_rfl) func13 wi
  (of_decide_eq_true (by kernel_rfl)) (by unfold Func.isWrapper;first|(rw[if_pos (by decide+kernel)];kernel_rfl)|(rw[if_neg (by decide+kernel)];exact⟨rfl,rfl⟩))
  (fun e b H c _=>uo e b H c)
#print axioms shortBounds_holds
end
end Go.Proofs.YtalmoejhjceflaaGreat
