/-
  Part 34 of a proof (walks and plain facts).
-/
import Derived.Test.YtalmoejhjceflaaGreatV32
set_option linter.all false
set_option maxRecDepth 100000
set_option maxHeartbeats 64000000
namespace Go.Proofs.YtalmoejhjceflaaGreat
open Go.RowKit Go.Proofs.Tryz
variable {n:Nat} {x:Int} {b:FF}
section
section
variable {n:Nat} {f:FF} {B:Int}
theorem aa9 (b:RedR f n) {c:Int} (j:c<=dk f 1): ∀k,k<n->c*dk f k<=((2^k:Nat):Int)*dk f (k+1)
 |0,h=>by
  grind [b8]
 |k+1,h=>by
  have v:=aa9 b j k (by omega);obtain⟨s,r⟩:=b.2.2.2 k h;have p:=b.2.1 k (by omega);have q:=b.2.1 (k+1) h;unfold X0 at r;have u:=s (k+1) h (by omega);have o:0<dk f k:=lS fun t D=>b.2.1 t (by omega)
  generalize bk f k (k+1) k=l at*
  generalize dk f (k+1+1)=d2 at*
  generalize dk f (k+1)=d1 at*
  generalize dk f k=d0 at*
  by_cases m:c<=0
  ·have w:=aeQ (show 0<= -c by omega) (show 0<=d1 by omega);have x:=aeQ (aiL (2^(k+1))) (show 0<=d2 by omega);grind
  have y:4*(l*l)<=d1*d1:=by
   have e:(2*l.natAbs)*(2*l.natAbs)<=d1.toNat*d1.toNat:=afd (by omega) (by omega);grind [Int.natAbs_mul_self]
  have g:d1*d1<=2*(d0*d2):=by
   grind
  have z:c*d0*d2<=((2^k:Nat):Int)*d1*d2:=aeY v (by omega);have C:c*(d1*d1)<=c*(2*(d0*d2)):=aeO g (by omega);have A:d1*(c*d1)<=d1*(((2^(k+1):Nat):Int)*d2):=by
   have e:d1*(((2^(k+1):Nat):Int)*d2)=2*(((2^k:Nat):Int)*d1*d2):=by
    grind
   grind
  simp_all
theorem aa8 (b:qH n f B) {k:Nat} (v:k<n) {x:Nat->Int} (s:fq f n B (k+1) x) {C W:Nat} (o:B*dk f k<=(C:Int)*dk f (k+1)) (E:4*C<W*W):(rng (cu f n B k x) (dy f n B k x)).length<=W:=by
 have h:=b.d (k:=k+1) (by omega);have t:=b.d (k:=k) (by omega);have e:=b.sq v s;have w:=dU e.1;have F:=(jQ b.r.pd.1 b.r.pd.2 x (n-(k+1)) (k+1) (by omega)).1;have G:gE f n B k x<=(C:Int)*(dk f (k+1)*dk f (k+1)):=by
  unfold gE;have y:dk f k*(B*dk f (k+1)-BF n (bk f (k+1)) x x)<=dk f k*(B*dk f (k+1)):=aeO (by omega) (by omega);have z:B*dk f k*dk f (k+1)<=(C:Int)*dk f (k+1)*dk f (k+1):=aeY o (by omega);grind
 rw[p9];unfold cu dy;obtain⟨J,K,_⟩:=w;generalize isqF (gE f n B k x)=r at*
 generalize jU f n k x=l at*
 generalize dk f (k+1)=D at*
 have H:=aih (r-l) (show D≠0 by omega);have I:=aih (r+l) (show D≠0 by omega);generalize(r-l)/D=p at*
 generalize(r+l)/D=q at*
 refine Nat.le_of_not_gt fun u=>?_
 have c:(W:Int)<=p+q:=by omega
 have j:(W:Int)*D<=(p+q)*D:=aeY c (by omega);rw[Int.add_mul]at j;have g:(W:Int)*D<=2*r:=by omega
 have A:(W:Int)*D*((W:Int)*D)<=2*r*(2*r):=ae0 g g (aeQ (by omega) (by omega)) (by omega);have m:((W*W:Nat):Int)*(D*D)<=((4*C:Nat):Int)*(D*D):=by
  grind
 have:=Int.le_of_mul_le_mul_right m (afa h.1 h.1);omega
theorem WM {F:Int->Nat} {T:Nat}: ∀l:List Int,(∀c,c∈l->F c<=T)->(l.map F).sum<=l.length*T
 |[],_=>by simp
 |c::l,h=>by
  have:=WM l fun c b=>h c (by simp[b])
  grind [Nat.add_mul]
/-! Lists without repetitions. -/
theorem Bp {e:Type} [DecidableEq e]: ∀{a b:List e},a.Nodup->(∀x,x∈a->x∈b)->a.length<=b.length
 |[],_,_,_=>afl _
 |x::a,b,h,c=>by
  have j:=c x (by simp);rw[afU]at h;have:=Bp (b:=b.erase x) h.2 fun y g=>(List.mem_erase_of_ne (by grind)).2 (c y (by simp[g]))
  grind
theorem LN {b j:Type} {g:b->j} (c: ∀x y,g x=g y->x=y) {l:List b} (h:l.Nodup):(l.map g).Nodup:=
 List.pairwise_map.2 (List.Pairwise.imp (fun h e=>h (c _ _ e)) h)
theorem acL (a b:Int):(rng a b).Nodup:=LN (fun _ _ e=>by omega) List.nodup_range
theorem Uz: ∀(k:Nat) (y:List Int),(e9 f n B k y).Nodup
 |0,y=>by simp[e9]
 |k+1,y=>by
  refine List.pairwise_flatMap.2 ⟨fun c _=>Uz k (c::y),(acL _ _).imp fun{a b} hab x hx z hz e=>?_⟩;grind [Ln,List.append_inj']
theorem Ot {b:Type} (p q:b->Bool): ∀l:List b,(l.filter p).length=(l.filter fun x=>p x&&q x).length+(l.filter fun x=>p x&&!q x).length
 |[]=>rfl
 |x::l=>by
  have:=Ot p q l;grind
end
section
variable {M:List (List Int)} {n:Nat} {f:FF}
noncomputable def Pl (f:FF) (n b:Nat) (m s:Int):List (List Int):=(e9 f n (b:Int) n []).filter fun z=>decide (gp n f z=m)&&decide (bT z=s)
theorem Pm (h:Rf M n f) {b:Nat} {s:Int} (c:x<=b) (z:List Int):z∈Pl f n b x s↔z.length=n/\gp n f z=x/\bT z=s:=by
 unfold Pl;rw[ahG,qU h.r (by omega)];grind
theorem Wq (b:Nat) (m s:Int):(Pl f n b m s).Nodup:=(Uz _ _).filter _
theorem Z3 (h:Rf M n f) {b:Nat} {s:Int} (g:x<=b):(Pl f n b x s).length<=(Pl f n b x (-s)).length:=by
 have:=Bp (a:=(Pl f n b x s).map fun z=>z.map fun a=> -1*a) (b:=Pl f n b x (-s)) (LN (fun c y e=>by
  have:=congrArg (List.map fun a:Int=> -1*a) e;simpa[Function.comp_def] using this) (Wq b x s)) fun c j=>by
  grind [Pm,n7,g7]
 grind
theorem Z4 (h:Rf M n f) {b:Nat} {m:Int} (g:m<=b) (c:0<m):((e9 f n (b:Int) n []).filter fun z=>decide (gp n f z=m)).length=2*(Pl f n b m 1).length:=by
 rw[Ot _ fun z=>decide (bT z=1)];have e:((e9 f n (b:Int) n []).filter fun z=>decide (gp n f z=m)&&!decide (bT z=1))=Pl f n b m (-1):=by
  refine ahu fun z j=>?_
  grind [bT,fL,gM]
 grind [Z3,Pl]
theorem acP (h:Rf M n f) {b:Nat} {m B:Int} (s:m<=b) (o:0<=B) (q:B<=65536) (r:m<=B):(Pl f n b m 1).length=((dJ f n B).filter fun p=>decide (p.1=m)).length:=by
 have l:((dJ f n B).filter fun p=>decide (p.1=m)).Nodup:=List.Pairwise.filter _ (List.Pairwise.imp (fun h e=>by grind [t6]) (rR f n B));have g:((Pl f n b m 1).map fun z=>(m,z)).Nodup:=LN (fun _ _ e=>(ajc e).2) (Wq b m 1);have c: ∀p:Int×List Int,p∈((Pl f n b m 1).map fun z=>(m,z))↔p∈(dJ f n B).filter fun p=>decide (p.1=m):=fun p=>by
  grind [cq,Pm]
 have l1:=Bp g fun p j=>(c p).1 j
 have t:=Bp l fun p j=>(c p).2 j
 grind
theorem WX (v:Int): ∀b:List (Int×List Int),yY b->(∀p,p∈b->v<=p.1)->(b.takeWhile fun p=>p.1==v)=b.filter fun p=>decide (p.1=v)
 |[],_,_=>rfl
 |q::b,h,j=>by
  obtain⟨l,c⟩:=agc.1 h;by_cases e:q.1=v
  ·rw[ahf (by simp[e]),List.filter_cons_of_pos (by simp[e]),WX v b c fun p g=>j p (by simp[g])]
  grind [List.takeWhile_cons_of_neg,List.filter_eq_nil_iff,qA]
noncomputable def yU (f:FF) (n:Nat):Int:=((dJ f n (l7 n f)).getD 0 (0,[])).1
theorem xB (h:Rf M n f):0<yU f n/\yU f n<=l7 n f/\ ∀p,p∈dJ f n (l7 n f)->yU f n<=p.1:=by
 have o:=qt h;have b:=Et h;have m:=rR f n (l7 n f);have r:=fun p=>(cq h (B:=l7 n f) (by omega) o.2 p).1
 unfold yU;generalize dJ f n (l7 n f)=e at*
 match e,b with
 |q::e,_=>
  obtain⟨g,j,l,s⟩:=r q (by simp);show 0<q.1/\q.1<=_/\ ∀p,p∈q::e->q.1<=p.1;refine⟨?_,l,fun p c=>?_⟩
  ·rw[j];exact FO h g (by omega)
  rcases afn.1 c with rfl|c
  ·omega
  have:=(agc.1 m).1 p c;grind [qA]
theorem aeb (h:Rf M n f):0<(JS (dJ f n (l7 n f))).length/\(JS (dJ f n (l7 n f))).length<=(dJ f n (l7 n f)).length:=by
 have b:=Et h;unfold JS;generalize dJ f n (l7 n f)=c at*
 match c,b with
 |q::c,_=>
  grind [List.takeWhile_prefix,List.takeWhile_cons_of_pos]
noncomputable def Ih (f:FF) (n b:Nat) (m:Nat):Int:=(((e9 f n (b:Int) n []).filter fun z=>decide (gp n f z=(m:Int))).length:Int)
theorem ac8 (f:FF) (n b:Nat):thL f n b=aA (b+1) (Ih f n b):=bG fun m _=>by
 rw[UM];exact ahL _
theorem Uh (h:Rf M n f) {b m:Nat} (q:m<=b) (p:0<m):0<=Ih f n b m/\Ih f n b m%2=0/\((m:Int)<yU f n->Ih f n b m=0)/\((m:Int)=yU f n->Ih f n b m=2*((JS (dJ f n (l7 n f))).length:Int)):=by
 have g:=qt h;obtain⟨r,s,j⟩:=xB h;have e:=Z4 h (b:=b) (m:=(m:Int)) (by omega) (by omega);have o:Ih f n b m=2*((Pl f n b (m:Int) 1).length:Int):=by grind [Ih]
 have ev:=fun(c:(m:Int)<=yU f n)=>acP h (b:=b) (m:=(m:Int)) (B:=l7 n f) (by omega) (by omega) g.2 (by omega)
 refine⟨by omega,by omega,fun c=>?_,fun c=>?_⟩
 ·grind [List.filter_eq_nil_iff]
 have:=ev (by omega);have l:JS (dJ f n (l7 n f))=_:=WX (yU f n) _ (rR f n (l7 n f)) j;grind
end
end
theorem fd.congr {g:FF} (h: ∀i j,i<n->j<n->b i j=g i j) (m:fd b n):fd g n:=by
 refine⟨fun i l=>?_,fun i l q=>m.2 i l ?_⟩
 ·rw[<- h i i (by omega) (by omega),<- h (i+1) (i+1) l l,<- h i (i+1) (by omega) l];exact m.1 i l
 obtain⟨c,o,p⟩:=q;refine⟨c,o,?_⟩;rw[h i i l l];have e:nrm n b (K1 i c)=nrm n g (K1 i c):=cf h (fun _ _=>rfl) (fun _ _=>rfl);rw[e];exact p
theorem PD.congr {g:FF} (h: ∀i j,i<n->j<n->b i j=g i j) (l:PD b n):PD g n:=by
 refine⟨fun i c j e=>?_,fun k m=>?_⟩
 ·rw[<- h i j c e,<- h j i e c];exact l.1 i c j e
 rw[<- cy (f:=b) fun i j c e=>h i j (by omega) (by omega)];exact l.2 k m
section
section
variable {n:Nat} {f g h:FF}
theorem IP (B:fb n g h) (C:PD h n) (I:1<=n) {E:Int} (H: ∀i,i<n->g i i<=E): ∃y:Nat->Int,y (n-1)≠0/\BF n h y y<=E:=by
 obtain⟨T,r,t⟩:=B;have q:PD (bY n g T) n:=C.congr fun a b l m=>(t a b l m).symm
 obtain⟨s,v⟩: ∃s:Nat->Nat->Int,∀i j,j<n->mV n T (s i) j=eC i j:=⟨fun i=>Classical.choose (r (eC i)),fun i=>agN (r (eC i))⟩;refine afJ fun o=>?_
 have J: ∀i,i<n->s i (n-1)=0:=fun i A=>afJ fun z=>o ⟨s i,z,by
  have e:BF n h (s i) (s i)=nrm n (bY n g T) (s i):=cf (fun a b l m=>(t a b l m).symm) (fun _ _=>rfl) (fun _ _=>rfl);rw[e,<- LU,jL (v i),mX A];grind⟩
 have e: ∀j,j<n->smF (fun a=>T j a*(smF (fun i=>T i (n-1)*s i a) n-eC (n-1) a)) n=0:=fun j u=>by
  have w:smF (fun a=>T j a*eC (n-1) a) n=T j (n-1):=by
   rw[gD (a:=n-1) (by omega) fun p _ c=>by simp[eC,c]];simp[eC]
  have x:smF (fun a=>T j a*smF (fun i=>T i (n-1)*s i a) n) n=T j (n-1):=by
   rw[au n (G:=fun a=>smF (fun i=>T i (n-1)*(s i a*T j a)) n) (fun a _=>by grind [aW]),eh,
    au n (G:=fun i=>T i (n-1)*eC i j) (fun i _=>by rw[aW];exact congrArg _ (v i j u)),gD (a:=j) u fun p _ c=>by grind [eC]]
   simp[eC]
  rw[au n (G:=fun a=>T j a*smF (fun i=>T i (n-1)*s i a) n+(-1)*(T j a*eC (n-1) a)) (fun a _=>by grind),iw,aW,w,x];omega
 have D:=xp q e (n-1) (by omega);have F:smF (fun i=>T i (n-1)*s i (n-1)) n=0:=by
  simp_all[au,b7]
 grind [eC]
theorem aa4 (l:RedR h n) (u:1<=n) {y:Nat->Int} (s:y (n-1)≠0) (o:BF n h y y<=x):dk h n<=x*dk h (n-1):=by
 have b:=fq.ups l.pd (lk.2 o) (n-1) (by omega);rw[afm]at b;unfold fq at b;have e:BF n (bk h (n-1)) y y=dk h n*(y (n-1)*y (n-1)):=by
  unfold BF;rw[gD (a:=n-1) (by omega) fun p r c=>by
   rw[au n (G:=fun _=>0) fun j _=>by grind [kX],b7,af1],
   gD (a:=n-1) (by omega) fun p r c=>by grind [TO]]
  have:bk h (n-1) (n-1) (n-1)=dk h n:=by rw[<- cB,show n-1+1=n by omega]
  grind
 rw[e]at b;have q:0<dk h n:=l.pd.det;have m:1<=y (n-1)*y (n-1):=by
  have:=abm (y (n-1));grind [Int.mul_ne_zero]
 have t:=aeO m (afA q);omega
theorem LD (c:RedR h n) {k:Nat} (b:k+1<n):dk h (k+1)*dk h (k+1)<=2*(dk h k*dk h (k+1+1)):=by
 obtain⟨o,m⟩:=c.2.2.2 k b;have j:=c.2.1 k (by omega);unfold X0 at m;have p:=o (k+1) b (by omega);generalize bk h k (k+1) k=l at*
 generalize dk h (k+1+1)=d2 at*
 generalize dk h (k+1)=d1 at*
 generalize dk h k=d0 at*
 have q:4*(l*l)<=d1*d1:=by
  have e:(2*l.natAbs)*(2*l.natAbs)<=d1.toNat*d1.toNat:=afd (by omega) (by omega);grind [Int.natAbs_mul_self]
 grind
theorem PG {d:Int} (h: -d<=2*x/\2*x<=d):4*(x*x)<=d*d:=by
 have e:(2*x.natAbs)*(2*x.natAbs)<=d.toNat*d.toNat:=afd (by omega) (by omega);grind [Int.natAbs_mul_self]
theorem adK (b:RedR h n) (B:1<=n) (A:n<=3) (e:dk h n<=9*dk h (n-1)): ∀i,i<n->h i i<=36:=by
 have p:=b.2.1;have G:dk h 1=h 0 0:=by show bk h 0 0 0=_;exact de h 0 0
 have q:dk h 0=1:=rfl;have E:=b.1;have j: ∀i,i<n->bk h 1 i i=dk h 1*h i i-h i 0*h i 0:=fun i o=>by
  grind [sylv,de]
 match n,B,A with
 |1,_,_=>grind
 |2,_,_=>
  have e:dk h 2<=9*dk h 1:=e;have l0:dk h 1*dk h 1<=2*(dk h 0*dk h 2):=LD b (k:=0) (by omega);have l:=PG ((b.2.2.2 0 (by omega)).1 1 (by omega) (by omega));rw[de]at l;have v:dk h 2=dk h 1*h 1 1-h 1 0*h 1 0:=j 1 (by omega);have c:0<dk h 1:=p 0 (by omega);rw[q]at l0;have m:dk h 1<=18:=afe (show dk h 1*dk h 1<=dk h 1*18 by omega) c;generalize dk h 2=d2 at*
  intro i o;by_cases y:i=0
  ·grind
  obtain rfl:i=1:=by omega
  have r:dk h 1*dk h 1<=18*dk h 1:=aeY m (by omega);refine afe (show dk h 1*h 1 1<=dk h 1*36 from ?_) c;grind
 |3,_,_=>
  have e:dk h 3<=9*dk h 2:=e;have l0:dk h 1*dk h 1<=2*(dk h 0*dk h 2):=LD b (k:=0) (by omega);have l1:dk h 2*dk h 2<=2*(dk h 1*dk h 3):=LD b (k:=1) (by omega);have l:=PG ((b.2.2.2 0 (by omega)).1 1 (by omega) (by omega));have u:=PG ((b.2.2.2 0 (by omega)).1 2 (by omega) (by omega));have J:4*(bk h 1 2 1*bk h 1 2 1)<=dk h 2*dk h 2:=PG ((b.2.2.2 1 (by omega)).1 2 (by omega) (by omega));rw[de]at l u;have v:dk h 2=dk h 1*h 1 1-h 1 0*h 1 0:=j 1 (by omega);have w:=j 2 (by omega);have c:0<dk h 1:=p 0 (by omega);have s:0<dk h 2:=p 1 (by omega);have x:dk h 1*dk h 3=dk h 2*bk h 1 2 2-bk h 1 2 1*bk h 1 2 1:=by
   have:=sylv h 1 (fun t C=>by grind) 2 2;rw[iJ E 1 (by omega) (fun t C=>by grind) 1 2 (by omega) (by omega)]at this;exact this
  rw[q]at l0;have K:dk h 1*dk h 3<=dk h 1*(9*dk h 2):=aeO e (by omega);have F:dk h 2<=18*dk h 1:=afe (show dk h 2*dk h 2<=dk h 2*(18*dk h 1) by grind) s;have m:dk h 1<=36:=afe (show dk h 1*dk h 1<=dk h 1*36 by omega) c;have r:dk h 1*dk h 1<=36*dk h 1:=aeY m (by omega);have H:dk h 2*(dk h 1*dk h 1)<=dk h 2*(36*dk h 1):=aeO r (by omega);have m3:dk h 2*dk h 2<=18*dk h 1*dk h 2:=aeY F (by omega);have I:dk h 2*(4*(h 2 0*h 2 0))<=dk h 2*(dk h 1*dk h 1):=aeO u (by omega);rw[w]at x;intro i o;by_cases y:i=0
  ·grind
  by_cases z:i=1
  ·subst z;refine afe (show dk h 1*h 1 1<=dk h 1*36 from ?_) c;grind
  obtain rfl:i=2:=by omega
  have D:0<dk h 1*dk h 2:=afa c s;refine afe (show dk h 1*dk h 2*h 2 2<=dk h 1*dk h 2*36 from ?_) D;grind
variable {B:Int}
def wd3:Nat->Nat
 |0=>13
 |1=>17
 |_=>25
def tn3:Nat->Nat
 |0=>13
 |k+1=>wd3 (k+1)*(1+tn3 k)
theorem XO {k:Nat} (h:k<=2):4*(36*2^k)<wd3 k*wd3 k:=by
 match k,h with
 |0,_|1,_|2,_=>decide
theorem WY (e:qH n f B) (l: ∀k,k<n->B*dk f k<=((36*2^k:Nat):Int)*dk f (k+1)): ∀(k:Nat) (y:List Int),k<=2->y.length+(k+1)=n->fq f n B (k+1) (aL n y)->toL f n B k y<=tn3 k
 |0,y,j,m,b=>aa8 e (by omega) b (l 0 (by omega)) (XO j)
 |k+1,y,j,m,b=>by
  have q:=aa8 e (by omega) b (l (k+1) (by omega)) (XO j);have s:=WM (F:=fun c=>toL f n B k (c::y)) (T:=tn3 k) (rng (cu f n B (k+1) (aL n y)) (dy f n B (k+1) (aL n y))) fun c r=>by
   obtain⟨o,p⟩:=mr.1 r;exact WY e l k (c::y) (by omega) (by grind) (e.step m b o p).1
  show _+_<=wd3 (k+1)*(1+tn3 k);have t:=ae2 (1+tn3 k) q;grind
theorem rP (b:qH n f B) (j:1<=n) (e:n<=3) (l:B<=36):toL f n B (n-1) []<=5975:=by
 have h:=WY b (fun k m=>by
  have o:=aa9 b.r (c:=1) (by have:=b.d (k:=1) (by omega);omega) k m;have p:=b.d (k:=k) (by omega);have e:B*dk f k<=36*dk f k:=aeY l (by omega);grind) (n-1) [] (by omega) (by simp;omega) (by rw[show n-1+1=n by omega];exact gN b.r.pd b.b0)
 refine aeN h ?_
 match n,j,e with
 |1,_,_|2,_,_|3,_,_=>decide
end
end
theorem sJ (c:1<=n) (e:n<=4) (f:RedR b n):Rf (mat n n b) n (ent (mat n n b)):=by
 grind [Pg,iL,zZ,aS]
theorem Ov {L:List Int} {c:Nat} {T:FF} (e:1<=c) (j:c<=3) (f:RedR b c) (m:Rch c (j3 n L c) idF b T): ∀i,i<c->b i i<=36:=by
 obtain⟨y,g,l⟩:=IP (F8 m) f.pd e (E:=9) fun i _=>((kJ n L c e (by omega)).2 i i).2
 exact adK f e j (aa4 f e g l)
theorem yn {E:Int} (c:0<=E) (h: ∀i,i<n->b i i<=E):0<=dN b n/\dN b n<=E:=Fg c n h
theorem Bl {M:List (List Int)} (c:Rf M n b) (q:n<=3) (r: ∀i,i<n->b i i<=36) {k:Int} (l:0<=k) (t:k<=20000):
  ((toL b n (dN b n) (n-1) []:Int)<=k->CallC prog 28 [bV M,.raw (.int .i64 k)] ⟨[],wq ((grS n (dJ b n (dN b n)) []).map Prod.fst) 0⟩)/\
  (k<(toL b n (dN b n) (n-1) []:Int)->CallC prog 28 [bV M,.raw (.int .i64 k)] ⟨[],wq [] 9⟩):=by
 have j:=c.n1;obtain⟨e,p⟩:=yn (by omega) r;obtain⟨B,g⟩: ∃B,dN b n=B:=⟨_,rfl⟩;rw[g]at e p⊢;have t1:=rP (c.vs e (by omega)) j q p;have l1:=nZ (f:=b) (n:=n) (B:=B) (n-1) [];rw[show n-1+1=n by omega]at l1;refine⟨fun h=>?_,fun h=>?_⟩
 ·have o:=Tf c e (by omega) l (by omega) h;rw[if_neg (by omega)]at o;have s:=GH c e (by omega);exact P8 c q g e (by omega) (by omega) o
 have m:=BA c.red e (by omega) l (show k<=1000000 by omega);rw[(CA c e (by omega) l (by omega)).2 h]at m;exact P7 c g (by decide) (abC M B k 9 (by decide) m)
theorem CallC.law {P:Program} {f:FuncId} {args:List TV} {b:Bool} (h:CallC P f args ⟨[],.raw (.bool b)⟩) {w:World} {vs:Array Value} (c:vs.size=args.length)
  (o: ∀(j:Nat) t,args[j]?=some t-> ∃v:Value,vs[j]?=some v/\t.rel (fun _ _=>none) (fun _=>[]) (fun _=>False) w v):Calls P f vs w fun e g=>e= .returned (.bool b)/\fm w g:=
 (h.calls c o).mono fun e g ⟨v,l,⟨p,H,X,m⟩,n⟩=>⟨by rw[l,jw m],n⟩
end Go.Proofs.YtalmoejhjceflaaGreat
