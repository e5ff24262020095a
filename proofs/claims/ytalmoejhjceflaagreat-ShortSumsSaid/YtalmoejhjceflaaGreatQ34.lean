/-
  Part 35 of a proof (walks and plain facts).
-/
import Derived.Test.YtalmoejhjceflaaGreatQ33
set_option linter.all false
set_option maxRecDepth 100000
set_option maxHeartbeats 64000000
namespace Go.Proofs.YtalmoejhjceflaaGreat
open Go.RowKit Go.Proofs.Tryz
variable {b c:Nat->Int} {x:Int} {e:FF} {n:Nat} {f:List Int} {P:Program}
section
theorem gp (c:Int) (F:Nat->Int): ∀k,bW (fun p=>c*F p) k=c*bW F k
 |0=>by simp[bW]
 |k+1=>by rw[bW,bW,gp c F k];grind
theorem HW (c:Int) (F:Nat->Int) (k:Nat):bW (fun p=>F p*c) k=bW F k*c:=by
 grind [Int.mul_comm,gp]
theorem H4 (F:FF) (m:Nat): ∀n,bW (fun i=>bW (F i) m) n=bW (fun j=>bW (fun i=>F i j) n) m
 |0=>by simp_all[bW,dV]
 |n+1=>by rw[bW,H4 F m n,<- lw];rfl
def BF (n:Nat) (f:FF) (x y:Nat->Int):Int:=bW (fun i=>x i*bW (fun j=>f i j*y j) n) n
variable {n:Nat}
theorem dI {f':FF} {y g:Nat->Int} (h: ∀i j,i<n->j<n->e i j=f' i j) (m: ∀i,i<n->b i=c i) (o: ∀i,i<n->y i=g i):BF n e b y=BF n f' c g:=
 aO n fun i l=>by grind [aO]
theorem US (f:FF) (x b y:Nat->Int) (c:Int):BF n f (fun i=>x i+c*b i) y=BF n f x y+c*BF n f b y:=by
 unfold BF;rw[<- gp,<- lw];grind
theorem UT (f:FF) (x y b:Nat->Int) (c:Int):BF n f x (fun i=>y i+c*b i)=BF n f x y+c*BF n f x b:=by
 unfold BF;rw[<- gp,<- lw];refine aO n fun i _=>?_
 rw[aO n (G:=fun j=>f i j*y j+c*(f i j*b j)) (fun j _=>by grind),lw,gp];grind
theorem xN (f g:FF) (x y:Nat->Int) (a b:Int):BF n (fun i j=>a*f i j+b*g i j) x y=a*BF n f x y+b*BF n g x y:=by
 unfold BF;rw[<- gp,<- gp,<- lw];refine aO n fun i _=>?_
 rw[aO n (G:=fun j=>a*(f i j*y j)+b*(g i j*y j)) (fun j _=>by grind),lw,gp,gp];grind
theorem Ln (u v x y:Nat->Int):BF n (fun i j=>u i*v j) x y=bW (fun i=>x i*u i) n*bW (fun j=>v j*y j) n:=by
 unfold BF;rw[<- HW];refine aO n fun i _=>?_
 rw[aO n (G:=fun j=>u i*(v j*y j)) (fun j _=>by grind),gp];grind
theorem im {f:FF} (q:SymF f n) (l: ∀k,k<n->0<dk f (k+1)) (x:Nat->Int): ∀m k,m+k=n->0<=BF n (bk f k) x x/\(BF n (bk f k) x x=0-> ∀i,k<=i->i<n->x i=0)
 |0,k,h=>by
  obtain rfl:k=n:=by omega
  refine⟨?_,fun _ i p s=>by omega⟩;have:BF k (bk f k) x x=0:=by
   simp_all[BF,aO,ot,dV]
  omega
 |m+1,k,h=>by
  obtain⟨p,s⟩:=im q l x m (k+1) (by omega);have b: ∀t,t<n->dk f (t+1)≠0:=fun t o=>by grind
  have u:0<dk f k:=jl fun t o=>l t (by omega)
  have c:=l k (by omega);have key:dk f k*BF n (bk f (k+1)) x x=dk f (k+1)*BF n (bk f k) x x-bW (fun j=>bk f k k j*x j) n*bW (fun j=>bk f k k j*x j) n:=by
   have r:dk f k*BF n (bk f (k+1)) x x=BF n (fun i j=>dk f k*bk f (k+1) i j+0*bk f k i j) x x:=by rw[xN];omega
   rw[r,dI (f':=fun i j=>dk f (k+1)*bk f k i j+(-1)*(bk f k k i*bk f k k j)) (fun i j w B=>by
    have:=sylv f k (fun t o=>b t (by omega)) i j;have e:=iO q k (by omega) (fun t o=>b t (by omega)) i k w (by omega);grind) (fun _ _=>rfl) (fun _ _=>rfl),xN,Ln,aO n (F:=fun i=>x i*bk f k k i) (G:=fun j=>bk f k k j*x j) (fun i _=>agP _ _)]
   omega
  have z:0<=bW (fun j=>bk f k k j*x j) n*bW (fun j=>bk f k k j*x j) n:=by
   rcases aec 0 (bW (fun j=>bk f k k j*x j) n)with h|h
   ·exact acP h h
   exact ac3 h h
  have y:=acP (ad2 u) p;have v:0<=dk f (k+1)*BF n (bk f k) x x:=by omega
  refine⟨?_,fun A=>?_⟩
  ·rcases aem (BF n (bk f k) x x) 0 with g|g
   ·have:=Int.mul_neg_of_pos_of_neg c g;omega
   exact g
  rw[A,agQ]at key;have C:dk f k*BF n (bk f (k+1)) x x=0:=by omega
  have D:bW (fun j=>bk f k k j*x j) n*bW (fun j=>bk f k k j*x j) n=0:=by omega
  have E:BF n (bk f (k+1)) x x=0:=by
   grind [Int.mul_eq_zero]
  grind [Int.mul_eq_zero,mH,DH,ca]
end
section
def PD (f:FF) (n:Nat):Prop:=SymF f n/\ ∀k,k<n->0<dk f (k+1)
theorem RedR.pd (h:RedR e n):PD e n:=⟨h.1,h.2.1⟩
variable {n:Nat}
theorem jc (g: ∀i,i<n->b i=0):BF n e b c=0:=by
 simp_all[BF,aO,dV]
theorem PD.pos (b:PD e n) (x:Nat->Int):0<=BF n e x x/\(BF n e x x=0↔ ∀i,i<n->x i=0):=by
 have h:=im b.1 b.2 x n 0 rfl;grind [BF,cH,jc]
/-! The column of cofactors. -/
def eC (i:Nat):Nat->Int:=fun r=>if r=i then 1 else 0
def rW (f:FF) (n j:Nat):Nat->Int:=fun i=>dk (me f j (eC i)) n
theorem aaB (S:Nat->Int) (m r:Nat):bW (fun i=>S i*eC i r) m=if r<m then S r else 0:=by
 induction m with
 |zero=>simp[bW]
 |succ m b=>
  grind [bW,eC]
theorem wY {f:FF} {j:Nat} (b:j<n) (S:Nat->Int): ∀m,dk (me f j (fun r=>bW (fun i=>S i*eC i r) m)) n=bW (fun i=>S i*rW f n j i) m
 |0=>VI b fun i _=>rfl
 |m+1=>by
  have h:=Js (R:=f) b 1 (S m) (fun r=>bW (fun i=>S i*eC i r) m) (eC m);rw[wY b S m]at h;have e:(fun r=>bW (fun i=>S i*eC i r) (m+1))=fun r=>1*bW (fun i=>S i*eC i r) m+S m*eC m r:=by
   grind [bW]
  rw[e,h,bW,afV];rfl
theorem VH {j:Nat} (b:j<n) (S:Nat->Int):dk (me e j S) n=bW (fun i=>S i*rW e n j i) n:=by
 rw[<- wY b S n];refine nk fun r c g _=>?_
 unfold me;split
 ·show S r=bW (fun i=>S i*eC i r) n;simp_all[aaB]
 rfl
theorem Vi {j k:Nat} (b:j<n) (c:k<n):bW (fun i=>e i k*rW e n j i) n=if k=j then dk e n else 0:=by
 rw[<- VH b fun i=>e i k];grind [Cs,Gk]
theorem YW (h:SymF e n) {j:Nat} (c:j<n) (x:Nat->Int):BF n e x (rW e n j)=x j*dk e n:=by
 unfold BF;rw[aO n (G:=fun i=>x i*(if i=j then dk e n else 0)) (fun i b=>by
  rw[<- Vi c b]
  congr 1
  exact aO n fun l g=>by rw[h i b l g])]
 grind [mH]
def UK (f:FF) (j m:Nat):Nat->Nat->Int:=fun i l=>if l=j then eC j i else if i=j/\l<m then 0 else f i l
theorem Rb {f:FF} {j:Nat} (c:j<n): ∀m,m<=n->dk (UK f j m) n=rW f n j j
 |0,_=>by
  unfold rW
  congr 1
  grind [UK,me]
 |m+1,g=>by
  rw[<- Rb c m (by omega)];by_cases h:m=j
  ·congr 1
   grind [UK]
  have e:=NW (R:=UK f j m) (n:=n) (a:=m) (b:=j) (by omega) c h (-(UK f j m j m));rw[<- e]
  congr 1
  grind [me,UK,eC]
theorem FU (f:FF) (k:Nat):rW f (k+1) k k=dk f k:=by
 rw[<- Rb (by omega) (k+1) (acs _),ca,bk,eE,um (ry k) _ (fun c b=>by
  have:=lX b;grind [UK])]
 have e:om (UK f k (k+1)) k (ry k)=dk f k:=uw fun i g c b=>by
  have:=lX b;grind [UK]
 grind [UK,eC]
theorem O0 (l:SymF e n) (r: ∀x:Nat->Int,(∃i,i<n/\x i≠0)->0<BF n e x x):PD e n:=by
 refine⟨l,fun k q=>?_⟩;have u: ∀k,k<=n->0<dk e k:=fun k=>by
  induction k with
  |zero=>grind [ce]
  |succ k s=>
   intro q;have o:=s (by omega);have c:SymF e (k+1):=fun i v j w=>l i (by omega) j (by omega)
   have g:=YW (n:=k+1) c (j:=k) (by omega) (rW e (k+1) k);rw[FU]at g;have p:=r (fun i=>if i<k+1 then rW e (k+1) k i else 0) ⟨k,by omega,by grind [FU]⟩;have b:BF n e (fun i=>if i<k+1 then rW e (k+1) k i else 0) (fun i=>if i<k+1 then rW e (k+1) k i else 0)=BF (k+1) e (rW e (k+1) k) (rW e (k+1) k):=by
    have ext: ∀(F:Nat->Int) (m:Nat),bW (fun i=>if i<k+1 then F i else 0) (k+1+m)=bW F (k+1):=fun F m=>by
     induction m with
     |zero=>grind [aO]
     |succ m t=>grind [bW]
    obtain⟨m,rfl⟩: ∃m,n=k+1+m:=⟨n-(k+1),by omega⟩;unfold BF;rw[<- ext (fun i=>rW e (k+1) k i*bW (fun j=>e i j*rW e (k+1) k j) (k+1)) m];refine aO _ fun i _=>?_
    grind
   rw[b,g]at p;rcases aem 0 (dk e (k+1))with h|h
   ·exact h
   have:=aes (ad2 o) h;omega
 grind
/-! Bounds. -/
end
def dg (b j:Nat):Int:=((b/3^j%3:Nat):Int)-1
def nrm (n:Nat) (f:FF) (x:Nat->Int):Int:=BF n f x x
theorem aag {f:FF} {i:Nat} (b:i<n):nrm n f (eC i)=f i i:=by
 grind [eC,mH,nrm,BF]
theorem zg {f:FuncId} {args:List TV} {r:TV} (x:callable P f=true) (h: ∀(X:Nat->Prop) (w:World) (vs:Array Value),(∀b,X b->b<w.heap.size)->vs.size=args.length-> (∀(j:Nat) t,args[j]?=some t-> ∃v:Value,vs[j]?=some v/\t.rel (fun _ _=>none) (fun _=>[]) X w v)->Calls P f vs w fun e l=> ∃v,e= .returned v/\(∀z H Y,(∀b,Y b->b<w.heap.size)->r.rel z H Y l v)/\Ext w l):CallC P f args ⟨[],r⟩:=
 ⟨x,fun X w vs m g u=>(h X w vs m g u).mono fun e l ⟨v,p,q,s⟩=>⟨v,p,fun _ _=>none,Mh s m,q _ _ _ (fun b n=>by
  rcases n with n|⟨a,r,o,c,A,y⟩
  ·grind
  cases y)⟩⟩
theorem fg (M:List (List Int)):CallC prog 36 [cw M] ⟨[],.raw (.bool (isReducedM M))⟩:=by
 refine nj (by kernel_rfl) fun X w vs q l f=>?_
 obtain⟨r,n,m⟩:=y5 f (j:=0) rfl;obtain⟨A,c,rfl,g,h,b⟩:=uL m;obtain rfl:vs= #[.slice A M.length c]:=by
  grind
 refine(mQ A c M w b h g).mono fun e s ⟨o,p⟩=>?_
 grind [Hn]
theorem Ks (a b:List (List Int)):CallC prog 17 [cw a,cw b] ⟨[],.raw (.bool (decide (a=b)))⟩:=by
 refine nj (by kernel_rfl) fun X w vs u n g=>?_
 obtain⟨y,q,o⟩:=y5 g (j:=0) rfl;obtain⟨z,r,p⟩:=y5 g (j:=1) rfl;obtain⟨A,c,rfl,v,m,h⟩:=uL o;obtain⟨B,d,rfl,x,f,l⟩:=uL p;obtain rfl:vs= #[.slice A a.length c,.slice B b.length d]:=by
  grind
 refine(Tp A B c d a b w h l m f).mono fun e C ⟨s,t⟩=>?_
 grind [Hn]
theorem Td {X:Nat->Prop} {w:World} {g c:Nat} (r: ¬X n) (s:n<w.heap.size) (y:f.length<=c) (A:f.length<=9223372036854775807) (h:RdI .i64 w (some ⟨n,g,none⟩) f):bS X w (.sl (ls fI f)) (.slice (some ⟨n,g,none⟩) f.length c):=by
 have t: ∀(i:Nat) (z:Int),f[i]?=some z->w.cell? ⟨n,g+i,none⟩=some (.int .i64 z):=fun i z p=>by
  cases f with
  |nil=>simp at p
  |cons B l0=>
   obtain⟨u,q,v,t⟩:=h (by simp);grind
 have:=bS.sl (X:=X) (w:=w) n g 1 c (ls fI f) (fun i _=> .int .i64 (f.getD i 0)) r s (fun e m=>by
  obtain⟨z,_,rfl⟩:=acn.1 m;rfl) (by grind [d8]) (by grind [d8]) (fun i e j x m o=>by
  grind [gV,fI]) (fun i e j x m o=>by
  rw[gV]at m;obtain⟨z,p,rfl⟩:=acf.1 m;cases j with
  |succ j=>simp[fI]at o
  |zero=>
   simp[fI]at o;subst o;simp only[acm,p,ads];exact bS.raw _ rfl)
 grind [d8]
/-! The plain side of Gram. -/
abbrev ZZ (G:List (List Int)) (b:Bool):TV:= .tup [(false,[.p (.sl (ls (fR fI) G))]),(false,[.p (.raw (.bool b))])]
theorem Z1 {M:List (List Int)} {y:List Int} (l:isReducedM M=true) (q:By M.length f=true) (t:By M.length y=true):
  dt f (gR M y) f.length=BF M.length (ent M) (fun i=>f.getD i 0) (fun i=>y.getD i 0):=by
 obtain⟨w,z,e,B⟩:=(fP M).1 l;obtain⟨b,s⟩:=tj.1 q;obtain⟨g,u⟩:=tj.1 t;generalize A:M.length=n at*
 have v:M=mat n n (ent M):=by
  apply acz;intro i;by_cases o:i<n
  ·rw[bD _ _ o];obtain⟨r,c⟩:=getElem?_of_lt (show i<M.length by omega);rw[c];have p:r.length=n:=by
    have:=e i (by omega);grind
   refine congrArg some ?_;apply acz;grind [aB,ent,aD]
  grind [aU]
 have h: ∀(f:List Int),f.length=n->f=aN n (fun i=>f.getD i 0):=fun f b=>by
  apply acz;grind [aB,aD]
 have m:isReducedM (mat n n (ent M))=true:=by grind
 have ex:=h f b;have j:=h y g;rw[show gR M y=DF n n (ent M) y by grind [I9],b,DF];generalize(fun i=>f.getD i 0)=fx at*
 generalize(fun i=>y.getD i 0)=fy at*
 rw[ex,j,tH _ _ n (acs _)];exact aO n fun i _=>by grind [tH]
theorem qr {b:Func} {s:AS} {r:TV} (k:Nat) (f:s.tmps[k]?=some (.raw (.slice none 0 0))) (e:s.H 1000=[]) (h:rA P ⟨s.tmps.set k (.one (.p (.sl []))),s.H⟩ b.results.toList=some r) (g:noRefTV r=true): ∃c,bJ s c/\nd P b ⟨[],r⟩ c:=
 ⟨_,Lz k f,nJ e h g⟩
theorem Nw (m:Nat) (b:List (aq P)) (e:List Nat) {id:Nat} {c:Array Oper} {s:AS} {Q:Exit->AS->Prop} (t:s.tmps.length<=1000000) (u:m<=c.toList.length) (h: ∀K:AS->Prop,(∀j,(∃f,bJ j f/\f.tmps.length<=1000000/\ ∀K:AS->Prop,(∀g,Q .normal g->K g)->aY P (b.map aq.a) e (aK c (c.toList.drop m) m) (some f) K)->K j)->aY P (b.map aq.a) e (aK c (c.toList.take m) 0) (some s) K):bA P (.region id c false) Q s:=by
 obtain⟨j,l,f,q,p,n⟩:=aP P (b.map aq.a) e c _ 0 s _ (h _ fun _ h=>h);obtain⟨g,r,o⟩:=aP P (b.map aq.a) e c _ m f _ (n _ fun _ h=>h);refine wS m _ (aq.ok b) e l q ?_ o;grind
theorem lH (M:List (List Int)) (r:List Int):lc (fR fI) M++[[.p (.sl (ls fI r))]]=lc (fR fI) (M++[r]):=by simp[lc,fR]
theorem vY (n:Nat) (h t:FF) (a b:Nat):oy n h t a b=BF n h (fun i=>t i a) (fun j=>t j b):=by
 unfold oy BF;rw[l6,aO n (G:=fun p=>bW (fun q=>t q a*h q p*t p b) n) (fun p _=>by rw[l6,<- HW];rfl),
  aO n (F:=fun i=>t i a*_) (G:=fun q=>bW (fun p=>t q a*h q p*t p b) n) (fun q _=>by grind [gp])]
 exact H4 _ _ _
theorem nK (f:Nat->Int) {j:Nat} (b:j<n):(aN n f).getD j 0=f j:=by
 grind [aB]
section
variable {n:Nat}
def mV (n:Nat) (t:FF) (x:Nat->Int):Nat->Int:=fun i=>bW (fun a=>x a*t i a) n
theorem Lo (h t:FF) (x y:Nat->Int): ∀m,BF n h (fun i=>bW (fun a=>x a*t i a) m) y=bW (fun a=>x a*BF n h (fun i=>t i a) y) m
 |0=>jc fun _ _=>rfl
 |m+1=>by
  have b:=US (n:=n) h (fun i=>bW (fun a=>x a*t i a) m) (fun i=>t i m) y (x m);rw[Lo h t x y m]at b;exact b
theorem Lp (h t:FF) (x y:Nat->Int): ∀m,BF n h x (fun i=>bW (fun a=>y a*t i a) m)=bW (fun a=>y a*BF n h x (fun i=>t i a)) m
 |0=>by
  show BF n h x (fun _=>0)=0;simp_all[BF,dV]
 |m+1=>by
  have b:=UT (n:=n) h x (fun i=>bW (fun a=>y a*t i a) m) (fun i=>t i m) (y m);rw[Lp h t x y m]at b;exact b
theorem ID (h t:FF) (x y:Nat->Int):BF n h (mV n t x) (mV n t y)=BF n (oy n h t) x y:=by
 unfold mV;rw[Lo];unfold BF;refine aO n fun a _=>?_
 congr 1
 have b:=Lp (n:=n) h t (fun i=>t i a) y n;grind [BF,vY]
theorem PD.diag (g:PD e n) {i:Nat} (c:i<n):0<e i i:=by
 have h:=g.pos (eC i);have b:=aag (f:=e) c;grind [nrm,eC]
end
section
variable {n:Nat}
theorem l8 {F:Nat->Int}: ∀m,(∀a,a<m->0<=F a)->0<=bW F m
 |0,_=>by simp[bW]
 |m+1,h=>by
  have:=l8 m fun a b=>h a (by omega)
  grind [bW]
/-! Signs. -/
end
section
variable {n:Nat}
theorem abC (h:x*x<=(n:Int)*(n:Int)): -(n:Int)<=x/\x<=(n:Int):=by
 have c:x.natAbs*x.natAbs<=n*n:=by
  grind [Int.natAbs_mul_self]
 have e:x.natAbs<=n:=by
  rcases ae6 n x.natAbs with b|b
  ·have:=Nat.mul_lt_mul'' b b;omega
  exact b
 omega
end
section
variable {n:Nat}
inductive OpR where
 |swp (i:Nat)
 |rep (i c:Nat)
 |neg (i:Nat)
def OpR.i:OpR->Nat
 | .swp i=>i
 | .rep i _=>i
 | .neg i=>i
theorem Vy {t u:FF} {a b:Nat}:oy n (oy n e t) u a b=oy n e (jK n t u) a b:=by
 rw[vY,vY,<- ID];refine dI (fun _ _ _ _=>rfl) (fun i _=>?_) (fun i _=>?_)<;>
 ·grind [mV,l6]
/-! What the operations do to the Gram matrix. -/
theorem lA {F G:Nat->Int} {i:Nat}: ∀{m},i<m->(∀a,a<m->a≠i->F a=G a)->bW G m=bW F m+(G i-F i)
 |m+1,f,h=>by
  rw[bW,bW];by_cases e:i=m
  ·grind [aO]
  rw[lA (m:=m) (by omega) (fun a c b=>h a (by omega) b),h m (by omega) (aed e)];omega
end
section
variable {n:Nat}
theorem lN (m:SymF e n) (q: ∀k,k<n->0<dk e (k+1)) (x:Nat->Int) {k:Nat} (p:k<n):
  dk e k*BF n (bk e (k+1)) x x=dk e (k+1)*BF n (bk e k) x x-bW (fun j=>bk e k k j*x j) n*bW (fun j=>bk e k k j*x j) n:=by
 have c: ∀t,t<n->dk e (t+1)≠0:=fun t g=>by grind
 have h:dk e k*BF n (bk e (k+1)) x x=BF n (fun i j=>dk e k*bk e (k+1) i j+0*bk e k i j) x x:=by rw[xN];omega
 rw[h,dI (f':=fun i j=>dk e (k+1)*bk e k i j+(-1)*(bk e k k i*bk e k k j)) (fun i j l o=>by
  have:=sylv e k (fun t g=>c t (by omega)) i j;have b:=iO m k (by omega) (fun t g=>c t (by omega)) i k l (by omega);grind) (fun _ _=>rfl) (fun _ _=>rfl),xN,Ln,aO n (F:=fun i=>x i*bk e k k i) (G:=fun j=>bk e k k j*x j) (fun i _=>agP _ _)]
 omega
theorem Ib {f:FF} (b:PD f n) (x:Nat->Int) {N:Int} (c:BF n f x x<=N): ∀k,k<=n->BF n (bk f k) x x<=N*dk f k
 |0,_=>by
  rw[ce,ag6,dI (fun i j _ _=>cH f i j) (fun _ _=>rfl) (fun _ _=>rfl)];exact c
 |k+1,r=>by
  have p:=Ib b x c k (by omega);have e:=lN b.1 b.2 x (show k<n by omega);have l:0<dk f k:=jl fun t s=>b.2 t (by omega)
  have m:=b.2 k (by omega);have o:0<=bW (fun j=>bk f k k j*x j) n*bW (fun j=>bk f k k j*x j) n:=by
   rcases aec 0 (bW (fun j=>bk f k k j*x j) n)with h|h
   ·exact acP h h
   exact ac3 h h
  have q:dk f (k+1)*BF n (bk f k) x x<=dk f (k+1)*(N*dk f k):=acw p (by omega);have g:dk f k*BF n (bk f (k+1)) x x<=dk f k*(N*dk f (k+1)):=by
   grind
  exact ae7 g l
theorem Sg {f:FF} (b:RedR f n): ∀k,k<n->dk f k<=((2^k:Nat):Int)*dk f (k+1)
 |0,h=>by
  have q:=b.2.1 0 h;grind [ce]
 |k+1,h=>by
  have p:=Sg b k (by omega);obtain⟨m,j⟩:=b.2.2.2 k h;have c:=b.2.1 k (by omega);have g:=b.2.1 (k+1) h;unfold Qb at j;have o:=m (k+1) h (by omega);generalize bk f k (k+1) k=l at*
  generalize dk f (k+1+1)=d2 at*
  generalize dk f (k+1)=d1 at*
  generalize dk f k=d0 at*
  have r:4*(l*l)<=d1*d1:=by
   have e:(2*l.natAbs)*(2*l.natAbs)<=d1.toNat*d1.toNat:=acU (by omega) (by omega);grind [Int.natAbs_mul_self]
  have s:d1*d1<=2*(d0*d2):=by
   grind
  have t:d0*d2<=((2^k:Nat):Int)*d1*d2:=ac2 p (by omega);have u:d1*d1<=d1*(((2^(k+1):Nat):Int)*d2):=by
   have e:d1*(((2^(k+1):Nat):Int)*d2)=2*(((2^k:Nat):Int)*d1*d2):=by
    grind
   omega
  simp_all
theorem Cr (v:RedR e n) (c:Nat->Int) (W:0<=x) (hN:BF n e c c<=x) {M:Nat} (hM:x*((2^n:Nat):Int)<=(M:Int)*(M:Int)): ∀m k,m+k+1=n->(c k).natAbs<=M*2^m:=fun m=>by
 induction m using Nat.strongRecOn with
 |_ m ih=>
  intro k hk;have o:=v.pd;have g:k<n:=by omega
  have F: ∀t,t<n->dk e (t+1)≠0:=fun t T=>by have:=v.2.1 t T;omega
  have ab:=v.2.1 k g;have hd:0<dk e k:=jl fun t T=>v.2.1 t (by omega)
  have E:=lN o.1 o.2 c g;have K:=Ib o c hN k (by omega);have R:=(im o.1 o.2 c (n-(k+1)) (k+1) (by omega)).1;have O:=Sg v k g
  -- the sum
  obtain⟨L,X⟩: ∃L,L=bW (fun j=>bk e k k j*c j) n:=⟨_,rfl⟩;rw[<- X]at E;have B:L*L<=(M*dk e (k+1))*(M*dk e (k+1)):=by
   have a1:0<=dk e k*BF n (bk e (k+1)) c c:=acP (by omega) R;have a2:dk e (k+1)*BF n (bk e k) c c<=dk e (k+1)*(x*dk e k):=acw K (by omega);have a3:dk e (k+1)*(x*dk e k)<=dk e (k+1)*(x*(((2^k:Nat):Int)*dk e (k+1))):=acw (acw O W) (by omega);have a4:x*((2^k:Nat):Int)<=(M:Int)*(M:Int):=by
    have:((2^k:Nat):Int)<=((2^n:Nat):Int):=afj.2 (acF (by omega) (by omega));exact Int.le_trans (acw this W) hM
   have a5:x*((2^k:Nat):Int)*(dk e (k+1)*dk e (k+1))<=(M:Int)*(M:Int)*(dk e (k+1)*dk e (k+1)):=ac2 a4 (acP (by omega) (by omega));grind
  have aa:L.natAbs<=M*(dk e (k+1)).toNat:=by
   have b:(M:Int)*dk e (k+1)=((M*(dk e (k+1)).toNat:Nat):Int):=by
    grind
   rw[b]at B;have:=abC B;omega
  -- the other coordinates
  have u: ∀q,k+1+q<=n->2*(bW (fun j=>bk e k k j*c j) (k+1+q)-dk e (k+1)*c k).natAbs<=(dk e (k+1)).toNat*(M*(2^(m+1)-2^(m+1-q))):=fun q=>by
   induction q with
   |zero=>
    intro _;have b:bW (fun j=>bk e k k j*c j) (k+1)=dk e (k+1)*c k:=by
     rw[bW,aO k (G:=fun _=>0) (fun j hj=>by rw[DH o.1 F (by omega) hj (by omega),afJ]),dV,ca];omega
    grind
   |succ q V=>
    intro hq;have U:=V (by omega);rw[<- aeU,bW];have Z:=ih (n-(k+1+q)-1) (by omega) (k+1+q) (by omega);have ad:=(v.2.2.2 k (by omega)).1 (k+1+q) (by omega) (by omega);have H:=iO o.1 k (by omega) (fun t T=>F t (by omega)) k (k+1+q) g (by omega);rw[H];rw[show n-(k+1+q)-1=m-1-q by omega]at Z;have s:2^(m+1-q)=2*2^(m+1-(q+1))/\2^(m+1-(q+1))=2*2^(m-1-q):=by
     refine⟨?_,?_⟩
     ·rw[show m+1-q=(m+1-(q+1))+1 by omega,adk];omega
     rw[show m+1-(q+1)=(m-1-q)+1 by omega,adk];omega
    have Q:2^(m+1-q)<=2^(m+1):=acF (by omega) (by omega);have hD:(((dk e (k+1)).toNat:Nat):Int)=dk e (k+1):=by omega
    have e5:bW (fun j=>bk e k k j*c j) (k+1+q)+bk e k (k+1+q) k*c (k+1+q)-dk e (k+1)*c k=(bW (fun j=>bk e k k j*c j) (k+1+q)-dk e (k+1)*c k)+bk e k (k+1+q) k*c (k+1+q):=by omega
    rw[e5];generalize bW (fun j=>bk e k k j*c j) (k+1+q)-dk e (k+1)*c k=S at*
    generalize bk e k (k+1+q) k=l at*
    generalize c (k+1+q)=y at*
    generalize(dk e (k+1)).toNat=D at*
    have hl:2*l.natAbs<=D:=by omega
    have ac:2*(l*y).natAbs<=D*(M*2^(m-1-q)):=by
     rw[adt,<- ad1];exact acU hl Z
    have C:=afU S (l*y);generalize 2^(m-1-q)=P at*
    generalize 2^(m+1)=A at*
    obtain⟨p1,p2⟩:=s;rw[p1,p2]at U Q;rw[p2];have h6:D*(M*(A-2*(2*P)))+D*(M*P)<=D*(M*(A-2*P)):=by
     rw[<- ag7,<- ag7];exact acq _ (acq _ (by omega))
    omega
  have h:=u m (by omega);rw[show k+1+m=n by omega,<- X,show m+1-m=1 by omega]at h;have hD:(((dk e (k+1)).toNat:Nat):Int)=dk e (k+1):=by omega
  have I:0<(dk e (k+1)).toNat:=by omega
  have J:(dk e (k+1)*c k).natAbs=(dk e (k+1)).toNat*(c k).natAbs:=by
   grind
  have C:(dk e (k+1)*c k).natAbs<=L.natAbs+(L-dk e (k+1)*c k).natAbs:=by omega
  rw[J]at C;have s:2^(m+1)=2*2^m:=by omega
  have Y:0<2^m:=adg (by omega);generalize(L-dk e (k+1)*c k).natAbs=r at*
  generalize(dk e (k+1)).toNat=D at*
  generalize(c k).natAbs=z at*
  generalize L.natAbs=w at*
  rw[s]at h;generalize 2^m=P at*
  have h7:2*(M*D)+D*(M*(2*P-2^1))=D*(2*(M*P)):=by
   have b:2*P-2^1=2*(P-1):=by omega
   rw[b];obtain⟨p,rfl⟩: ∃p,P=p+1:=⟨P-1,by omega⟩;grind
  have h8:D*(2*z)<=D*(2*(M*P)):=by
   grind
  have:=afQ h8 I;omega
end
section
variable {n:Nat}
def Ls (a r:Int):Prop:=0<=r/\r*r<=a/\a<(r+1)*(r+1)
theorem uf {a u:Int} (h:Ls a x):u*u<=a↔ -x<=u/\u<=x:=by
 obtain⟨b,f,g⟩:=h;constructor
 ·intro l;constructor
  ·refine ad7 fun e=>?_
   have:=acZ (show x+1<= -u by omega) (show x+1<= -u by omega) (by omega) (by omega);grind
  refine ad7 fun e=>?_
  have:=acZ (show x+1<=u by omega) (show x+1<=u by omega) (by omega) (by omega);omega
 rintro⟨j,c⟩;rcases aec 0 u with h|h
 ·have:=acZ c c h b;omega
 have:=acZ (show -u<=x by omega) (show -u<=x by omega) (by omega) b;grind
theorem Ls.uniq {a s:Int} (h:Ls a x) (k:Ls a s):x=s:=by
 have b:=(uf h).1 k.2.1;have c:=(uf k).1 h.2.1;omega
theorem JQ {a:Int} (h:0<=a): ∃r,Ls a r:=by
 obtain⟨m,rfl⟩:=acO h;clear h
 induction m with
 |zero=>exact⟨0,by grind [Ls]⟩
 |succ m c=>
  obtain⟨r,b,e,f⟩:=c;by_cases h:((m+1:Nat):Int)<(r+1)*(r+1)
  ·exact⟨r,b,by omega,h⟩
  refine⟨r+1,by omega,by omega,?_⟩;grind
open Classical in
noncomputable def isqF (a:Int):Int:=if h: ∃r,Ls a r then Classical.choose h else 0
theorem de {a:Int} (h:0<=a):Ls a (isqF a):=by
 grind [isqF,JQ]
def jb (h:FF) (n k:Nat) (x:Nat->Int):Int:=bW (fun j=>if j<=k then 0 else bk h k k j*x j) n
def fH (h:FF) (n:Nat) (B:Int) (k:Nat) (x:Nat->Int):Int:=dk h k*(B*dk h (k+1)-BF n (bk h (k+1)) x x)
noncomputable def b9 (h:FF) (n:Nat) (B:Int) (k:Nat) (x:Nat->Int):Int:= -((isqF (fH h n B k x)+jb h n k x)/dk h (k+1))
noncomputable def cq (h:FF) (n:Nat) (B:Int) (k:Nat) (x:Nat->Int):Int:=(isqF (fH h n B k x)-jb h n k x)/dk h (k+1)
def fj (h:FF) (n:Nat) (B:Int) (k:Nat) (x:Nat->Int):Prop:=BF n (bk h k) x x<=B*dk h k
theorem yh {k:Nat} (f: ∀i,k<i->i<n->b i=c i):jb e n k b=jb e n k c:=aO n fun j g=>by
 grind
section
variable {h:FF} (hr:PD h n)
include hr
theorem DI {k i j:Nat} (e:k<=n) (b:i<n) (c:j<k):bk h k i j=0:=by
 rw[iO hr.1 k e (fun t f=>by have:=hr.2 t (by omega);omega) i j b (by omega)];exact ot h c i
theorem Dn {k:Nat} (m:k<=n) {x' y':Nat->Int} (e: ∀i,k<=i->i<n->b i=x' i) (l: ∀i,k<=i->i<n->c i=y' i):BF n (bk h k) b c=BF n (bk h k) x' y':=by
 have z: ∀u:Nat->Int,∀i,i<k->bW (fun j=>bk h k i j*u j) n=0:=fun u i f=>by
  rw[aO n (G:=fun _=>0*0) fun j _=>by grind [ot],gp,afJ]
 refine aO n fun i f=>?_
 by_cases g:i<k
 ·simp_all
 grind [aO,DI]
theorem fj.tail {k:Nat} (c:k<=n) {x':Nat->Int} (e: ∀i,k<=i->i<n->b i=x' i):fj h n x k b↔fj h n x k x':=by
 grind [fj,Dn]
theorem wA {k:Nat} (c:k<n) (x:Nat->Int):bW (fun j=>bk h k k j*x j) n=dk h (k+1)*x k+jb h n k x:=by
 have b:=lA (F:=fun j=>if j<=k then 0 else bk h k k j*x j) (G:=fun j=>bk h k k j*x j) c (fun j f e=>by
  grind [DI])
 rw[b,show(if k<=k then 0 else bk h k k k*x k)=(0:Int)from if_pos (acs k)];show jb h n k x+(dk h (k+1)*x k-0)=_;omega
theorem yk {B:Int} {k:Nat} (f:k<n) (e: ∀i,k<i->i<n->b i=c i):fH h n B k b=fH h n B k c:=by
 grind [fH,Dn]
theorem mw {k:Nat} (f:k<n) (e: ∀i,k<i->i<n->b i=c i):b9 h n x k b=b9 h n x k c:=by
 grind [b9,yk,yh]
theorem ms {k:Nat} (f:k<n) (e: ∀i,k<i->i<n->b i=c i):cq h n x k b=cq h n x k c:=by
 grind [cq,yk,yh]
theorem nR {k:Nat} (e:k<n) (c:fj h n x (k+1) b):0<=fH h n x k b:=by
 have:0<dk h k:=jl fun t f=>hr.2 t (by omega)
 exact acP (by omega) (by grind [fj])
theorem iY {k:Nat} (c:k<n) (g:fj h n x (k+1) b):fj h n x k b↔b9 h n x k b<=b k/\b k<=cq h n x k b:=by
 have e:0<dk h (k+1):=hr.2 k c;have key:=lN hr.1 hr.2 b c;rw[wA hr c]at key;have j:=de (nR hr c g);have f:fj h n x k b↔(dk h (k+1)*b k+jb h n k b)*(dk h (k+1)*b k+jb h n k b)<=fH h n x k b:=by
  unfold fj fH;have l:dk h (k+1)*BF n (bk h k) b b<=dk h (k+1)*(x*dk h k)↔BF n (bk h k) b b<=x*dk h k:=⟨fun h=>ae7 h e,fun h=>acw h (by omega)⟩;grind
 rw[f,uf j];unfold b9 cq;generalize isqF (fH h n x k b)=r at*
 generalize jb h n k b=s at*
 generalize dk h (k+1)=d at*
 have m:b k<=(r-s)/d↔b k*d<=r-s:=ael e;have o: -(b k)<=(r+s)/d↔ -(b k)*d<=r+s:=ael e;grind
theorem fj.up {k:Nat} (e:k<n) (f:fj h n x k b):fj h n x (k+1) b:=by
 have m:0<dk h (k+1):=hr.2 k e;have c:0<dk h k:=jl fun t o=>hr.2 t (by omega)
 have key:=lN hr.1 hr.2 b e;generalize bW (fun j=>bk h k k j*b j) n=L at*
 have g:0<=L*L:=by
  rcases aec 0 L with h|h
  ·exact acP h h
  exact ac3 h h
 unfold fj at*
 have l:=acw f (show 0<=dk h (k+1) by omega);refine ae7 (a:=dk h k) ?_ c;grind
theorem fj.ups {k:Nat} (c:fj h n x k b): ∀m,k+m<=n->fj h n x (k+m) b
 |0,_=>c
 |m+1,e=>(fj.ups c m (Nat.le_of_succ_le e)).up hr e
end
theorem m0:fj e n x 0 b↔BF n e b b<=x:=by
 unfold fj;rw[ce,ag6,dI (fun i j _ _=>cH e i j) (fun _ _=>rfl) (fun _ _=>rfl)]
theorem gZ (c:PD e n) (j:0<=x):fj e n x n b:=by
 have z:BF n (bk e n) b b=0:=by
  rw[Dn c (acs n) (x':=fun _=>0) (y':=fun _=>0) (fun i f g=>by omega) (fun i f g=>by omega)];grind [jc]
 have l:0<dk e n:=jl fun t m=>c.2 t (by omega)
 unfold fj;rw[z];exact acP j (by omega)
/-! Lists. -/
def aJ (n:Nat) (y:List Int):Nat->Int:=fun i=>if i+y.length<n then 0 else y.getD (i+y.length-n) 0
theorem iI {k i:Nat} (e:f.length+(k+1)=n) (b:k<i):aJ n (x::f) i=aJ n f i:=by
 grind [aJ]
theorem jD {k:Nat} (b:f.length+(k+1)=n):aJ n (x::f) k=x:=by
 grind [aJ]
theorem Xx {k:Nat}: ∀{p:List Int},p.length=k->f.length+k=n-> ∀i,k<=i->aJ n (p++f) i=aJ n f i
 |p,e,c,i,b=>by
  grind [aJ]
theorem nS (b:f.length=n) (i:Nat):aJ n f i=f.getD i 0:=by
 grind [aJ]
def rng (a b:Int):List Int:=(List.range (b-a+1).toNat).map fun i:Nat=>a+(i:Int)
theorem oR {a c:Int}:c∈rng a x↔a<=c/\c<=x:=by
 simp only[rng,acn,acV];constructor
 ·omega
 rintro⟨e,f⟩;exact⟨(c-a).toNat,by omega,by omega⟩
noncomputable def dO (h:FF) (n:Nat) (B:Int):Nat->List Int->List (List Int)
 |0,y=>[y]
 |k+1,y=>(rng (b9 h n B k (aJ n y)) (cq h n B k (aJ n y))).flatMap fun c=>dO h n B k (c::y)
theorem Ee {h:FF} (g:PD h n) {B:Int}: ∀k (y:List Int),y.length+k=n->fj h n B k (aJ n y)-> ∀z,z∈dO h n B k y↔(∃p,p.length=k/\z=p++y)/\BF n h (aJ n z) (aJ n z)<=B
 |0,y,o,l,z=>by
  rw[dO,aco];constructor
  ·rintro rfl;exact⟨⟨[],rfl,rfl⟩,m0.1 l⟩
  grind
 |k+1,y,o,l,z=>by
  have step: ∀c,fj h n B k (aJ n (c::y))↔b9 h n B k (aJ n y)<=c/\c<=cq h n B k (aJ n y):=fun c=>by
   have w: ∀i,k<i->i<n->aJ n (c::y) i=aJ n y i:=fun i r _=>iI o r
   grind [iY,fj.tail,jD,mw,ms]
  rw[dO,afs];constructor
  ·rintro⟨c,s,v⟩;obtain⟨⟨p,m,rfl⟩,b⟩:=(Ee g k (c::y) (by grind) ((step c).2 (oR.1 s)) z).1 v;exact⟨⟨p++[c],by simp[m],by simp⟩,b⟩
  rintro⟨⟨p,m,rfl⟩,b⟩;obtain⟨q,c,rfl⟩: ∃q c,p=q++[c]:=by
   have f:p≠[]:=fun h=>by grind
   exact⟨p.dropLast,p.getLast f,(List.dropLast_concat_getLast f).symm⟩
  have u:q.length=k:=by grind
  have e:q++[c]++y=q++c::y:=by simp
  rw[e]at b⊢;have t:(c::y).length+k=n:=by grind
  have j:fj h n B k (aJ n (c::y)):=by
   have:=fj.ups g (m0.2 b) k (by omega);grind [fj.tail,Xx]
  exact⟨c,oR.2 ((step c).1 j),(Ee g k (c::y) t j _).2 ⟨⟨q,u,rfl⟩,b⟩⟩
theorem Ed (g:PD e n) (j:0<=x) (z:List Int):z∈dO e n x n []↔z.length=n/\BF n e (fun i=>z.getD i 0) (fun i=>z.getD i 0)<=x:=by
 rw[Ee g n [] (by simp) (gZ g j)];constructor
 ·rintro⟨⟨p,f,rfl⟩,b⟩;rw[adc]at b⊢;exact⟨f,by rwa[show aJ n p=fun i=>p.getD i 0 from funext (nS f)]at b⟩
 rintro⟨c,b⟩;exact⟨⟨z,c,by simp⟩,by rwa[show aJ n z=fun i=>z.getD i 0 from funext (nS c)]⟩
end
theorem fE (l:List Nat) (r:l.length<=1073741824):CallC prog 167 [cW l] ⟨[],cW (co l)⟩:=by
 refine ax func167 rfl ntmps167 (aA (k:=?_));refine ai (ay (G:={n:Nat//n<=l.length/\co l=co (l.take n)}) (fun n=>⟨(cW (l.take n.1)::j16 (j4 ([]))),Hm []⟩) (fun n=>n.1) ⟨l.length,acs _,by simp⟩ ?_ ?_)
 ·refine aj trivial ?_;simp[wk]
 rintro⟨n,s,p⟩;simp only;have c:(l.take n).length=n:=by simp;omega
 by_cases o:0<n
 ·obtain⟨a,q⟩:=getElem?_of_lt (l:=l) (k:=n-1) (by omega);have j:((n:Int)-1).toNat=n-1:=by omega
  have f:(l.take n)[n-1]?=some a:=by grind
  have m:l.take n=l.take (n-1)++[a]:=by
   have:=ad4 (i:=n-1) (l:=l) (by omega);grind
  refine ai (aH (aC c (aC j f)) (k:=?_));refine bs rfl (fun e=>ak ?_) (fun e=>aX ?_)
  ·have h:a=0:=by grind
   refine am (dF (aC c (aC j (dW mP))) (k:=?_));refine⟨⟨n-1,by omega,?_⟩,by simp only;omega,aj trivial ?_⟩
   ·simp_all[jG]
   simp[wk,List.take_take,afd (show n-1<=n by omega)]
  have h:a≠0:=by grind
  have b:co l=l.take n:=by grind [rp]
  show bA _ _ _ _;refine ar (k:=aE (aC @results167 b))
 have g:n=0:=by omega
 subst g;have b:co l=l.take 0:=by grind [co]
 refine ai (ar (k:=bs rfl (fun e=>by cases e) (fun e=>aX (bi (k:=aE (aC @results167 b))))))
theorem fO (neg:Bool) (n:Nat):CallC prog 164 [.raw (.bool neg),cW (au n)] ⟨[],tZ (iq neg n)⟩:=by
 by_cases b:n=0
 ·subst b;rw[cn,show tZ (iq neg 0)= .agg [.p (.raw (.bool false)),.p (.sl (ls fU []))] by
   grind [iq,cn]]
  refine ax func164 rfl ntmps164 (aA (k:=ai (ar (k:=az rfl (ar (k:=?_))))));refine aQ ⟨.inr rfl,?_⟩;refine⟨_,g7 4,nJ (d:=1000) rfl ?_ rfl⟩;simp(disch:=omega) only[kd,results164,zH,zO,Fl,IA,Nat.reduceAdd]
 have e:=gU (n:=n);have c:(au n).length≠0:=by omega
 rw[show tZ (iq neg n)= .agg [.p (.raw (.bool neg)),.p (.sl (ls fU (au n)))] by
  grind [uW,MS]]
 refine ax func164 rfl ntmps164 (aA (k:=ai (ar (k:=ao rfl (ak (ar (k:=aE @results164)))))))
end Go.Proofs.YtalmoejhjceflaaGreat
