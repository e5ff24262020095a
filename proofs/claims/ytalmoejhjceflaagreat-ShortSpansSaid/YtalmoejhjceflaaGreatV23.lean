/-
  Part 24 of a proof (walks and plain facts).
-/
import Derived.Test.YtalmoejhjceflaaGreatV22
set_option linter.all false
set_option maxRecDepth 100000
set_option maxHeartbeats 64000000
open List renaming replicate → af
namespace Go.Proofs.YtalmoejhjceflaaGreat
open Go.RowKit Go.Proofs.Tryz
variable {b c:Nat->Int} {x:Int} {e:List Int} {f:FF} {n:Nat}
section
section
variable {n:Nat} {X:FF} {p:Nat->Nat}
def spM (X:FF) (p:Nat->Nat) (k a j:Nat):Int:=eH (X a) (om X k) (j::(jc k).map p)
def pvD (X:FF) (p:Nat->Nat) (k:Nat):Int:=om X k ((jc k).map p)
theorem JJ (a j:Nat):spM X p 0 a j=X a j:=by simp[spM,jc,eH,om]
theorem Pv {f:Nat->Nat} {k:Nat} (a:Nat) (h: ∀t,t<k->f t=p t):spM X p k a (f n)=bk (fun i t=>X i (f t)) k a n:=by
 have b:(jc k).map p=(jc k).map f:=ae1 fun t e=>(h t (iK e)).symm
 unfold spM bk;rw[b,<- aeX,<- sj]
 congr 1
 exact funext fun l=>(ue (R:=X) f k l).symm
theorem V6 {f:Nat->Nat} {k:Nat} (h: ∀t,t<k->f t=p t):pvD X p k=dk (fun i t=>X i (f t)) k:=by
 have b:(jc k).map p=(jc k).map f:=ae1 fun t c=>(h t (iK c)).symm
 unfold pvD dk;rw[b];exact(ue (R:=X) f k (jc k)).symm
theorem Pw {k:Nat} (l: ∀t,t<k->pvD X p (t+1)≠0) (a j:Nat):
  pvD X p k*spM X p (k+1) a j=pvD X p (k+1)*spM X p k a j-spM X p k a (p k)*spM X p k k j:=by
 obtain⟨f,b⟩: ∃f:Nat->Nat,f=fun t=>if t<=k then p t else j:=⟨_,rfl⟩
 have h: ∀m,m<=k+1-> ∀t,t<m->f t=p t:=fun m o t c=>by rw[b];exact if_pos (by omega)
 have e:j=f (k+1):=by rw[b];exact(if_neg (by omega)).symm
 have g:p k=f k:=(h (k+1) (aeJ _) k (by omega)).symm;rw[e,g,Pv a (h (k+1) (aeJ _)),Pv a (h k (by omega)),Pv a (h k (by omega)),Pv k (h k (by omega)),V6 (h k (by omega)),V6 (h (k+1) (aeJ _))];exact sylv _ k (fun t c=>by rw[<- V6 (h (t+1) (by omega))];exact l t c) a (k+1)
theorem acW {k:Nat} (b: ∀t,t<k->pvD X p (t+1)≠0) (a j:Nat):
  spM X p (k+1) a j=(pvD X p (k+1)*spM X p k a j-spM X p k a (p k)*spM X p k k j)/pvD X p k:=by
 have c:pvD X p k≠0:=by
  cases k with
  |zero=>show(1:Int)≠0;omega
  |succ k=>exact b k (by omega)
 rw[<- Pw b,ah6 _ c]
theorem Va (c:Nat->Int) (X:FF) (F:List Nat->Int) (b:List Nat): ∀m,eH (fun i=>smF (fun a=>c a*X a i) m) F b=smF (fun a=>c a*eH (X a) F b) m
 |0=>nF b F fun c _=>rfl
 |m+1=>by
  have:=Fs 1 (c m) (fun i=>smF (fun a=>c a*X a i) m) (X m) b F;simp only[ag0]at this;rw[smF,<- Va c X F b m,<- this];rfl
theorem WE: ∀s,(∀t,t<s->pvD X p (t+1)≠0/\p t<n)->IndV n s X
 |0,_=>fun c _ a f=>by omega
 |s+1,g=>fun c m=>by
  have b:=Va c X (om X s) ((jc (s+1)).map p) (s+1);rw[nF _ _ fun i j=>by
   obtain⟨t,o,rfl⟩:=aeL.1 j;exact m _ (g t (iK o)).2]at b
  have q:smF (fun a=>c a*eH (X a) (om X s) ((jc (s+1)).map p)) s=0:=by
   rw[au s (G:=fun _=>0) fun a f=>by rw[FT X f,af1],b7]
  rw[smF,q]at b;have r:c s*pvD X p (s+1)=0:=by
   have w:(0:Int)+c s*pvD X p (s+1)=0:=b.symm;omega
  have l:c s=0:=by
   rcases Int.mul_eq_zero.1 r with h|h
   ·exact h
   exact absurd h (g s (by omega)).1
  have u:=WE s (fun t o=>g t (by omega)) c fun i j=>by
   have v:=m i j;rw[smF,l]at v;omega
  intro a f;by_cases e:a=s
  ·rw[e];exact l
  exact u a (by omega)
theorem Gt: ∀k,(∀t,t<k->pvD X p (t+1)≠0)-> ∀a,∃(e q:Int) (c:Nat->Int),e≠0/\q≠0/\ ∀j,e*spM X p k a j=q*X a j+smF (fun b=>c b*X b j) k
 |0,_,a=>⟨1,1,fun _=>0,by decide,by decide,fun j=>by rw[JJ];simp[smF]⟩
 |k+1,h,a=>by
  obtain⟨f,G,l,A,B,C⟩:=Gt k (fun t s=>h t (by omega)) a;obtain⟨g,o,m,r,J,x⟩:=Gt k (fun t s=>h t (by omega)) k;have y:pvD X p k≠0:=by
   cases k with
   |zero=>show(1:Int)≠0;omega
   |succ k=>exact h k (by omega)
  have D:=h k (by omega);obtain⟨z,F⟩: ∃z,z=spM X p k a (p k):=⟨_,rfl⟩;refine⟨f*g*pvD X p k,pvD X p (k+1)*g*G,fun b=>if b=k then-z*f*o else pvD X p (k+1)*g*l b-z*f*m b,agF (agF A r) y,agF (agF D r) B,fun j=>?_⟩;have E:=Pw (fun t s=>h t (by omega)) a j (k:=k) (X:=X) (p:=p);have H:=C j;have I:=x j;rw[<- F]at E;have e:smF (fun b=>(if b=k then-z*f*o else pvD X p (k+1)*g*l b-z*f*m b)*X b j) (k+1)=(pvD X p (k+1)*g)*smF (fun b=>l b*X b j) k+(- (z*f))*smF (fun b=>m b*X b j) k+(- z*f*o)*X k j:=by
   rw[smF,if_pos rfl,<- aW,<- aW,<- iw]
   congr 1
   exact au k fun b K=>by
    rw[if_neg (by omega)];grind
  rw[e];generalize smF (fun b=>l b*X b j) k=s1 at*
  generalize smF (fun b=>m b*X b j) k=s2 at*
  generalize spM X p (k+1) a j=u at*
  generalize spM X p k a j=v at*
  generalize spM X p k k j=w at*
  generalize pvD X p k=d0 at*
  generalize pvD X p (k+1)=d1 at*
  grind
theorem Z9 {s a:Nat} (m: ∀t,t<s->pvD X p (t+1)≠0) (f: ∀j,j<n->spM X p s a j=0): ∃(q:Int) (c:Nat->Int),q≠0/\ ∀i,i<n->q*X a i=smF (fun b=>c b*X b i) s:=by
 obtain⟨e,q,c,r,g,h⟩:=Gt s m a;refine⟨q,fun b=> -1*c b,g,fun i o=>?_⟩;have l:=h i;rw[f i o,af1]at l;rw[au s (G:=fun b=> -1*(c b*X b i)) fun b _=>by rw[ahb],aW];omega
theorem ad1 {m s:Nat} {Y:FF} (g: ∀b,b<s-> ∃a,a<m/\ ∀i,i<n->Y b i=f a i) (e:IndV n s Y) (c:Hng n m s f Y):rkF n (kp m f)=s:=
 Nat.le_antisymm (sK (gK n _) c) (BV (gK n _) g e)
end
end
section
variable {n:Nat}
def NC (a r:Int):Prop:=0<=r/\r*r<=a/\a<(r+1)*(r+1)
theorem vn {a u:Int} (h:NC a x):u*u<=a↔ -x<=u/\u<=x:=by
 obtain⟨b,f,g⟩:=h;constructor
 ·intro l;constructor
  ·refine afR fun e=>?_
   have:=ae0 (show x+1<= -u by omega) (show x+1<= -u by omega) (by omega) (by omega);grind
  refine afR fun e=>?_
  have:=ae0 (show x+1<=u by omega) (show x+1<=u by omega) (by omega) (by omega);omega
 rintro⟨j,c⟩;rcases afF 0 u with h|h
 ·have:=ae0 c c h b;omega
 have:=ae0 (show -u<=x by omega) (show -u<=x by omega) (by omega) b;grind
theorem NC.uniq {a s:Int} (h:NC a x) (k:NC a s):x=s:=by
 have b:=(vn h).1 k.2.1;have c:=(vn k).1 h.2.1;omega
theorem Lv {a:Int} (h:0<=a): ∃r,NC a r:=by
 obtain⟨m,rfl⟩:=afw h;clear h
 induction m with
 |zero=>exact⟨0,by grind [NC]⟩
 |succ m c=>
  obtain⟨r,b,e,f⟩:=c;by_cases h:((m+1:Nat):Int)<(r+1)*(r+1)
  ·exact⟨r,b,by omega,h⟩
  refine⟨r+1,by omega,by omega,?_⟩;grind
open Classical in
noncomputable def isqF (a:Int):Int:=if h: ∃r,NC a r then Classical.choose h else 0
theorem dU {a:Int} (h:0<=a):NC a (isqF a):=by
 grind [isqF,Lv]
def jU (h:FF) (n k:Nat) (x:Nat->Int):Int:=smF (fun j=>if j<=k then 0 else bk h k k j*x j) n
def gE (h:FF) (n:Nat) (B:Int) (k:Nat) (x:Nat->Int):Int:=dk h k*(B*dk h (k+1)-BF n (bk h (k+1)) x x)
noncomputable def cu (h:FF) (n:Nat) (B:Int) (k:Nat) (x:Nat->Int):Int:= -((isqF (gE h n B k x)+jU h n k x)/dk h (k+1))
noncomputable def dy (h:FF) (n:Nat) (B:Int) (k:Nat) (x:Nat->Int):Int:=(isqF (gE h n B k x)-jU h n k x)/dk h (k+1)
def fq (h:FF) (n:Nat) (B:Int) (k:Nat) (x:Nat->Int):Prop:=BF n (bk h k) x x<=B*dk h k
theorem zw {k:Nat} (e: ∀i,k<i->i<n->b i=c i):jU f n k b=jU f n k c:=au n fun j g=>by
 grind
section
variable {h:FF} (hr:PD h n)
include hr
theorem NT {k i j:Nat} (e:k<=n) (b:i<n) (c:j<k):bk h k i j=0:=by
 rw[iJ hr.1 k e (fun t f=>by have:=hr.2 t (by omega);omega) i j b (by omega)];exact kX h c i
theorem Ev {k:Nat} (m:k<=n) {x' y':Nat->Int} (e: ∀i,k<=i->i<n->b i=x' i) (l: ∀i,k<=i->i<n->c i=y' i):BF n (bk h k) b c=BF n (bk h k) x' y':=by
 have z: ∀u:Nat->Int,∀i,i<k->smF (fun j=>bk h k i j*u j) n=0:=fun u i f=>by
  rw[au n (G:=fun _=>0*0) fun j _=>by grind [kX],aW,ag2]
 refine au n fun i f=>?_
 by_cases g:i<k
 ·simp_all
 grind [au,NT]
theorem fq.tail {k:Nat} (c:k<=n) {x':Nat->Int} (e: ∀i,k<=i->i<n->b i=x' i):fq h n x k b↔fq h n x k x':=by
 grind [fq,Ev]
theorem xO {k:Nat} (c:k<n) (x:Nat->Int):smF (fun j=>bk h k k j*x j) n=dk h (k+1)*x k+jU h n k x:=by
 have b:=mt (F:=fun j=>if j<=k then 0 else bk h k k j*x j) (G:=fun j=>bk h k k j*x j) c (fun j f e=>by
  grind [NT])
 rw[b,show(if k<=k then 0 else bk h k k k*x k)=(0:Int)from if_pos (aeJ k)];show jU h n k x+(dk h (k+1)*x k-0)=_;omega
theorem zx {B:Int} {k:Nat} (f:k<n) (e: ∀i,k<i->i<n->b i=c i):gE h n B k b=gE h n B k c:=by
 grind [gE,Ev]
theorem lf {k:Nat} (f:k<n) (e: ∀i,k<i->i<n->b i=c i):cu h n x k b=cu h n x k c:=by
 grind [cu,zx,zw]
theorem k9 {k:Nat} (f:k<n) (e: ∀i,k<i->i<n->b i=c i):dy h n x k b=dy h n x k c:=by
 grind [dy,zx,zw]
theorem oZ {k:Nat} (e:k<n) (c:fq h n x (k+1) b):0<=gE h n x k b:=by
 have:0<dk h k:=lS fun t f=>hr.2 t (by omega)
 exact aeQ (by omega) (by grind [fq])
theorem ig {k:Nat} (c:k<n) (g:fq h n x (k+1) b):fq h n x k b↔cu h n x k b<=b k/\b k<=dy h n x k b:=by
 have e:0<dk h (k+1):=hr.2 k c;have key:=kT hr.1 hr.2 b c;rw[xO hr c]at key;have j:=dU (oZ hr c g);have f:fq h n x k b↔(dk h (k+1)*b k+jU h n k b)*(dk h (k+1)*b k+jU h n k b)<=gE h n x k b:=by
  unfold fq gE;have l:dk h (k+1)*BF n (bk h k) b b<=dk h (k+1)*(x*dk h k)↔BF n (bk h k) b b<=x*dk h k:=⟨fun h=>afe h e,fun h=>aeO h (by omega)⟩;grind
 rw[f,vn j];unfold cu dy;generalize isqF (gE h n x k b)=r at*
 generalize jU h n k b=s at*
 generalize dk h (k+1)=d at*
 have m:b k<=(r-s)/d↔b k*d<=r-s:=agH e;have o: -(b k)<=(r+s)/d↔ -(b k)*d<=r+s:=agH e;grind
theorem fq.up {k:Nat} (e:k<n) (f:fq h n x k b):fq h n x (k+1) b:=by
 have m:0<dk h (k+1):=hr.2 k e;have c:0<dk h k:=lS fun t o=>hr.2 t (by omega)
 have key:=kT hr.1 hr.2 b e;generalize smF (fun j=>bk h k k j*b j) n=L at*
 have g:0<=L*L:=by
  rcases afF 0 L with h|h
  ·exact aeQ h h
  exact ae9 h h
 unfold fq at*
 have l:=aeO f (show 0<=dk h (k+1) by omega);refine afe (a:=dk h k) ?_ c;grind
theorem fq.ups {k:Nat} (c:fq h n x k b): ∀m,k+m<=n->fq h n x (k+m) b
 |0,_=>c
 |m+1,e=>(fq.ups c m (Nat.le_of_succ_le e)).up hr e
end
theorem lk:fq f n x 0 b↔BF n f b b<=x:=by
 unfold fq;rw[b8,ait,cf (fun i j _ _=>de f i j) (fun _ _=>rfl) (fun _ _=>rfl)]
theorem gN (c:PD f n) (j:0<=x):fq f n x n b:=by
 have z:BF n (bk f n) b b=0:=by
  rw[Ev c (aeJ n) (x':=fun _=>0) (y':=fun _=>0) (fun i e g=>by omega) (fun i e g=>by omega)];grind [gM]
 have l:0<dk f n:=lS fun t m=>c.2 t (by omega)
 unfold fq;rw[z];exact aeQ j (by omega)
/-! Lists. -/
def aL (n:Nat) (y:List Int):Nat->Int:=fun i=>if i+y.length<n then 0 else y.getD (i+y.length-n) 0
theorem ia {k i:Nat} (f:e.length+(k+1)=n) (b:k<i):aL n (x::e) i=aL n e i:=by
 grind [aL]
theorem iV {k:Nat} (b:e.length+(k+1)=n):aL n (x::e) k=x:=by
 grind [aL]
theorem aan {k:Nat}: ∀{p:List Int},p.length=k->e.length+k=n-> ∀i,k<=i->aL n (p++e) i=aL n e i
 |p,f,c,i,b=>by
  grind [aL]
theorem nj (b:e.length=n) (i:Nat):aL n e i=e.getD i 0:=by
 grind [aL]
def rng (a b:Int):List Int:=(List.range (b-a+1).toNat).map fun i:Nat=>a+(i:Int)
theorem mr {a c:Int}:c∈rng a x↔a<=c/\c<=x:=by
 simp only[rng,aeL,afE];constructor
 ·omega
 rintro⟨e,f⟩;exact⟨(c-a).toNat,by omega,by omega⟩
noncomputable def e9 (h:FF) (n:Nat) (B:Int):Nat->List Int->List (List Int)
 |0,y=>[y]
 |k+1,y=>(rng (cu h n B k (aL n y)) (dy h n B k (aL n y))).flatMap fun c=>e9 h n B k (c::y)
theorem FC {h:FF} (g:PD h n) {B:Int}: ∀k (y:List Int),y.length+k=n->fq h n B k (aL n y)-> ∀z,z∈e9 h n B k y↔(∃p,p.length=k/\z=p++y)/\BF n h (aL n z) (aL n z)<=B
 |0,y,o,l,z=>by
  rw[e9,aeK];constructor
  ·rintro rfl;exact⟨⟨[],rfl,rfl⟩,lk.1 l⟩
  grind
 |k+1,y,o,l,z=>by
  have step: ∀c,fq h n B k (aL n (c::y))↔cu h n B k (aL n y)<=c/\c<=dy h n B k (aL n y):=fun c=>by
   have w: ∀i,k<i->i<n->aL n (c::y) i=aL n y i:=fun i r _=>ia o r
   grind [ig,fq.tail,iV,lf,k9]
  rw[e9,ahj];constructor
  ·rintro⟨c,s,v⟩;obtain⟨⟨p,m,rfl⟩,b⟩:=(FC g k (c::y) (by grind) ((step c).2 (mr.1 s)) z).1 v;exact⟨⟨p++[c],by simp[m],by simp⟩,b⟩
  rintro⟨⟨p,m,rfl⟩,b⟩;obtain⟨q,c,rfl⟩: ∃q c,p=q++[c]:=by
   have f:p≠[]:=fun h=>by grind
   exact⟨p.dropLast,p.getLast f,(List.dropLast_concat_getLast f).symm⟩
  have u:q.length=k:=by grind
  have e:q++[c]++y=q++c::y:=by simp
  rw[e]at b⊢;have t:(c::y).length+k=n:=by grind
  have j:fq h n B k (aL n (c::y)):=by
   have:=fq.ups g (lk.2 b) k (by omega);grind [fq.tail,aan]
  exact⟨c,mr.2 ((step c).1 j),(FC g k (c::y) t j _).2 ⟨⟨q,u,rfl⟩,b⟩⟩
theorem vv (g:PD f n) (j:0<=x) (z:List Int):z∈e9 f n x n []↔z.length=n/\BF n f (fun i=>z.getD i 0) (fun i=>z.getD i 0)<=x:=by
 rw[FC g n [] (by simp) (gN g j)];constructor
 ·rintro⟨⟨p,e,rfl⟩,b⟩;rw[afz]at b⊢;exact⟨e,by rwa[show aL n p=fun i=>p.getD i 0 from funext (nj e)]at b⟩
 rintro⟨c,b⟩;exact⟨⟨z,c,by simp⟩,by rwa[show aL n z=fun i=>z.getD i 0 from funext (nj c)]⟩
end
theorem i5 (l:List Nat) (r:l.length<=1073741824):CallC prog 167 [eY l] ⟨[],eY (dC l)⟩:=by
 refine aB func167 rfl ntmps167 (aE (k:=?_));refine aj (ay (G:={n:Nat//n<=l.length/\dC l=dC (l.take n)}) (fun n=>⟨(eY (l.take n.1)::j16 (j4 ([]))),Hm []⟩) (fun n=>n.1) ⟨l.length,aeJ _,by simp⟩ ?_ ?_)
 ·refine ak trivial ?_;simp[wk]
 rintro⟨n,s,p⟩;simp only;have c:(l.take n).length=n:=by simp;omega
 by_cases o:0<n
 ·obtain⟨a,q⟩:=getElem?_of_lt (l:=l) (k:=n-1) (by omega);have j:((n:Int)-1).toNat=n-1:=by omega
  have f:(l.take n)[n-1]?=some a:=by grind
  have m:l.take n=l.take (n-1)++[a]:=by
   have:=agm (i:=n-1) (l:=l) (by omega);grind
  refine aj (aF (aG c (aG j f)) (k:=?_));refine aX rfl (fun e=>al ?_) (fun e=>aT ?_)
  ·have h:a=0:=by grind
   refine ao (dz (aG c (aG j (fj n4))) (k:=?_));refine⟨⟨n-1,by omega,?_⟩,by simp only;omega,ak trivial ?_⟩
   ·simp_all[ko]
   simp[wk,List.take_take,ahI (show n-1<=n by omega)]
  have h:a≠0:=by grind
  have b:dC l=l.take n:=by grind [sU]
  show bv _ _ _ _;refine ax (k:=aI (aG @results167 b))
 have g:n=0:=by omega
 subst g;have b:dC l=l.take 0:=by grind [dC]
 refine aj (ax (k:=aX rfl (fun e=>by cases e) (fun e=>aT (aZ (k:=aI (aG @results167 b))))))
theorem gI (neg:Bool) (n:Nat):CallC prog 164 [.raw (.bool neg),eY (aD n)] ⟨[],tZ (jd neg n)⟩:=by
 by_cases b:n=0
 ·subst b;rw[cX,show tZ (jd neg 0)= .agg [.p (.raw (.bool false)),.p (.sl (ls fU []))] by
   grind [jd,cX]]
  refine aB func164 rfl ntmps164 (aE (k:=aj (ax (k:=aC rfl (ax (k:=?_))))));refine aM ⟨.inr rfl,?_⟩;refine⟨_,io 4,oW (d:=1000) rfl ?_ rfl⟩;simp(disch:=omega) only[kd,results164,zH,zO,GP,GV,Nat.reduceAdd]
 have e:=jC (n:=n);have c:(aD n).length≠0:=by omega
 rw[show tZ (jd neg n)= .agg [.p (.raw (.bool neg)),.p (.sl (ls fU (aD n)))] by
  grind [wg,Pp]]
 refine aB func164 rfl ntmps164 (aE (k:=aj (ax (k:=aq rfl (al (ax (k:=aI @results164)))))))
theorem nC (u:Nat) (h:u<18446744073709551616):CallC prog 165 [.raw (.int .u64 u)] ⟨[],eY (aD u)⟩:=by
 have b:Lmb [u%4294967296,u/4294967296]:=by intro a g;grind
 have e:=i5 [u%4294967296,u/4294967296] (by simp);rw[e8 b,Eo]at e;have f:IntKind.u32.wrap (u:Int)=((u%4294967296:Nat):Int):=by rfl
 have c:IntKind.u32.wrap ((u:Int).fdiv (2^(min (32:Int).toNat IntKind.u64.bits)))=((u/4294967296:Nat):Int):=by
  rw[ahi];show(Int.fdiv (u:Int) 4294967296)%4294967296=_;grind
 simp only[Int.reduceToNat]at c;refine aB func165 rfl ntmps165 (aE (k:=ce [⟨6,_,_,_,e⟩] (aG @OM (aG f c)) (k:=aI @results165)))
theorem vk (l:List Nat) (p:Lmb l) (s:l.length<=2):CallC prog 208 [eY l] ⟨[],.raw (.int .u64 (natV l:Nat))⟩:=by
 refine aB func208 rfl ntmps208 (aE (k:=aZ (k:=aj (aZ (k:=?_)))));refine ay (G:=adu l) (fun g=>⟨(jk::jk::jk::.raw (.int .u64 (g.u:Int))::jk::jk::eY l::rN l.length::rN g.i::j4 (j4 (j4 (jk::[])))),Hm []⟩) (fun g=>l.length-g.i) ⟨0,0,⟨by omega,by omega⟩,rfl⟩ ?_ ?_
 ·refine ak trivial ?_;simp[wk]
 rintro⟨i,u,t,o⟩;simp only;have b:=vC p i;rw[<- o]at b;by_cases r:i<l.length
 ·obtain⟨a,j⟩:=getElem?_of_lt r;have q:=e7 p j;have n:=iN j;rw[<- o]at n;refine ax (k:=aP rfl (aj (ao (aF j (k:=?_)))));have m:i=0\/i=1:=by omega
  rcases m with rfl|rfl
  ·have h:IntKind.u64.wrap ((a:Int)*2^min (32*((0:Nat):Int)).toNat IntKind.u64.bits)=(a:Int):=by
    grind [IntKind.wrap_u64]
   have f:u=0:=by omega
   have c:=ZE u a (by omega) (by omega);rw[f,Nat.zero_or,<- f]at c;refine dz (aG h c) (k:=bK (k:=?_));refine⟨⟨1,a,⟨by omega,by omega⟩,by grind⟩,by grind,ak trivial ?_⟩;simp[wk]
  have h:IntKind.u64.wrap ((a:Int)*2^min (32*((1:Nat):Int)).toNat IntKind.u64.bits)=((a*4294967296:Nat):Int):=by
   rw[afK];show((a:Int)*4294967296)%_=_;omega
  simp only[Nat.pow_one]at b;have c:=ZE u (a*4294967296) (by omega) (by omega);rw[show a*4294967296=a*2^32 from rfl,O3 _ _ _ b,show a*2^32=a*4294967296 from rfl]at c;refine dz (aG h c) (k:=bK (k:=?_));refine⟨⟨2,a*4294967296+u,⟨by omega,by omega⟩,by grind⟩,by grind,ak trivial ?_⟩;simp[wk]
 have e:u=natV l:=by grind
 rw[<- e];refine ax (k:=aQ rfl (aZ (k:=aI @results208)))
theorem qX (n:Int) (f: -9223372036854775808<=n) (g:n<=9223372036854775807):CallC prog 117 [.raw (.int .i64 n)] ⟨[],tZ n⟩:=by
 have e:=nC n.natAbs (by omega);by_cases h:n<0
 ·have b:=gI true n.natAbs;have c:IntKind.u64.wrap (0-IntKind.u64.wrap n)=((n.natAbs:Nat):Int):=by grind [IntKind.wrap_u64]
  rw[show jd true n.natAbs=n by grind [jd]]at b;refine aB func117 rfl ntmps117 (aE (k:=aj (ax (k:=aC rfl (ce [⟨3,_,_,_,e⟩,⟨4,_,_,_,b⟩] c (k:=aI @results117))))))
 have b:=gI false n.natAbs;have c:IntKind.u64.wrap n=((n.natAbs:Nat):Int):=by rw[afK];omega
 rw[show jd false n.natAbs=n by grind [jd]]at b;refine aB func117 rfl ntmps117 (aE (k:=aj (ax (k:=aq rfl (al (ce [⟨2,_,_,_,e⟩,⟨3,_,_,_,b⟩] c (k:=aI @results117)))))))
theorem Oz (z:Int) (h:Bg z):CallC prog 121 [tZ z] ⟨[],.raw (.int .i64 (sg z))⟩:=by
 have b:=i5 (aD z.natAbs) h.len;rw[kn]at b;have g:=jC (n:=z.natAbs);rcases Int.lt_trichotomy z 0 with c|c|c
 ·have e:sg z= -1:=by simp[sg,c]
  have f:(aD z.natAbs).length≠0:=by omega
  rw[e];refine aB func121 rfl ntmps121 (aE (k:=aj (ao (bD [⟨2,_,_,_,b⟩] (k:=aq rfl (aZ (k:=aC rfl (aZ (k:=aI @results121)))))))))
 ·subst c;rw[show sg 0=0 from rfl];rw[Int.natAbs_zero,cX]at b;rw[show tZ 0= .agg [.p (.raw (.bool false)),.p (.sl (ls fU []))]from by grind];refine aB func121 rfl ntmps121 (aE (k:=aj (ao (bD [⟨2,_,_,_,b⟩] (k:=aC rfl (aZ (k:=aI @results121)))))))
 have e:sg z=1:=by grind [sg]
 have f:(aD z.natAbs).length≠0:=by omega
 rw[e];refine aB func121 rfl ntmps121 (aE (k:=aj (ao (bD [⟨2,_,_,_,b⟩] (k:=aq rfl (aZ (k:=aq rfl (al (aZ (k:=aI @results121))))))))))
theorem IC (z:Int) (h:Bg z):CallC prog 222 [tZ z] ⟨[],kK z⟩:=by
 have b:=i5 (aD z.natAbs) h.len;rw[kn]at b;have l:=h.len;by_cases g:2<(aD z.natAbs).length
 ·have j:=Bj g;rw[show kK z= .tup [(false,[.p (.raw (.int .i64 0))]),(false,[.p (.raw (.bool false))])] by grind [kK]];refine aB func222 rfl ntmps222 (aE (k:=bu [⟨2,_,_,_,b⟩] (k:=aj (ax (k:=aC rfl (aZ (k:=aI @results222)))))))
 have j:=jJ (n:=z.natAbs) (by omega);have c:=vk (aD z.natAbs) (aN _) (by omega);rw[aJ]at c;by_cases m:z<0
 ·by_cases f:z.natAbs<=9223372036854775808
  ·have e:IntKind.i64.wrap (IntKind.u64.wrap (0-(z.natAbs:Int)))=z:=by
    grind [IntKind.wrap_u64,IntKind.wrap_i64]
   rw[show kK z= .tup [(false,[.p (.raw (.int .i64 z))]),(false,[.p (.raw (.bool true))])] by grind [kK]];refine aB func222 rfl ntmps222 (aE (k:=bu [⟨2,_,_,_,b⟩] (k:=aj (ax (k:=aq rfl (al (bu [⟨1,_,_,_,c⟩] (k:=aj (ao (ax (k:=aC rfl (d9 e (k:=aI @results222)))))))))))))
  rw[show kK z= .tup [(false,[.p (.raw (.int .i64 0))]),(false,[.p (.raw (.bool false))])] by grind [kK]];refine aB func222 rfl ntmps222 (aE (k:=bu [⟨2,_,_,_,b⟩] (k:=aj (ax (k:=aq rfl (al (bu [⟨1,_,_,_,c⟩] (k:=aj (ao (ax (k:=aq rfl (ax (k:=aq rfl (al (aZ (k:=aI @results222))))))))))))))))
 by_cases f:z.natAbs<9223372036854775808
 ·have e:IntKind.i64.wrap (z.natAbs:Int)=z:=by rw[IntKind.wrap_i64];omega
  rw[show kK z= .tup [(false,[.p (.raw (.int .i64 z))]),(false,[.p (.raw (.bool true))])] by grind [kK]];refine aB func222 rfl ntmps222 (aE (k:=bu [⟨2,_,_,_,b⟩] (k:=aj (ax (k:=aq rfl (al (bu [⟨1,_,_,_,c⟩] (k:=aj (ao (ax (k:=aq rfl (ax (k:=aC rfl (d9 e (k:=aI @results222)))))))))))))))
 rw[show kK z= .tup [(false,[.p (.raw (.int .i64 0))]),(false,[.p (.raw (.bool false))])] by grind [kK]];refine aB func222 rfl ntmps222 (aE (k:=bu [⟨2,_,_,_,b⟩] (k:=aj (ax (k:=aq rfl (al (bu [⟨1,_,_,_,c⟩] (k:=aj (ao (ax (k:=aq rfl (ax (k:=aq rfl (al (aZ (k:=aI @results222))))))))))))))))
/-! Clone: a walk of the older kind, for it holds the slice against nil. -/
theorem KX (A:Option Addr) (c:Nat) (x:List Int) (w:World) (hx:RdI .u32 w A x) (hl:x.length*4<=140737488355328):
  Calls prog 209 #[.slice A x.length c] w fun e w'=> ∃v,e= .returned v/\w'.ownsRow w.heap.size 165 1 v x.length (x.map (Value.int .u32))/\fm w w':=by
 have hnil:=fun(w:World) (n c:Nat)=>Lib.run_eql_slice_nil (P:=prog) w 63 165 A n c 0 0 underlying63
 cases A with
 |none=>
  have hx0:x=[]:=by
   cases x with
   |nil=>rfl
   |cons a l=>obtain⟨_,_,h,_⟩:=hx (by simp);cases h
  subst hx0
  go_enter func209,ntmps209
  go_wp2_with fail
  go_ret
  exact⟨_,rfl,ah3 _ _ _ _,fm.refl _⟩
 |some a=>
  go_enter func209,ntmps209
  go_wp2_with (at_builtin;refine x9 _ rfl (.tmp 5) (.tmp 6) _ rfl w.heap.size 165 (.int .u32 0) 1 4 underlying63 Tryz.inU32 rfl (by omega) _ 0 [] rfl (aiP w #[] 0 (aeJ _) (afl _) rfl) (some a) x.length c _ rfl (Rd.ext hx ((fm.refl _).alloc _)) (by simp) FU (by simp only[maxLen];omega) (by omega) (by simp) ?_;intro v1 w1 hown1 hg1 _)
  go_ret
  exact⟨_,rfl,by simpa using hown1,QY hg1 (aiP w #[] 0 (aeJ _) (afl _) rfl:World.ownsRow _ w.heap.size 165 1 _ 0 []) ((fm.refl w).alloc _) (aeJ _)⟩
theorem ZV {X:Nat->Prop} {w:World} {l:List Nat} {v:Value} (h:bS X w (.sl (ls fU l)) v): ∃A c,v= .slice A l.length c/\l.length<=c/\RdI .u32 w A (l.map fun n:Nat=>(n:Int)):=by
 generalize e:PV.sl (ls fU l)=x at h;cases h with
 |raw v h=>cases e
 |ptr b j E f t u q r=>cases e
 |nil a c=>
  injection e with e
  have B:l=[]:=by simp_all[ls]
  subst B;exact⟨a,c,rfl,afl _,RdI.nil _ _ _⟩
 |sl b j s cap I f t u o g C q r=>
  injection e with e
  subst e;rw[iM]at g C;refine⟨some ⟨b,j,none⟩,cap,by rw[iM],g,fun D=>⟨b,j,rfl,fun i x e=>?_⟩⟩;rw[aeG,aeG]at e;obtain⟨J,p,rfl⟩:=adT.1 e;obtain⟨z,H,rfl⟩:=adT.1 p;have m:(ls fU l)[i]?=some (fU z):=by grind [kN]
  have y:s=1:=by rw[<- o _ (adQ m)];rfl
  subst y;have F:=q i _ 0 _ m rfl;have G:=jw (r i _ 0 _ m rfl);grind
theorem VV {q:World} {k:Nat} {v:Value} {l:List Nat} {Y:Nat->Prop} (t: ∀b,Y b->b<k) (E:l.length<=9223372036854775807) (h:q.ownsRow k 165 1 v l.length ((l.map fun n:Nat=>(n:Int)).map (Value.int .u32))):bS Y q (.sl (ls fU l)) v:=by
 obtain⟨D,s⟩:=h;rcases s with⟨p,F⟩|⟨g,cap,f,p,C,u,A,y,G,H⟩
 ·have:l=[]:=agy (by omega);subst this;rw[p];exact bS.nil _ _
 rw[p];have c: ∀(i:Nat) z,l[i]?=some z->f[i]?=some (.int .u32 (z:Int)):=fun i z r=>by
  have B:((l.map fun n:Nat=>(n:Int)).map (Value.int .u32))[i]?=some (.int .u32 (z:Int)):=by grind
  grind
 have:=bS.sl (X:=Y) (w:=q) g 0 1 cap (ls fU l) (fun i _=>(f[i]?).getD undef) (fun h=>absurd (t _ h) (by omega)) (ae4.1 u).1 (fun e m=>by
  obtain⟨z,_,rfl⟩:=aeL.1 m;rfl) (by grind [iM]) (by grind [iM]) (fun i e j x m o=>by
  grind [kN,fU,cell_of_row]) (fun i e j x m o=>by
  rw[kN]at m;obtain⟨z,r,rfl⟩:=adT.1 m;cases j with
  |succ j=>simp[fU]at o
  |zero=>
   simp[fU]at o;subst o;simp only[c i z r,agu];exact bS.raw _ rfl)
 grind [iM]
theorem IB (l:List Nat) (x:l.length<=1073741824):CallC prog 209 [eY l] ⟨[],eY l⟩:=by
 refine KT (by kernel_rfl) fun X w vs t q p=>?_
 obtain⟨y,s,r⟩:=HJ p (j:=0) rfl;obtain⟨A,c,rfl,u,m⟩:=ZV r;obtain rfl:vs= #[.slice A l.length c]:=by
  grind
 have b:(l.map fun n:Nat=>(n:Int)).length=l.length:=ae3 _;have:=KX A c (l.map fun n:Nat=>(n:Int)) w m (by omega);rw[b]at this;refine this.mono fun e z ⟨v,f,g,h⟩=>⟨v,f,fun B H Y o=>VV o (by omega) g,h⟩
theorem Fk (z:Int) (h:Bg z):CallC prog 236 [tZ z] ⟨[],tZ z⟩:=by
 have c:=i5 (aD z.natAbs) h.len;rw[kn]at c;have e:=IB (aD z.natAbs) h.len;have b:=gI (decide (z<0)) z.natAbs;rw[FG]at b;refine aB func236 rfl ntmps236 (aE (k:=dR [⟨4,_,_,_,c⟩,⟨5,_,_,_,e⟩,⟨6,_,_,_,b⟩] (k:=aI @results236)))
theorem B7 (o:List Nat) (k v:Nat):(o++af (k+1) 0).set o.length v=(o++[v])++af k 0:=by
 grind
theorem Gg (o:List Nat) (k:Nat):(o++af (k+1) 0)[o.length]?=some 0:=by
 simp
theorem A2 (l m:List Nat) (q:Lmb l) (r:Lmb m) (s:zJ l) (t:zJ m) (w:l.length<=1073741824) (x:m.length<=1073741824):
  CallC prog 207 [eY l,eY m] ⟨[],.raw (.int .i64 (jB (natV l) (natV m)))⟩:=by
 rcases af7 l.length m.length with p|j|n
 ·rw[rX (lL q t p)];refine aB func207 rfl ntmps207 (aE (k:=aj (ao (ax (k:=aC rfl (aZ (k:=aI @results207)))))))
 ·refine aB func207 rfl ntmps207 (aE (k:=aj (ao (ax (k:=aq rfl (ax (k:=aq rfl (al (aj (ax (k:=?_)))))))))));refine ay (G:={k:Nat//k<=l.length/\l.drop k=m.drop k}) (fun k=>⟨(eY l::eY m::jk::jk::jk::.raw (.int .i64 ((k.1:Int)-1))::j16 (j16 (j4 (jk::jk::jk::[])))),Hm []⟩) (fun k=>k.1) ⟨l.length,aeJ _,by rw[ags,j,ags]⟩ ?_ ?_
  ·refine ak trivial ?_;simp[wk]
  rintro⟨k,A,z⟩;simp only;by_cases y:0<k
  ·obtain⟨a,e⟩:=getElem?_of_lt (l:=l) (k:=k-1) (by omega);obtain⟨b,f⟩:=getElem?_of_lt (l:=m) (k:=k-1) (by omega);have h:((k:Int)-1).toNat=k-1:=by omega
   have g:l.drop (k-1+1)=m.drop (k-1+1):=by grind
   refine aj (ax (k:=aC rfl (al (aj (ao (ao ?_))))));rcases af7 a b with c|c|c
   ·rw[rX (pX q e f g c)];refine iH (aG h (aG e f)) (k:=aC rfl (aZ (k:=aI @results207)))
   ·subst c;refine iH (aG h (aG e f)) (k:=aq rfl (iH (aG h (aG e f)) (k:=aq rfl (al (bK (k:=?_))))));refine⟨⟨k-1,by omega,Dv e f g⟩,by grind,ak trivial ?_⟩;have u:((k-1:Nat):Int)=(k:Int)-1:=by omega
    simp[wk,u]
   rw[zh (pX r f e g.symm c)];refine iH (aG h (aG e f)) (k:=aq rfl (iH (aG h (aG e f)) (k:=aC rfl (aZ (k:=aI @results207)))))
  have o:k=0:=by omega
  subst o;have v:l=m:=by grind
  rw[show jB (natV l) (natV m)=0 by grind [jB]];refine aj (ax (k:=aq rfl (aT (aZ (k:=aI @results207)))))
 rw[zh (lL r s n)];refine aB func207 rfl ntmps207 (aE (k:=aj (ao (ax (k:=aq rfl (ax (k:=aC rfl (aZ (k:=aI @results207)))))))))
structure aeg (m n:List Nat) (e:Nat) where
 i:Nat
 o:List Nat
 c:Nat
 hi:i<=e
 hc:c<=1
 ho:o.length=i
 h:o++sumL (m.drop i) (n.drop i) c=sumL m n 0
structure aeh (m n:List Nat) where
 j:Nat
 o:List Nat
 c:Nat
 hj:n.length+j<=m.length
 hc:c<=1
 ho:o.length=n.length+j
 h:o++sumL (m.drop (n.length+j)) [] c=sumL m n 0
theorem DA (m n:List Nat) (T:Lmb m) (U:Lmb n) (K:m.length<=536870912) (L:n.length<=536870912):
  CallC prog 170 [eY m,eY n] ⟨[],eY (aD (natV m+natV n))⟩:=by
 refine aB func170 rfl ntmps170 (aE (k:=?_));obtain⟨p,q,w,P⟩: ∃p q:List Nat,((p=m/\q=n/\ ¬m.length<n.length)\/(p=n/\q=m/\m.length<n.length))/\q.length<=p.length:=by
  by_cases h:m.length<n.length
  ·exact⟨n,m,.inr ⟨rfl,rfl,h⟩,by omega⟩
  exact⟨m,n,.inl ⟨rfl,rfl,h⟩,by omega⟩
 refine aj (mc (S:=⟨(eY p::eY q::j16 (j16 (j16 (j16 (j16 (jk::[])))))),Hm []⟩) ?_ ?_)
 ·rcases w with⟨rfl,rfl,h⟩|⟨rfl,rfl,h⟩
  ·refine ax (k:=?_);refine aX rfl (fun h=>by simp at h<;>omega) (fun _=>al (ak trivial ?_));simp[wk]
  refine ax (k:=aC rfl (aAl (k:=?_)));refine ak trivial ?_;simp[wk]
 have s:natV m+natV n=natV p+natV q:=by grind
 have H:Lmb p:=by grind
 have J:Lmb q:=by grind
 have V:p.length<=536870912:=by grind
 rw[s];clear s w T U K L;have M:(p.length:Int)+1=((p.length+1:Nat):Int):=by omega
 refine aF (aG M @pU) (k:=aZ (k:=aj (aZ (k:=?_))));refine ay (G:=aeg p q q.length) (fun g=>⟨(eY p::eY q::jk::jk::jk::.one (.sl 19 0 0 (p.length+1))::.raw (.int .u64 (g.c:Int))::j4 (j4 (j4 (jk::jk::rN q.length::rN g.i::j16 (j16 (j16 (j4 (j4 (j4 ([])))))))))),Hm [(19,[⟨165,1,lc fU (g.o++af (p.length+1-g.i) 0)⟩])]⟩) (fun g=>q.length-g.i) ⟨0,[],0,by omega,by omega,rfl,rfl⟩ ?_ ?_
 ·refine ak ⟨?_,trivial⟩ ?_
  ·rfl
  simp[wk]
 rintro⟨i,o,c,W,B,r,h⟩;simp only;by_cases Q:i<q.length
 ·obtain⟨a,t⟩:=getElem?_of_lt (show i<p.length by omega);obtain⟨b,A⟩:=getElem?_of_lt Q;have z:=e7 H t;have O:=e7 J A;have u:IntKind.u32.wrap ((c:Int)+((a:Int)+(b:Int)))=(((c+a+b)%4294967296:Nat):Int):=by rw[<- SP];grind
  have y:Int.fdiv ((c:Int)+((a:Int)+(b:Int))) (2^(min 32 IntKind.u64.bits))=(((c+a+b)/4294967296:Nat):Int):=by rw[<- s32];grind
  have x:p.length+1-i=(p.length-i)+1:=by omega
  have f:=Gg o (p.length-i);have e:=B7 o (p.length-i) ((c+a+b)%4294967296);rw[r]at f e;rw[x];refine ax (k:=aP rfl (aj (ao (aZ (k:=iH (aG t A) (k:=aF (aG u (aG f (aG @ir e))) (k:=df y (k:=bK (k:=?_)))))))));refine⟨⟨i+1,o++[(c+a+b)%4294967296],(c+a+b)/4294967296,by omega,by omega,by simp[r],?_⟩,by simp only;omega,ak ⟨?_,trivial⟩ ?_⟩
  ·rw[<- h,fX t,fX A,sumL,ae8];rfl
  ·show _=[(⟨_,_,lc fU ((o++[(c+a+b)%4294967296])++af (p.length+1-(i+1)) 0)⟩:OObj)];rw[show p.length+1-(i+1)=p.length-i by omega];rfl
  simp[wk]
 have C:i=q.length:=by omega
 subst C;rw[fY (aeJ _)]at h;refine ax (k:=aQ rfl ?_);show bv _ _ _ _;have N:(p.length:Int)-(q.length:Int)=((p.length-q.length:Nat):Int):=by omega
 refine aj (aF N (k:=?_));refine ay (G:=aeh p q) (fun g=>⟨(eY p::eY q::jk::jk::jk::.one (.sl 19 0 0 (p.length+1))::.raw (.int .u64 (g.c:Int))::j16 (j16 (j4 (j4 (jk::jk::jk::.raw (.int .i64 ((p.length-q.length:Nat):Int))::rN g.j::j16 (j4 (j4 (j4 (jk::jk::jk::[]))))))))),Hm [(19,[⟨165,1,lc fU (g.o++af (p.length+1-(q.length+g.j)) 0)⟩])]⟩) (fun g=>p.length-q.length-g.j) ⟨0,o,c,by omega,B,r,h⟩ ?_ ?_
 ·refine ak ⟨rfl,trivial⟩ ?_;simp[wk]
 clear h r B c o;rintro⟨j,o,c,X,B,r,h⟩;simp only;have v:(q.length:Int)+(j:Int)=((q.length+j:Nat):Int):=by omega
 by_cases R:j<p.length-q.length
 ·obtain⟨a,t⟩:=getElem?_of_lt (show q.length+j<p.length by omega);have z:=e7 H t;have u:IntKind.u32.wrap ((c:Int)+(a:Int))=(((c+a)%4294967296:Nat):Int):=by rfl
  have y:Int.fdiv ((c:Int)+(a:Int)) (2^(min 32 IntKind.u64.bits))=(((c+a)/4294967296:Nat):Int):=by rw[<- s32];rfl
  have x:p.length+1-(q.length+j)=(p.length-(q.length+j))+1:=by omega
  have f:=Gg o (p.length-(q.length+j));have e:=B7 o (p.length-(q.length+j)) ((c+a)%4294967296);rw[r]at f e;rw[x];refine ax (k:=aP rfl (aj (ao (aZ (k:=aF (aG v t) (k:=aF (aG v (aG u (aG f (aG @ir e)))) (k:=df y (k:=bK (k:=?_)))))))));refine⟨⟨j+1,o++[(c+a)%4294967296],(c+a)/4294967296,by omega,by omega,by grind,?_⟩,by simp only;omega,ak ⟨?_,trivial⟩ ?_⟩
  ·rw[<- h,fX t,sumL,ae8];rfl
  ·show _=[(⟨_,_,lc fU ((o++[(c+a)%4294967296])++af (p.length+1-(q.length+(j+1))) 0)⟩:OObj)];rw[show p.length+1-(q.length+(j+1))=p.length-(q.length+j) by omega];rfl
  simp[wk]
 have D:q.length+j=p.length:=by omega
 rw[D]at h r;rw[fY (aeJ _),sumL]at h;have u:IntKind.u32.wrap (c:Int)=(c:Int):=by rw[SP];omega
 have x:p.length+1-(q.length+j)=0+1:=by omega
 have f:=Gg o 0;have e:=B7 o 0 c;rw[r]at f e;rw[aiE,afz,h]at e;have F:(sumL p q 0).length=p.length+1:=by grind
 have E:=rl p q 0 H J (by omega);have I:=i5 (sumL p q 0) (by omega);rw[e8 E,oR,ago]at I;rw[x];generalize sumL p q 0=S at*
 refine ax (k:=aQ rfl (aF (aG u (aG f (aG @ir e))) (k:=?_)));refine bv.weak ((bR 19 (bj rfl)).trans (ak (tm:=(j4 (jk::eY S::j16 (j16 (j16 (j16 (j4 (j4 (j4 (jk::[])))))))))) (l:=[]) trivial (by simp[wk,f5,gn,aK,Hm,ld,jp,aeS,F]))) ?_;refine bu [⟨1,_,_,_,I⟩] (k:=aI @results170)
theorem xm (m n:List Nat) (x:Lmb m) (y:Lmb n) (B:n.length<=m.length) (C:natV n<=natV m) (H:m.length<=536870912):
  CallC prog 171 [eY m,eY n] ⟨[],eY (aD (natV m-natV n))⟩:=by
 refine aB func171 rfl ntmps171 (aE (k:=aF @pU (k:=aZ (k:=aj (aZ (k:=?_))))));refine ay (G:=ads m n) (fun g=>⟨(eY m::eY n::jk::jk::jk::.one (.sl 11 0 0 m.length)::.raw (.int .u64 (g.c:Int))::j4 (jk::jk::rN m.length::rN g.i::j16 (j4 (j4 (j4 (jk::jk::[])))))),Hm [(11,[⟨165,1,lc fU (g.o++af (m.length-g.i) 0)⟩])]⟩) (fun g=>m.length-g.i) ⟨0,[],0,by omega,by omega,rfl,rfl⟩ ?_ ?_
 ·refine ak ⟨?_,trivial⟩ ?_
  ·rfl
  simp[wk]
 rintro⟨i,o,c,J,I,e,h⟩;simp only;by_cases D:i<m.length
 ·obtain⟨a,j⟩:=getElem?_of_lt D;have z:=e7 x j;have F:m.length-i=(m.length-i-1)+1:=by omega
  have s:=Gg o (m.length-i-1);rw[e]at s;rw[F];refine ax (k:=aP rfl (aj (ao (aZ (k:=aF j (k:=?_))))));by_cases E:i<n.length
  ·obtain⟨b,r⟩:=getElem?_of_lt E;have A:=e7 y r;have p:IntKind.u32.wrap (IntKind.u64.wrap (IntKind.u64.wrap ((a:Int)-(c:Int))-(b:Int)))=(((a+8589934592-(c+b))%4294967296:Nat):Int):=by grind [IntKind.wrap_u32,IntKind.wrap_u64]
   have q:Int.fdiv (IntKind.u64.wrap (IntKind.u64.wrap ((a:Int)-(c:Int))-(b:Int))) (2^(min 63 IntKind.u64.bits))=(((if a<c+b then 1 else 0):Nat):Int):=by
    rw[afK,afK];show Int.fdiv _ 9223372036854775808=_;grind
   have f:=B7 o (m.length-i-1) ((a+8589934592-(c+b))%4294967296);rw[e]at f;refine aj (ax (k:=aC rfl (dz r (k:=aF (aG p (aG s (aG @ir f))) (k:=df q (k:=bK (k:=?_)))))));refine⟨⟨i+1,o++[(a+8589934592-(c+b))%4294967296],if a<c+b then 1 else 0,by omega,by grind,by simp[e],?_⟩,by simp only;omega,ak ⟨?_,trivial⟩ ?_⟩
   ·rw[<- h,fX j,fX r,diffL,ae8];rfl
   ·rfl
   simp[wk]
  have p:IntKind.u32.wrap (IntKind.u64.wrap ((a:Int)-(c:Int)))=(((a+8589934592-c)%4294967296:Nat):Int):=by rw[ahi,afK];omega
  have q:Int.fdiv (IntKind.u64.wrap ((a:Int)-(c:Int))) (2^(min 63 IntKind.u64.bits))=(((if a<c then 1 else 0):Nat):Int):=by
   rw[afK];show Int.fdiv _ 9223372036854775808=_;grind
  have f:=B7 o (m.length-i-1) ((a+8589934592-c)%4294967296);rw[e]at f;refine aj (ax (k:=aq rfl (al (aF (aG p (aG s (aG @ir f))) (k:=df q (k:=bK (k:=?_)))))));refine⟨⟨i+1,o++[(a+8589934592-c)%4294967296],if a<c then 1 else 0,by omega,by grind,by simp[e],?_⟩,by simp only;omega,ak ⟨?_,trivial⟩ ?_⟩
  ·rw[<- h,fX j,fY (by omega:n.length<=i),fY (by omega:n.length<=i+1),diffL,ae8];rfl
  ·rfl
  simp[wk]
 have t:i=m.length:=by omega
 subst t;rw[fY (aeJ _),diffL,afz]at h;rw[afO,aiE,afz,h];have v:(diffL m n 0).length=m.length:=my m n 0;have u:=mD m n 0;have K:=kQ m n 0 x y (by omega) B (by omega);have w:=i5 (diffL m n 0) (by omega);rw[e8 u,show natV (diffL m n 0)=natV m-natV n by omega]at w;generalize diffL m n 0=S at*
 refine ax (k:=aQ rfl ?_);show bv _ _ _ _;refine bv.weak ((bR 11 (bj rfl)).trans (ak (tm:=(j4 (jk::eY S::j16 (j16 (j4 (jk::jk::jk::[])))))) (l:=[]) trivial (by simp[wk,f5,gn,aK,Hm,ld,jp,aeS,v]))) ?_;refine bu [⟨1,_,_,_,w⟩] (k:=aI @results171)
end Go.Proofs.YtalmoejhjceflaaGreat
