/-
  Part 19 of a proof (walks and plain facts).
-/
import Derived.Test.YtalmoejhjceflaaGreatR17
set_option linter.all false
set_option maxRecDepth 100000
set_option maxHeartbeats 64000000
open List renaming replicate → ae
namespace Go.Proofs.YtalmoejhjceflaaGreat
open Go.RowKit Go.Proofs.Tryz
variable {n m j c p q:Nat} {b e:Nat->Int} {f:List Nat} {x:Int} {g:List Int} {h:FF}
section
variable {n:Nat}
def Kb (a r:Int):Prop:=0<=r/\r*r<=a/\a<(r+1)*(r+1)
theorem qV {a u:Int} (h:Kb a x):u*u<=a↔ -x<=u/\u<=x:=by
 obtain⟨b,f,g⟩:=h;constructor
 ·intro l;constructor
  ·refine ab8 fun e=>?_
   have:=aa9 (show x+1<= -u by omega) (show x+1<= -u by omega) (by omega) (by omega);grind
  refine ab8 fun e=>?_
  have:=aa9 (show x+1<=u by omega) (show x+1<=u by omega) (by omega) (by omega);omega
 rintro⟨j,c⟩;rcases acm 0 u with h|h
 ·have:=aa9 c c h b;omega
 have:=aa9 (show -u<=x by omega) (show -u<=x by omega) (by omega) b;grind
theorem Kb.uniq {a s:Int} (h:Kb a x) (k:Kb a s):x=s:=by
 have b:=(qV h).1 k.2.1;have c:=(qV k).1 h.2.1;omega
theorem Gy {a:Int} (h:0<=a): ∃r,Kb a r:=by
 obtain⟨m,rfl⟩:=aaP h;clear h
 induction m with
 |zero=>exact⟨0,by grind [Kb]⟩
 |succ m c=>
  obtain⟨r,b,e,f⟩:=c;by_cases h:((m+1:Nat):Int)<(r+1)*(r+1)
  ·exact⟨r,b,by omega,h⟩
  refine⟨r+1,by omega,by omega,?_⟩;grind
open Classical in
noncomputable def isqF (a:Int):Int:=if h: ∃r,Kb a r then Classical.choose h else 0
theorem dx {a:Int} (h:0<=a):Kb a (isqF a):=by
 grind [isqF,Gy]
def lA (h:FF) (n k:Nat) (x:Nat->Int):Int:=dJ (fun j=>if j<=k then 0 else bk h k k j*x j) n
def gU (h:FF) (n:Nat) (B:Int) (k:Nat) (x:Nat->Int):Int:=dk h k*(B*dk h (k+1)-BF n (bk h (k+1)) x x)
noncomputable def cz (h:FF) (n:Nat) (B:Int) (k:Nat) (x:Nat->Int):Int:= -((isqF (gU h n B k x)+lA h n k x)/dk h (k+1))
noncomputable def di (h:FF) (n:Nat) (B:Int) (k:Nat) (x:Nat->Int):Int:=(isqF (gU h n B k x)-lA h n k x)/dk h (k+1)
def fC (h:FF) (n:Nat) (B:Int) (k:Nat) (x:Nat->Int):Prop:=BF n (bk h k) x x<=B*dk h k
theorem vD {k:Nat} (c: ∀i,k<i->i<n->b i=e i):lA h n k b=lA h n k e:=bA n fun j f=>by
 grind
section
variable {h:FF} (hr:PD h n)
include hr
theorem A2 {k i:Nat} (e:k<=n) (b:i<n) (c:m<k):bk h k i m=0:=by
 rw[iD hr.1 k e (fun t f=>by have:=hr.2 t (by omega);omega) i m b (by omega)];exact mF h c i
theorem AL {k:Nat} (m:k<=n) {x' y':Nat->Int} (c: ∀i,k<=i->i<n->b i=x' i) (l: ∀i,k<=i->i<n->e i=y' i):BF n (bk h k) b e=BF n (bk h k) x' y':=by
 have z: ∀u:Nat->Int,∀i,i<k->dJ (fun j=>bk h k i j*u j) n=0:=fun u i f=>by
  rw[bA n (G:=fun _=>0*0) fun j _=>by grind [mF],jl,aey]
 refine bA n fun i f=>?_
 by_cases g:i<k
 ·simp_all
 grind [bA,A2]
theorem fC.tail {k:Nat} (c:k<=n) {x':Nat->Int} (e: ∀i,k<=i->i<n->b i=x' i):fC h n x k b↔fC h n x k x':=by
 grind [fC,AL]
theorem tG {k:Nat} (c:k<n) (x:Nat->Int):dJ (fun j=>bk h k k j*x j) n=dk h (k+1)*x k+lA h n k x:=by
 have b:=vF (F:=fun j=>if j<=k then 0 else bk h k k j*x j) (G:=fun j=>bk h k k j*x j) c (fun j f e=>by
  grind [A2])
 rw[b,show(if k<=k then 0 else bk h k k k*x k)=(0:Int)from if_pos (aaq k)];show lA h n k x+(dk h (k+1)*x k-0)=_;omega
theorem vG {B:Int} {k:Nat} (f:k<n) (c: ∀i,k<i->i<n->b i=e i):gU h n B k b=gU h n B k e:=by
 grind [gU,AL]
theorem qZ {k:Nat} (f:k<n) (c: ∀i,k<i->i<n->b i=e i):cz h n x k b=cz h n x k e:=by
 grind [cz,vG,vD]
theorem qS {k:Nat} (f:k<n) (c: ∀i,k<i->i<n->b i=e i):di h n x k b=di h n x k e:=by
 grind [di,vG,vD]
theorem pf {k:Nat} (e:k<n) (c:fC h n x (k+1) b):0<=gU h n x k b:=by
 have:0<dk h k:=i6 fun t f=>hr.2 t (by omega)
 exact aaZ (by omega) (by grind [fC])
theorem l7 {k:Nat} (c:k<n) (g:fC h n x (k+1) b):fC h n x k b↔cz h n x k b<=b k/\b k<=di h n x k b:=by
 have e:0<dk h (k+1):=hr.2 k c;have key:=kn hr.1 hr.2 b c;rw[tG hr c]at key;have j:=dx (pf hr c g);have f:fC h n x k b↔(dk h (k+1)*b k+lA h n k b)*(dk h (k+1)*b k+lA h n k b)<=gU h n x k b:=by
  unfold fC gU;have l:dk h (k+1)*BF n (bk h k) b b<=dk h (k+1)*(x*dk h k)↔BF n (bk h k) b b<=x*dk h k:=⟨fun h=>ac0 h e,fun h=>aaB h (by omega)⟩;grind
 rw[f,qV j];unfold cz di;generalize isqF (gU h n x k b)=r at*
 generalize lA h n k b=s at*
 generalize dk h (k+1)=d at*
 have m:b k<=(r-s)/d↔b k*d<=r-s:=acl e;have o: -(b k)<=(r+s)/d↔ -(b k)*d<=r+s:=acl e;grind
theorem fC.up {k:Nat} (e:k<n) (f:fC h n x k b):fC h n x (k+1) b:=by
 have m:0<dk h (k+1):=hr.2 k e;have c:0<dk h k:=i6 fun t o=>hr.2 t (by omega)
 have key:=kn hr.1 hr.2 b e;generalize dJ (fun j=>bk h k k j*b j) n=L at*
 have g:0<=L*L:=by
  rcases acm 0 L with h|h
  ·exact aaZ h h
  exact aa4 h h
 unfold fC at*
 have l:=aaB f (show 0<=dk h (k+1) by omega);refine ac0 (a:=dk h k) ?_ c;grind
theorem fC.ups {k:Nat} (c:fC h n x k b): ∀m,k+m<=n->fC h n x (k+m) b
 |0,_=>c
 |m+1,e=>(fC.ups c m (by omega)).up hr (by omega)
end
theorem nI:fC h n x 0 b↔BF n h b b<=x:=by
 unfold fC;rw[cu,Int.mul_one,jm (fun i j _ _=>dr h i j) (fun _ _=>rfl) (fun _ _=>rfl)]
theorem ji (c:PD h n) (g:0<=x):fC h n x n b:=by
 have z:BF n (bk h n) b b=0:=by
  rw[AL c (aaq n) (x':=fun _=>0) (y':=fun _=>0) (fun i e f=>by omega) (fun i e f=>by omega)];grind [uV]
 have j:0<dk h n:=i6 fun t l=>c.2 t (by omega)
 unfold fC;rw[z];exact aaZ g (by omega)
/-! Lists. -/
def aL (n:Nat) (y:List Int):Nat->Int:=fun i=>if i+y.length<n then 0 else y.getD (i+y.length-n) 0
theorem kH {k i:Nat} (e:g.length+(k+1)=n) (b:k<i):aL n (x::g) i=aL n g i:=by
 grind [aL]
theorem mp {k:Nat} (b:g.length+(k+1)=n):aL n (x::g) k=x:=by
 grind [aL]
theorem Ug {k:Nat}: ∀{p:List Int},p.length=k->g.length+k=n-> ∀i,k<=i->aL n (p++g) i=aL n g i
 |p,e,c,i,b=>by
  grind [aL]
theorem oI (b:g.length=n) (i:Nat):aL n g i=g.getD i 0:=by
 grind [aL]
def rng (a b:Int):List Int:=(List.range (b-a+1).toNat).map fun i:Nat=>a+(i:Int)
theorem oU {a c:Int}:c∈rng a x↔a<=c/\c<=x:=by
 simp only[rng,aai,aaK];constructor
 ·omega
 rintro⟨e,f⟩;exact⟨(c-a).toNat,by omega,by omega⟩
noncomputable def fb (h:FF) (n:Nat) (B:Int):Nat->List Int->List (List Int)
 |0,y=>[y]
 |k+1,y=>(rng (cz h n B k (aL n y)) (di h n B k (aL n y))).flatMap fun c=>fb h n B k (c::y)
theorem BA {h:FF} (g:PD h n) {B:Int}: ∀k (y:List Int),y.length+k=n->fC h n B k (aL n y)-> ∀z,z∈fb h n B k y↔(∃p,p.length=k/\z=p++y)/\BF n h (aL n z) (aL n z)<=B
 |0,y,o,l,z=>by
  rw[fb,aam];constructor
  ·rintro rfl;exact⟨⟨[],rfl,rfl⟩,nI.1 l⟩
  grind
 |k+1,y,o,l,z=>by
  have step: ∀c,fC h n B k (aL n (c::y))↔cz h n B k (aL n y)<=c/\c<=di h n B k (aL n y):=fun c=>by
   have w: ∀i,k<i->i<n->aL n (c::y) i=aL n y i:=fun i r _=>kH o r
   grind [l7,fC.tail,mp,qZ,qS]
  rw[fb,adQ];constructor
  ·rintro⟨c,s,v⟩;obtain⟨⟨p,m,rfl⟩,b⟩:=(BA g k (c::y) (by grind) ((step c).2 (oU.1 s)) z).1 v;exact⟨⟨p++[c],by simp[m],by simp⟩,b⟩
  rintro⟨⟨p,m,rfl⟩,b⟩;obtain⟨q,c,rfl⟩: ∃q c,p=q++[c]:=by
   have f:p≠[]:=fun h=>by grind
   exact⟨p.dropLast,p.getLast f,(List.dropLast_concat_getLast f).symm⟩
  have u:q.length=k:=by grind
  have e:q++[c]++y=q++c::y:=by simp
  rw[e]at b⊢;have t:(c::y).length+k=n:=by grind
  have j:fC h n B k (aL n (c::y)):=by
   have:=fC.ups g (nI.2 b) k (by omega);grind [fC.tail,Ug]
  exact⟨c,oU.2 ((step c).1 j),(BA g k (c::y) t j _).2 ⟨⟨q,u,rfl⟩,b⟩⟩
theorem Jo (f:PD h n) (g:0<=x) (z:List Int):z∈fb h n x n []↔z.length=n/\BF n h (fun i=>z.getD i 0) (fun i=>z.getD i 0)<=x:=by
 rw[BA f n [] (by simp) (ji f g)];constructor
 ·rintro⟨⟨p,e,rfl⟩,b⟩;rw[abd]at b⊢;exact⟨e,by rwa[show aL n p=fun i=>p.getD i 0 from funext (oI e)]at b⟩
 rintro⟨c,b⟩;exact⟨⟨z,c,by simp⟩,by rwa[show aL n z=fun i=>z.getD i 0 from funext (oI c)]⟩
end
theorem eH (l:List Nat) (r:l.length<=1073741824):CallC prog 167 [cK l] ⟨[],cK (cJ l)⟩:=by
 refine ay func167 rfl ntmps167 (aA (k:=?_));refine ai (aF (G:={n:Nat//n<=l.length/\cJ l=cJ (l.take n)}) (fun n=>⟨(cK (l.take n.1)::j16 (j4 ([]))),Hm []⟩) (fun n=>n.1) ⟨l.length,aaq _,by simp⟩ ?_ ?_)
 ·refine aj trivial ?_;simp[wk]
 rintro⟨n,s,p⟩;simp only;have c:(l.take n).length=n:=by simp;omega
 by_cases o:0<n
 ·obtain⟨a,q⟩:=getElem?_of_lt (l:=l) (k:=n-1) (by omega);have j:((n:Int)-1).toNat=n-1:=by omega
  have f:(l.take n)[n-1]?=some a:=by grind
  have m:l.take n=l.take (n-1)++[a]:=by
   have:=acC (i:=n-1) (l:=l) (by omega);grind
  refine ai (aK (aH c (aH j f)) (k:=?_));refine aZ rfl (fun e=>ak ?_) (fun e=>aY ?_)
  ·have h:a=0:=by grind
   refine am (dZ (aH c (aH j (kD pR))) (k:=?_));refine⟨⟨n-1,by omega,?_⟩,by simp only;omega,aj trivial ?_⟩
   ·simp_all[kJ]
   simp[wk,List.take_take,ac3 (show n-1<=n by omega)]
  have h:a≠0:=by grind
  have b:cJ l=l.take n:=by grind [tO]
  show bo _ _ _ _;refine ar (k:=aG (aH @results167 b))
 have g:n=0:=by omega
 subst g;have b:cJ l=l.take 0:=by grind [cJ]
 refine ai (ar (k:=aZ rfl (fun e=>by cases e) (fun e=>aY (bz (k:=aG (aH @results167 b))))))
theorem eP (neg:Bool) (n:Nat):CallC prog 164 [.raw (.bool neg),cK (au n)] ⟨[],tZ (gI neg n)⟩:=by
 by_cases b:n=0
 ·subst b;rw[ce,show tZ (gI neg 0)= .agg [.p (.raw (.bool false)),.p (.sl (ls fU []))] by
   grind [gI,ce]]
  refine ay func164 rfl ntmps164 (aA (k:=ai (ar (k:=aC rfl (ar (k:=?_))))));refine aW ⟨.inr rfl,?_⟩;refine⟨_,gQ 4,mm (d:=1000) rfl ?_ rfl⟩;simp(disch:=omega) only[kd,results164,zH,zO,E6,Fe,Nat.reduceAdd]
 have e:=fW (n:=n);have c:(au n).length≠0:=by omega
 rw[show tZ (gI neg n)= .agg [.p (.raw (.bool neg)),.p (.sl (ls fU (au n)))] by
  grind [rQ,JO]]
 refine ay func164 rfl ntmps164 (aA (k:=ai (ar (k:=aq rfl (ak (ar (k:=aG @results164)))))))
theorem jB (u:Nat) (h:u<18446744073709551616):CallC prog 165 [.raw (.int .u64 u)] ⟨[],cK (au u)⟩:=by
 have b:Lmb [u%4294967296,u/4294967296]:=by intro a g;grind
 have e:=eH [u%4294967296,u/4294967296] (by simp);rw[dA b,AG]at e;have f:IntKind.u32.wrap (u:Int)=((u%4294967296:Nat):Int):=by rfl
 have c:IntKind.u32.wrap ((u:Int).fdiv (2^(min (32:Int).toNat IntKind.u64.bits)))=((u/4294967296:Nat):Int):=by
  rw[ab9];show(Int.fdiv (u:Int) 4294967296)%4294967296=_;grind
 simp only[Int.reduceToNat]at c;refine ay func165 rfl ntmps165 (aA (k:=cn [⟨6,_,_,_,e⟩] (aH @Jj (aH f c)) (k:=aG @results165)))
theorem qU (l:List Nat) (n:Lmb l) (q:l.length<=2):CallC prog 208 [cK l] ⟨[],.raw (.int .u64 (natV l:Nat))⟩:=by
 refine ay func208 rfl ntmps208 (aA (k:=bz (k:=ai (bz (k:=?_)))));refine aF (G:=Yq l) (fun g=>⟨(jk::jk::jk::.raw (.int .u64 (g.u:Int))::jk::jk::cK l::rN l.length::rN g.i::j4 (j4 (j4 (jk::[])))),Hm []⟩) (fun g=>l.length-g.i) ⟨0,0,⟨by omega,by omega⟩,rfl⟩ ?_ ?_
 ·refine aj trivial ?_;simp[wk]
 rintro⟨i,u,r,m⟩;simp only;have b:=fd n i;rw[<- m]at b;by_cases p:i<l.length
 ·obtain⟨a,h⟩:=getElem?_of_lt p;have o:=bW n h;have hu2:=bj h;rw[<- m]at hu2;refine ar (k:=bi rfl (ai (am (aK h (k:=?_)))));have j:i=0\/i=1:=by omega
  rcases j with rfl|rfl
  ·have f:IntKind.u64.wrap ((a:Int)*2^min (32*((0:Nat):Int)).toNat IntKind.u64.bits)=(a:Int):=by
    grind [IntKind.wrap_u64]
   have hu0:u=0:=by omega
   have c:=BL u a (by omega) (by omega);rw[hu0,Nat.zero_or,<- hu0]at c;refine dZ (aH f c) (k:=bL (k:=?_));refine⟨⟨1,a,⟨by omega,by omega⟩,by grind⟩,by grind,aj trivial ?_⟩;simp[wk]
  have f:IntKind.u64.wrap ((a:Int)*2^min (32*((1:Nat):Int)).toNat IntKind.u64.bits)=((a*4294967296:Nat):Int):=by
   rw[abb];show((a:Int)*4294967296)%_=_;omega
  simp only[Nat.pow_one]at b;have c:=BL u (a*4294967296) (by omega) (by omega);rw[show a*4294967296=a*2^32 from rfl,vq _ _ _ b,show a*2^32=a*4294967296 from rfl]at c;refine dZ (aH f c) (k:=bL (k:=?_));refine⟨⟨2,a*4294967296+u,⟨by omega,by omega⟩,by grind⟩,by grind,aj trivial ?_⟩;simp[wk]
 have e:u=natV l:=by grind
 rw[<- e];refine ar (k:=bv rfl (bz (k:=aG @results208)))
theorem xm (n:Int) (f: -9223372036854775808<=n) (g:n<=9223372036854775807):CallC prog 117 [.raw (.int .i64 n)] ⟨[],tZ n⟩:=by
 have e:=jB n.natAbs (by omega);by_cases h:n<0
 ·have b:=eP true n.natAbs;have c:IntKind.u64.wrap (0-IntKind.u64.wrap n)=((n.natAbs:Nat):Int):=by grind [IntKind.wrap_u64]
  rw[show gI true n.natAbs=n by grind [gI]]at b;refine ay func117 rfl ntmps117 (aA (k:=ai (ar (k:=aC rfl (cn [⟨3,_,_,_,e⟩,⟨4,_,_,_,b⟩] c (k:=aG @results117))))))
 have b:=eP false n.natAbs;have c:IntKind.u64.wrap n=((n.natAbs:Nat):Int):=by rw[abb];omega
 rw[show gI false n.natAbs=n by grind [gI]]at b;refine ay func117 rfl ntmps117 (aA (k:=ai (ar (k:=aq rfl (ak (cn [⟨2,_,_,_,e⟩,⟨3,_,_,_,b⟩] c (k:=aG @results117)))))))
theorem SM (z:Int) (h:Bg z):CallC prog 121 [tZ z] ⟨[],.raw (.int .i64 (sg z))⟩:=by
 have b:=eH (au z.natAbs) h.len;rw[iQ]at b;have g:=fW (n:=z.natAbs);rcases Int.lt_trichotomy z 0 with c|c|c
 ·have e:sg z= -1:=by simp[sg,c]
  have f:(au z.natAbs).length≠0:=by omega
  rw[e];refine ay func121 rfl ntmps121 (aA (k:=ai (am (bK [⟨2,_,_,_,b⟩] (k:=aq rfl (bz (k:=aC rfl (bz (k:=aG @results121)))))))))
 ·subst c;rw[show sg 0=0 from rfl];rw[Int.natAbs_zero,ce]at b;rw[show tZ 0= .agg [.p (.raw (.bool false)),.p (.sl (ls fU []))]from by grind];refine ay func121 rfl ntmps121 (aA (k:=ai (am (bK [⟨2,_,_,_,b⟩] (k:=aC rfl (bz (k:=aG @results121)))))))
 have e:sg z=1:=by grind [sg]
 have f:(au z.natAbs).length≠0:=by omega
 rw[e];refine ay func121 rfl ntmps121 (aA (k:=ai (am (bK [⟨2,_,_,_,b⟩] (k:=aq rfl (bz (k:=aq rfl (ak (bz (k:=aG @results121))))))))))
theorem DD (z:Int) (h:Bg z):CallC prog 222 [tZ z] ⟨[],jO z⟩:=by
 have b:=eH (au z.natAbs) h.len;rw[iQ]at b;have l:=h.len;by_cases g:2<(au z.natAbs).length
 ·have j:=xv g;rw[show jO z= .tup [(false,[.p (.raw (.int .i64 0))]),(false,[.p (.raw (.bool false))])] by grind [jO]];refine ay func222 rfl ntmps222 (aA (k:=bM [⟨2,_,_,_,b⟩] (k:=ai (ar (k:=aC rfl (bz (k:=aG @results222)))))))
 have j:=im (n:=z.natAbs) (by omega);have c:=qU (au z.natAbs) (aE _) (by omega);rw[az]at c;by_cases m:z<0
 ·by_cases f:z.natAbs<=9223372036854775808
  ·have e:IntKind.i64.wrap (IntKind.u64.wrap (0-(z.natAbs:Int)))=z:=by
    grind [IntKind.wrap_u64,IntKind.wrap_i64]
   rw[show jO z= .tup [(false,[.p (.raw (.int .i64 z))]),(false,[.p (.raw (.bool true))])] by grind [jO]];refine ay func222 rfl ntmps222 (aA (k:=bM [⟨2,_,_,_,b⟩] (k:=ai (ar (k:=aq rfl (ak (bM [⟨1,_,_,_,c⟩] (k:=ai (am (ar (k:=aC rfl (fL e (k:=aG @results222)))))))))))))
  rw[show jO z= .tup [(false,[.p (.raw (.int .i64 0))]),(false,[.p (.raw (.bool false))])] by grind [jO]];refine ay func222 rfl ntmps222 (aA (k:=bM [⟨2,_,_,_,b⟩] (k:=ai (ar (k:=aq rfl (ak (bM [⟨1,_,_,_,c⟩] (k:=ai (am (ar (k:=aq rfl (ar (k:=aq rfl (ak (bz (k:=aG @results222))))))))))))))))
 by_cases f:z.natAbs<9223372036854775808
 ·have e:IntKind.i64.wrap (z.natAbs:Int)=z:=by rw[adO];omega
  rw[show jO z= .tup [(false,[.p (.raw (.int .i64 z))]),(false,[.p (.raw (.bool true))])] by grind [jO]];refine ay func222 rfl ntmps222 (aA (k:=bM [⟨2,_,_,_,b⟩] (k:=ai (ar (k:=aq rfl (ak (bM [⟨1,_,_,_,c⟩] (k:=ai (am (ar (k:=aq rfl (ar (k:=aC rfl (fL e (k:=aG @results222)))))))))))))))
 rw[show jO z= .tup [(false,[.p (.raw (.int .i64 0))]),(false,[.p (.raw (.bool false))])] by grind [jO]];refine ay func222 rfl ntmps222 (aA (k:=bM [⟨2,_,_,_,b⟩] (k:=ai (ar (k:=aq rfl (ak (bM [⟨1,_,_,_,c⟩] (k:=ai (am (ar (k:=aq rfl (ar (k:=aq rfl (ak (bz (k:=aG @results222))))))))))))))))
/-! Clone: a walk of the older kind, for it holds the slice against nil. -/
theorem wN (A:Option Addr) (c:Nat) (x:List Int) (w:World) (hx:RdI .u32 w A x) (hl:x.length*4<=140737488355328):
  Calls prog 209 #[.slice A x.length c] w fun e w'=> ∃v,e= .returned v/\w'.ownsRow w.heap.size 165 1 v x.length (x.map (Value.int .u32))/\Ext w w':=by
 have hnil:=fun(w:World) (n c:Nat)=>ad6 (P:=prog) w 63 165 A n c 0 0 underlying63
 cases A with
 |none=>
  have hx0:x=[]:=by
   cases x with
   |nil=>rfl
   |cons a l=>obtain⟨_,_,h,_⟩:=hx (by simp);cases h
  subst hx0
  go_enter func209,ntmps209
  go_wp2_with fail
  go_ret
  exact⟨_,rfl,acT _ _ _ _,Ext.refl _⟩
 |some a=>
  go_enter func209,ntmps209
  go_wp2_with (at_builtin;refine jh _ rfl (.tmp 5) (.tmp 6) _ rfl w.heap.size 165 (.int .u32 0) 1 4 underlying63 Tryz.inU32 rfl (by omega) _ 0 [] rfl (ac6 w #[] 0 (aaq _) (aaW _) rfl) (some a) x.length c _ rfl (Rd.ext hx ((Ext.refl _).alloc _)) (by simp) rq (by simp only[maxLen];omega) (by omega) (by simp) ?_;intro v1 w1 hown1 hg1 _)
  go_ret
  exact⟨_,rfl,by simpa using hown1,zN hg1 (ac6 w #[] 0 (aaq _) (aaW _) rfl:World.ownsRow _ w.heap.size 165 1 _ 0 []) ((Ext.refl w).alloc _) (aaq _)⟩
theorem JE {X:Nat->Prop} {w:World} {v:Value} (h:bQ X w (.sl (ls fU f)) v): ∃A c,v= .slice A f.length c/\f.length<=c/\RdI .u32 w A (f.map fun n:Nat=>(n:Int)):=by
 generalize g:PV.sl (ls fU f)=x at h;cases h with
 |raw v h=>cases g
 |ptr b m F e u y r s=>cases g
 |nil a c=>
  injection g with g
  have C:f=[]:=by simp_all[ls]
  subst C;exact⟨a,c,rfl,aaW _,RdI.nil _ _ _⟩
 |sl b m t cap J e u y p j D r s=>
  injection g with g
  subst g;rw[dU]at j D;refine⟨some ⟨b,m,none⟩,cap,by rw[dU],j,fun E=>⟨b,m,rfl,fun i x g=>?_⟩⟩;rw[u9,u9]at g;obtain⟨K,q,rfl⟩:=u6.1 g;obtain⟨z,I,rfl⟩:=u6.1 q;have o:(ls fU f)[i]?=some (fU z):=by grind [fX]
  have B:t=1:=by rw[<- p _ (u5 o)];rfl
  subst B;have G:=r i _ 0 _ o rfl;have H:=o8 (s i _ 0 _ o rfl);grind
theorem Px {q:World} {k:Nat} {v:Value} {Y:Nat->Prop} (t: ∀b,Y b->b<k) (E:f.length<=9223372036854775807) (h:q.ownsRow k 165 1 v f.length ((f.map fun n:Nat=>(n:Int)).map (Value.int .u32))):bQ Y q (.sl (ls fU f)) v:=by
 obtain⟨D,s⟩:=h;rcases s with⟨p,F⟩|⟨g,cap,cur,p,C,u,A,y,G,H⟩
 ·have:f=[]:=acg (by omega);subst this;rw[p];exact bQ.nil _ _
 rw[p];have c: ∀(i:Nat) z,f[i]?=some z->cur[i]?=some (.int .u32 (z:Int)):=fun i z r=>by
  have B:((f.map fun n:Nat=>(n:Int)).map (Value.int .u32))[i]?=some (.int .u32 (z:Int)):=by grind
  grind
 have:=bQ.sl (X:=Y) (w:=q) g 0 1 cap (ls fU f) (fun i _=>(cur[i]?).getD undef) (fun h=>absurd (t _ h) (by omega)) (aan.1 u).1 (fun e m=>by
  obtain⟨z,_,rfl⟩:=aai.1 m;rfl) (by grind [dU]) (by grind [dU]) (fun i e j x m o=>by
  grind [fX,fU,cell_of_row]) (fun i e j x m o=>by
  rw[fX]at m;obtain⟨z,r,rfl⟩:=u6.1 m;cases j with
  |succ j=>simp[fU]at o
  |zero=>
   simp[fU]at o;subst o;simp only[c i z r,abh];exact bQ.raw _ rfl)
 grind [dU]
theorem DC (l:List Nat) (x:l.length<=1073741824):CallC prog 209 [cK l] ⟨[],cK l⟩:=by
 refine wI (by kernel_rfl) fun X w vs t q p=>?_
 obtain⟨y,s,r⟩:=wA p (j:=0) rfl;obtain⟨A,c,rfl,u,m⟩:=JE r;obtain rfl:vs= #[.slice A l.length c]:=by
  grind
 have b:(l.map fun n:Nat=>(n:Int)).length=l.length:=aa0 _;have:=wN A c (l.map fun n:Nat=>(n:Int)) w m (by omega);rw[b]at this;refine this.mono fun e z ⟨v,f,g,h⟩=>⟨v,f,fun B H Y o=>Px o (by omega) g,h⟩
theorem Bo (z:Int) (h:Bg z):CallC prog 236 [tZ z] ⟨[],tZ z⟩:=by
 have c:=eH (au z.natAbs) h.len;rw[iQ]at c;have e:=DC (au z.natAbs) h.len;have b:=eP (decide (z<0)) z.natAbs;rw[BD]at b;refine ay func236 rfl ntmps236 (aA (k:=cQ [⟨4,_,_,_,c⟩,⟨5,_,_,_,e⟩,⟨6,_,_,_,b⟩] (k:=aG @results236)))
theorem qk (o:List Nat) (k v:Nat):(o++ae (k+1) 0).set o.length v=(o++[v])++ae k 0:=by
 grind
theorem tI (o:List Nat) (k:Nat):(o++ae (k+1) 0)[o.length]?=some 0:=by
 simp
theorem xl (l m:List Nat) (q:Lmb l) (r:Lmb m) (s:uW l) (t:uW m) (w:l.length<=1073741824) (x:m.length<=1073741824):
  CallC prog 207 [cK l,cK m] ⟨[],.raw (.int .i64 (gX (natV l) (natV m)))⟩:=by
 rcases abx l.length m.length with p|j|n
 ·rw[oN (jG q t p)];refine ay func207 rfl ntmps207 (aA (k:=ai (am (ar (k:=aC rfl (bz (k:=aG @results207)))))))
 ·refine ay func207 rfl ntmps207 (aA (k:=ai (am (ar (k:=aq rfl (ar (k:=aq rfl (ak (ai (ar (k:=?_)))))))))));refine aF (G:={k:Nat//k<=l.length/\l.drop k=m.drop k}) (fun k=>⟨(cK l::cK m::jk::jk::jk::.raw (.int .i64 ((k.1:Int)-1))::j16 (j16 (j4 (jk::jk::jk::[])))),Hm []⟩) (fun k=>k.1) ⟨l.length,aaq _,by rw[acY,j,acY]⟩ ?_ ?_
  ·refine aj trivial ?_;simp[wk]
  rintro⟨k,A,z⟩;simp only;by_cases y:0<k
  ·obtain⟨a,e⟩:=getElem?_of_lt (l:=l) (k:=k-1) (by omega);obtain⟨b,f⟩:=getElem?_of_lt (l:=m) (k:=k-1) (by omega);have h:((k:Int)-1).toNat=k-1:=by omega
   have g:l.drop (k-1+1)=m.drop (k-1+1):=by grind
   refine ai (ar (k:=aC rfl (ak (ai (am (am ?_))))));rcases abx a b with c|c|c
   ·rw[oN (mV q e f g c)];refine gW (aH h (aH e f)) (k:=aC rfl (bz (k:=aG @results207)))
   ·subst c;refine gW (aH h (aH e f)) (k:=aq rfl (gW (aH h (aH e f)) (k:=aq rfl (ak (bL (k:=?_))))));refine⟨⟨k-1,by omega,zI e f g⟩,by grind,aj trivial ?_⟩;have u:((k-1:Nat):Int)=(k:Int)-1:=by omega
    simp[wk,u]
   rw[vi (mV r f e g.symm c)];refine gW (aH h (aH e f)) (k:=aq rfl (gW (aH h (aH e f)) (k:=aC rfl (bz (k:=aG @results207)))))
  have o:k=0:=by omega
  subst o;have v:l=m:=by grind
  rw[show gX (natV l) (natV m)=0 by grind [gX]];refine ai (ar (k:=aq rfl (aY (bz (k:=aG @results207)))))
 rw[vi (jG r s n)];refine ay func207 rfl ntmps207 (aA (k:=ai (am (ar (k:=aq rfl (ar (k:=aC rfl (bz (k:=aG @results207)))))))))
structure Zy (m n:List Nat) (e:Nat) where
 i:Nat
 o:List Nat
 c:Nat
 hi:i<=e
 hc:c<=1
 ho:o.length=i
 h:o++sumL (m.drop i) (n.drop i) c=sumL m n 0
structure Zz (m n:List Nat) where
 j:Nat
 o:List Nat
 c:Nat
 hj:n.length+j<=m.length
 hc:c<=1
 ho:o.length=n.length+j
 h:o++sumL (m.drop (n.length+j)) [] c=sumL m n 0
theorem zP (m n:List Nat) (T:Lmb m) (U:Lmb n) (K:m.length<=536870912) (L:n.length<=536870912):
  CallC prog 170 [cK m,cK n] ⟨[],cK (au (natV m+natV n))⟩:=by
 refine ay func170 rfl ntmps170 (aA (k:=?_));obtain⟨p,q,w,P⟩: ∃p q:List Nat,((p=m/\q=n/\ ¬m.length<n.length)\/(p=n/\q=m/\m.length<n.length))/\q.length<=p.length:=by
  by_cases h:m.length<n.length
  ·exact⟨n,m,.inr ⟨rfl,rfl,h⟩,by omega⟩
  exact⟨m,n,.inl ⟨rfl,rfl,h⟩,by omega⟩
 refine ai (oJ (S:=⟨(cK p::cK q::j16 (j16 (j16 (j16 (j16 (jk::[])))))),Hm []⟩) ?_ ?_)
 ·rcases w with⟨rfl,rfl,h⟩|⟨rfl,rfl,h⟩
  ·refine ar (k:=?_);refine aZ rfl (fun h=>by simp at h<;>omega) (fun _=>ak (aj trivial ?_));simp[wk]
  refine ar (k:=aC rfl (ZJ (k:=?_)));refine aj trivial ?_;simp[wk]
 have s:natV m+natV n=natV p+natV q:=by grind
 have H:Lmb p:=by grind
 have J:Lmb q:=by grind
 have V:p.length<=536870912:=by grind
 rw[s];clear s w T U K L;have M:(p.length:Int)+1=((p.length+1:Nat):Int):=by omega
 refine aK (aH M @kX) (k:=bz (k:=ai (bz (k:=?_))));refine aF (G:=Zy p q q.length) (fun g=>⟨(cK p::cK q::jk::jk::jk::.one (.sl 19 0 0 (p.length+1))::.raw (.int .u64 (g.c:Int))::j4 (j4 (j4 (jk::jk::rN q.length::rN g.i::j16 (j16 (j16 (j4 (j4 (j4 ([])))))))))),Hm [(19,[⟨165,1,lc fU (g.o++ae (p.length+1-g.i) 0)⟩])]⟩) (fun g=>q.length-g.i) ⟨0,[],0,by omega,by omega,rfl,rfl⟩ ?_ ?_
 ·refine aj ⟨?_,trivial⟩ ?_
  ·rfl
  simp[wk]
 rintro⟨i,o,c,W,B,r,h⟩;simp only;by_cases Q:i<q.length
 ·obtain⟨a,t⟩:=getElem?_of_lt (show i<p.length by omega);obtain⟨b,A⟩:=getElem?_of_lt Q;have z:=bW H t;have O:=bW J A;have u:IntKind.u32.wrap ((c:Int)+((a:Int)+(b:Int)))=(((c+a+b)%4294967296:Nat):Int):=by rw[<- Cp];grind
  have y:Int.fdiv ((c:Int)+((a:Int)+(b:Int))) (2^(min 32 IntKind.u64.bits))=(((c+a+b)/4294967296:Nat):Int):=by rw[<- MK];grind
  have x:p.length+1-i=(p.length-i)+1:=by omega
  have f:=tI o (p.length-i);have e:=qk o (p.length-i) ((c+a+b)%4294967296);rw[r]at f e;rw[x];refine ar (k:=bi rfl (ai (am (bz (k:=gW (aH t A) (k:=aK (aH u (aH f (aH @cU e))) (k:=nA y (k:=bL (k:=?_)))))))));refine⟨⟨i+1,o++[(c+a+b)%4294967296],(c+a+b)/4294967296,by omega,by omega,by simp[r],?_⟩,by simp only;omega,aj ⟨?_,trivial⟩ ?_⟩
  ·rw[<- h,dQ t,dQ A,sumL,aaL];rfl
  ·show _=[(⟨_,_,lc fU ((o++[(c+a+b)%4294967296])++ae (p.length+1-(i+1)) 0)⟩:OObj)];rw[show p.length+1-(i+1)=p.length-i by omega];rfl
  simp[wk]
 have C:i=q.length:=by omega
 subst C;rw[d8 (aaq _)]at h;refine ar (k:=bv rfl ?_);show bo _ _ _ _;have N:(p.length:Int)-(q.length:Int)=((p.length-q.length:Nat):Int):=by omega
 refine ai (aK N (k:=?_));refine aF (G:=Zz p q) (fun g=>⟨(cK p::cK q::jk::jk::jk::.one (.sl 19 0 0 (p.length+1))::.raw (.int .u64 (g.c:Int))::j16 (j16 (j4 (j4 (jk::jk::jk::.raw (.int .i64 ((p.length-q.length:Nat):Int))::rN g.j::j16 (j4 (j4 (j4 (jk::jk::jk::[]))))))))),Hm [(19,[⟨165,1,lc fU (g.o++ae (p.length+1-(q.length+g.j)) 0)⟩])]⟩) (fun g=>p.length-q.length-g.j) ⟨0,o,c,by omega,B,r,h⟩ ?_ ?_
 ·refine aj ⟨rfl,trivial⟩ ?_;simp[wk]
 clear h r B c o;rintro⟨j,o,c,X,B,r,h⟩;simp only;have v:(q.length:Int)+(j:Int)=((q.length+j:Nat):Int):=by omega
 by_cases R:j<p.length-q.length
 ·obtain⟨a,t⟩:=getElem?_of_lt (show q.length+j<p.length by omega);have z:=bW H t;have u:IntKind.u32.wrap ((c:Int)+(a:Int))=(((c+a)%4294967296:Nat):Int):=by rfl
  have y:Int.fdiv ((c:Int)+(a:Int)) (2^(min 32 IntKind.u64.bits))=(((c+a)/4294967296:Nat):Int):=by rw[<- MK];rfl
  have x:p.length+1-(q.length+j)=(p.length-(q.length+j))+1:=by omega
  have f:=tI o (p.length-(q.length+j));have e:=qk o (p.length-(q.length+j)) ((c+a)%4294967296);rw[r]at f e;rw[x];refine ar (k:=bi rfl (ai (am (bz (k:=aK (aH v t) (k:=aK (aH v (aH u (aH f (aH @cU e)))) (k:=nA y (k:=bL (k:=?_)))))))));refine⟨⟨j+1,o++[(c+a)%4294967296],(c+a)/4294967296,by omega,by omega,by grind,?_⟩,by simp only;omega,aj ⟨?_,trivial⟩ ?_⟩
  ·rw[<- h,dQ t,sumL,aaL];rfl
  ·show _=[(⟨_,_,lc fU ((o++[(c+a)%4294967296])++ae (p.length+1-(q.length+(j+1))) 0)⟩:OObj)];rw[show p.length+1-(q.length+(j+1))=p.length-(q.length+j) by omega];rfl
  simp[wk]
 have D:q.length+j=p.length:=by omega
 rw[D]at h r;rw[d8 (aaq _),sumL]at h;have u:IntKind.u32.wrap (c:Int)=(c:Int):=by rw[Cp];omega
 have x:p.length+1-(q.length+j)=0+1:=by omega
 have f:=tI o 0;have e:=qk o 0 c;rw[r]at f e;rw[adp,abd,h]at e;have F:(sumL p q 0).length=p.length+1:=by grind
 have E:=oo p q 0 H J (by omega);have I:=eH (sumL p q 0) (by omega);rw[dA E,me,aa3]at I;rw[x];generalize sumL p q 0=S at*
 refine ar (k:=bv rfl (aK (aH u (aH f (aH @cU e))) (k:=?_)));refine bo.weak ((bH 19 (bG rfl)).trans (aj (tm:=(j4 (jk::cK S::j16 (j16 (j16 (j16 (j4 (j4 (j4 (jk::[])))))))))) (l:=[]) trivial (by simp[wk,fc,dN,aw,Hm,gR,fT,aar,F]))) ?_;refine bM [⟨1,_,_,_,I⟩] (k:=aG @results170)
theorem ta (m n:List Nat) (x:Lmb m) (y:Lmb n) (B:n.length<=m.length) (C:natV n<=natV m) (H:m.length<=536870912):
  CallC prog 171 [cK m,cK n] ⟨[],cK (au (natV m-natV n))⟩:=by
 refine ay func171 rfl ntmps171 (aA (k:=aK @kX (k:=bz (k:=ai (bz (k:=?_))))));refine aF (G:=Yl m n) (fun g=>⟨(cK m::cK n::jk::jk::jk::.one (.sl 11 0 0 m.length)::.raw (.int .u64 (g.c:Int))::j4 (jk::jk::rN m.length::rN g.i::j16 (j4 (j4 (j4 (jk::jk::[])))))),Hm [(11,[⟨165,1,lc fU (g.o++ae (m.length-g.i) 0)⟩])]⟩) (fun g=>m.length-g.i) ⟨0,[],0,by omega,by omega,rfl,rfl⟩ ?_ ?_
 ·refine aj ⟨?_,trivial⟩ ?_
  ·rfl
  simp[wk]
 rintro⟨i,o,c,J,I,e,h⟩;simp only;by_cases D:i<m.length
 ·obtain⟨a,j⟩:=getElem?_of_lt D;have z:=bW x j;have F:m.length-i=(m.length-i-1)+1:=by omega
  have s:=tI o (m.length-i-1);rw[e]at s;rw[F];refine ar (k:=bi rfl (ai (am (bz (k:=aK j (k:=?_))))));by_cases E:i<n.length
  ·obtain⟨b,r⟩:=getElem?_of_lt E;have A:=bW y r;have p:IntKind.u32.wrap (IntKind.u64.wrap (IntKind.u64.wrap ((a:Int)-(c:Int))-(b:Int)))=(((a+8589934592-(c+b))%4294967296:Nat):Int):=by grind [IntKind.wrap_u32,IntKind.wrap_u64]
   have q:Int.fdiv (IntKind.u64.wrap (IntKind.u64.wrap ((a:Int)-(c:Int))-(b:Int))) (2^(min 63 IntKind.u64.bits))=(((if a<c+b then 1 else 0):Nat):Int):=by
    rw[abb,abb];show Int.fdiv _ 9223372036854775808=_;grind
   have f:=qk o (m.length-i-1) ((a+8589934592-(c+b))%4294967296);rw[e]at f;refine ai (ar (k:=aC rfl (dZ r (k:=aK (aH p (aH s (aH @cU f))) (k:=nA q (k:=bL (k:=?_)))))));refine⟨⟨i+1,o++[(a+8589934592-(c+b))%4294967296],if a<c+b then 1 else 0,by omega,by grind,by simp[e],?_⟩,by simp only;omega,aj ⟨?_,trivial⟩ ?_⟩
   ·rw[<- h,dQ j,dQ r,diffL,aaL];rfl
   ·rfl
   simp[wk]
  have p:IntKind.u32.wrap (IntKind.u64.wrap ((a:Int)-(c:Int)))=(((a+8589934592-c)%4294967296:Nat):Int):=by rw[ab9,abb];omega
  have q:Int.fdiv (IntKind.u64.wrap ((a:Int)-(c:Int))) (2^(min 63 IntKind.u64.bits))=(((if a<c then 1 else 0):Nat):Int):=by
   rw[abb];show Int.fdiv _ 9223372036854775808=_;grind
  have f:=qk o (m.length-i-1) ((a+8589934592-c)%4294967296);rw[e]at f;refine ai (ar (k:=aq rfl (ak (aK (aH p (aH s (aH @cU f))) (k:=nA q (k:=bL (k:=?_)))))));refine⟨⟨i+1,o++[(a+8589934592-c)%4294967296],if a<c then 1 else 0,by omega,by grind,by simp[e],?_⟩,by simp only;omega,aj ⟨?_,trivial⟩ ?_⟩
  ·rw[<- h,dQ j,d8 (by omega:n.length<=i),d8 (by omega:n.length<=i+1),diffL,aaL];rfl
  ·rfl
  simp[wk]
 have t:i=m.length:=by omega
 subst t;rw[d8 (aaq _),diffL,abd]at h;rw[abQ,adp,abd,h];have v:(diffL m n 0).length=m.length:=ke m n 0;have u:=ki m n 0;have K:=jb m n 0 x y (by omega) B (by omega);have w:=eH (diffL m n 0) (by omega);rw[dA u,show natV (diffL m n 0)=natV m-natV n by omega]at w;generalize diffL m n 0=S at*
 refine ar (k:=bv rfl ?_);show bo _ _ _ _;refine bo.weak ((bH 11 (bG rfl)).trans (aj (tm:=(j4 (jk::cK S::j16 (j16 (j4 (jk::jk::jk::[])))))) (l:=[]) trivial (by simp[wk,fc,dN,aw,Hm,gR,fT,aar,v]))) ?_;refine bM [⟨1,_,_,_,w⟩] (k:=aG @results171)
theorem Lh {B:List Nat} (g:Kc f B) (h:f[g.i]?=some 0): ∃b:Kc f B,b.i=g.i+1/\b.O=g.O:=by
 refine⟨⟨g.i+1,g.O,(aaf.1 h).1,g.len,g.lmb,?_,fun k e c=>g.zero k (by omega) c⟩,rfl,rfl⟩;rw[bj h,g.val];simp
theorem K5 (A B:List Nat) (b:Lmb A) (e:Lmb B) (la:A.length<=536870912) (lb:B.length<=536870912):CallC prog 168 [cK A,cK B] ⟨[],cK (au (natV A*natV B))⟩:=by
 by_cases s:A.length<=1/\B.length<=1
 ·have t:=s.1;have u:=s.2;have w1:=qU A b (by omega);have w2:=qU B e (by omega);have N:natV A<4294967296:=by
   have:=fH b;exact aas this (by have:=aaE (n:=4294967296) (by omega) t;omega)
  have P:natV B<4294967296:=by
   have:=fH e;exact aas this (by have:=aaE (n:=4294967296) (by omega) u;omega)
  have X:=oV N P;have w3:=jB (natV A*natV B) (by omega);have D:(natV A:Int)*(natV B:Int)=((natV A*natV B:Nat):Int):=by simp
  generalize natV A*natV B=p at*
  refine ay func168 rfl ntmps168 (aA (k:=ai (ar (k:=aC rfl (cn [⟨1,_,_,_,w1⟩,⟨3,_,_,_,w2⟩,⟨5,_,_,_,w3⟩] D (k:=aG @results168))))))
 have Q:((A.length:Int)+(B.length:Int)).toNat=A.length+B.length:=by omega
 refine ay func168 rfl ntmps168 (aA (k:=?_));refine ai (oJ (S:=⟨(cK A::cK B::j16 (j16 (j16 (j16 (j16 (j4 ([]))))))),Hm []⟩) ?_ ?_)
 ·by_cases V:A.length<=1
  ·refine ar (k:=?_);refine aZ rfl (fun h=>by simp at h<;>omega) (fun _=>ak (aj trivial ?_));simp[wk]
  refine ar (k:=?_);refine aZ rfl (fun h=>by simp at h<;>omega) (fun _=>ak (aj trivial ?_));simp[wk]
 refine aK (aH Q @kX) (k:=ai (bz (k:=?_)));refine aF (G:=Kc A B) (fun g=>⟨(cK A::cK B::jk::jk::jk::.one (.sl 31 0 0 (A.length+B.length))::j16 (j4 (j4 (jk::jk::cK A::rN A.length::rN g.i::j16 (j16 (j16 (jk::jk::jk::[]))))))),Hm [(31,[⟨165,1,lc fU g.O⟩])]⟩) (fun g=>A.length-g.i) ⟨0,ae (A.length+B.length) 0,by omega,by simp,fun x f=>by simp at f;omega,by simp[md,natV],fun k V W=>by rw[aaY,if_pos W]⟩ ?_ ?_
 ·refine aj ⟨rfl,trivial⟩ ?_;simp[wk]
 rintro⟨i,O,hi,len,lmb,val,zero⟩;simp only;by_cases K:i<A.length
 ·obtain⟨x,f⟩:=getElem?_of_lt K;have v:=bW b f;refine ar (k:=bi rfl (ai (am (aK f (k:=?_)))));by_cases H:x=0
  ·subst H;obtain⟨q,z,m⟩:=Lh (⟨i,O,hi,len,lmb,val,zero⟩:Kc A B) f;simp only at z m;refine ai (ar (k:=aC rfl (aY (bL (k:=?_)))));refine⟨q,by omega,aj ⟨by rw[m];rfl,trivial⟩ ?_⟩;simp[wk,z]
  have U:(i:Int)+(B.length:Int)+1=((i+B.length+1:Nat):Int):=by omega
  have T:i+B.length+1-i=B.length+1:=by omega
  refine ai (ar (k:=aq rfl (ak (aK (aH U T) (k:=bz (k:=ai (bz (k:=?_))))))));refine aF (G:=MQ A B i x) (fun g=>⟨(cK A::cK B::jk::jk::jk::.one (.sl 31 0 0 (A.length+B.length))::jk::.raw (.int .u32 (x:Int))::.one (.sl 31 0 i (B.length+1))::.raw (.int .u64 (g.c:Int))::j16 (j4 (jk::jk::cK A::rN A.length::rN i::j4 (j4 (j4 (jk::jk::cK B::rN B.length::rN g.j::j16 (j16 (jk::jk::[])))))))),Hm [(31,[⟨165,1,lc fU g.O⟩])]⟩) (fun g=>B.length-g.j) ⟨0,O,0,by omega,len,lmb,by omega,by simpa[natV] using val,zero⟩ ?_ ?_
  ·refine aj ⟨rfl,trivial⟩ ?_;simp[wk]
  intro g;by_cases L:g.j<B.length
  ·obtain⟨y,I⟩:=getElem?_of_lt L;have w:=bW e I;have J:=g.len;obtain⟨o,C⟩:=getElem?_of_lt (show i+g.j<g.O.length by omega);have aa:=bW g.lmb C;have X:=oV v w;have F:=g.hc;obtain⟨q,z,m,q3⟩:=zX g I C K v w;have D:(x:Int)*(y:Int)=((x*y:Nat):Int):=by simp
   generalize hp:x*y=p at*
   have E:IntKind.u32.wrap ((g.c:Int)+((p:Int)+(o:Int)))=(((g.c+(p+o))%4294967296:Nat):Int):=by rfl
   have R:Int.fdiv ((g.c:Int)+((p:Int)+(o:Int))) (2^(min 32 IntKind.u64.bits))=(((g.c+(p+o))/4294967296:Nat):Int):=by grind [MK]
   refine ar (k:=bi rfl (ai (am (aK I (k:=aK (aH D C) (k:=aK (aH E (aH C @cU)) (k:=nA R (k:=bL (k:=?_)))))))));refine⟨q,by omega,aj ⟨by rw[m];rfl,trivial⟩ ?_⟩;simp_all[wk]
  have Y:=g.hj;have F:=g.hc;have Z:=g.len;obtain⟨q,z,m⟩:=zW f g L;have E:IntKind.u32.wrap (g.c:Int)=(g.c:Int):=by rw[Cp];omega
  refine ar (k:=bv rfl ?_);show bo _ _ _ _;have hz:=g.zero (i+B.length) (aaq _) (by omega);refine dZ (aH E (aH hz @cU)) (k:=bL (k:=?_));refine⟨q,by omega,aj ⟨by rw[m];rfl,trivial⟩ ?_⟩;simp[wk,z]
 have r:natV O=natV A*natV B:=by
  grind
 have M:=eH O (by omega);rw[dA lmb,r]at M;refine ar (k:=bv rfl ?_);show bo _ _ _ _;refine bo.weak ((bH 31 (bG rfl)).trans (aj (tm:=(j4 (jk::cK O::j16 (j16 (j16 (j16 (j16 ([])))))))) (l:=[]) trivial (by simp[wk,fc,dN,aw,Hm,gR,fT,aar,len]))) ?_;refine bM [⟨1,_,_,_,M⟩] (k:=aG @results168)
/-! Signed numbers. -/
theorem NN {a b:Nat}:0<=gX a b↔b<=a:=by grind [gX]
theorem Hb {c e:Bool} {a:Nat} (h:c≠e) (f:n<=a):gI c (a-n)=gI c a+gI e n:=by
 grind [gI]
theorem Hc {e c:Bool} {a:Nat} (h:e≠c) (f:a<=n):gI c (n-a)=gI e a+gI c n:=by
 grind [gI]
theorem TX (n:Bool) (a b:Nat):gI n (a+b)=gI n a+gI n b:=by grind [gI]
theorem Bm (g m:Bool) (a b:Nat) (p:(au a).length<=536870912) (q:(au b).length<=536870912):CallC prog 166 [.raw (.bool g),cK (au a),.raw (.bool m),cK (au b)] ⟨[],tZ (gI g a+gI m b)⟩:=by
 by_cases o:g=m
 ·subst o;have c:=zP (au a) (au b) (aE _) (aE _) p q;rw[az,az]at c;have e:=eP g (a+b);rw[TX]at e;refine ay func166 rfl ntmps166 (aA (k:=ai (am (bz (k:=aC rfl (bK [⟨3,_,_,_,c⟩,⟨4,_,_,_,e⟩] (k:=aG @results166)))))))
 have l:(g==m)=false:=by grind
 have n:=xl (au a) (au b) (aE _) (aE _) (b7 _) (b7 _) (by omega) (by omega);rw[az,az]at n;have j:=NN (a:=a) (b:=b);by_cases f:b<=a
 ·have c:=ta (au a) (au b) (aE _) (aE _) (jF (aE _) (b7 _) (by grind [az])) (by grind [az]) p;rw[az,az]at c;have e:=eP g (a-b);rw[Hb o f]at e;have s:0<=gX a b:=j.2 f;generalize gX a b=r at*
  refine ay func166 rfl ntmps166 (aA (k:=ai (am (fL l (k:=aq rfl (bK [⟨2,_,_,_,n⟩] (k:=aC rfl (bK [⟨3,_,_,_,c⟩,⟨4,_,_,_,e⟩] (k:=aG @results166)))))))))
 have c:=ta (au b) (au a) (aE _) (aE _) (jF (aE _) (b7 _) (by grind [az])) (by grind [az]) q;rw[az,az]at c;have e:=eP m (b-a);rw[Hc o (by omega)]at e;have s: ¬0<=gX a b:=fun h=>f (j.1 h)
 generalize gX a b=r at*
 refine ay func166 rfl ntmps166 (aA (k:=ai (am (fL l (k:=aq rfl (bK [⟨2,_,_,_,n⟩] (k:=aq rfl (ak (bK [⟨3,_,_,_,c⟩,⟨4,_,_,_,e⟩] (k:=aG @results166))))))))))
theorem WI (a b:Int) (c:Bh a) (e:Bh b):CallC prog 118 [tZ a,tZ b] ⟨[],tZ (a-b)⟩:=by
 have t1:=eH (au a.natAbs) c.bg.len;have t2:=eH (au b.natAbs) e.bg.len;rw[iQ]at t1 t2;have h:=Bm (decide (a<0)) (!decide (b<0)) a.natAbs b.natAbs c.len e.len;rw[BD,O9,<- aer]at h;refine ay func118 rfl ntmps118 (aA (k:=cQ [⟨4,_,_,_,t1⟩,⟨10,_,_,_,t2⟩,⟨11,_,_,_,h⟩] (k:=aG @results118)))
theorem Ov (a b:Int) (e:Bh a) (f:Bh b):CallC prog 119 [tZ a,tZ b] ⟨[],tZ (a*b)⟩:=by
 have t1:=eH (au a.natAbs) e.bg.len;have t2:=eH (au b.natAbs) f.bg.len;rw[iQ]at t1 t2;have h:=K5 (au a.natAbs) (au b.natAbs) (aE _) (aE _) e.len f.len;rw[az,az]at h;have c:=eP (!(decide (a<0)==decide (b<0))) (a.natAbs*b.natAbs);rw[Jq]at c;refine ay func119 rfl ntmps119 (aA (k:=cQ [⟨7,_,_,_,t1⟩,⟨10,_,_,_,t2⟩,⟨11,_,_,_,h⟩,⟨12,_,_,_,c⟩] (k:=aG @results119)))
theorem YU {U V L:Nat} (c:n*4294967296*L<=V) (g:U<(m+1)*4294967296*L) (h:j*V<=U) (f:0<L):j*n<=m:=by
 have e:j*(n*4294967296*L)<=j*V:=aao _ c;have b:(j*n)*(4294967296*L)<(m+1)*(4294967296*L):=by
  grind
 have:=acu b;omega
theorem YT {U V L high:Nat} (f:(n*4294967296+m)*L<=V) (t:U<(high*4294967296+j+1)*L) (l:q*V<=U) (u:c*n+p=high) (h:p*4294967296+j<c*m):q<c:=by
 by_cases b:q<c
 ·exact b
 exfalso;have o:c*((n*4294967296+m)*L)<=U:=aaj (aaU (ade b) f) l;have e:(c*(n*4294967296+m))*L<(high*4294967296+j+1)*L:=by
  grind
 have s:=acu e;grind
theorem SV {U vl t3:Nat} (l: n = (j * 4294967296 + c) * m + vl) (b: vl < m) (h: t3 * m <= U) (u: U < (q + 1) * n) (o: p * (j * 4294967296 + c) <= t3) (f: p <= 4294967296) (hv1: 1 <= j) : p <= q + 1 := by
  have r : p * n <= U + p * vl := by
    calc p * n = (p * (j * 4294967296 + c)) * m + p * vl := by grind
      _ <= t3 * m + p * vl := aee (aat _ o) _
      _ <= _ := aee h _
  have s : p * vl <= 4294967296 * m := aaU f (acN b);have t : 4294967296 * m <= n := by
    rw [l];have : 4294967296 * m <= (j * 4294967296 + c) * m := aat _ (by omega);omega
  have e : p * n < (q + 2) * n := by
    grind
  have := acu e;omega
structure RM (u v:List Nat) (g:Nat) where
 i:Nat
 us:List Nat
 c:Nat
 b:Nat
 hi:i<=v.length
 len:us.length=i
 lmb:Lmb us
 hc:c<4294967296
 hb:b<=1
 val:natV us+g*natV (v.take i)=natV (u.take i)+(c+b)*4294967296^i
def RM.start (u v:List Nat) (g:Nat):RM u v g:=⟨0,[],0,0,aaW _,rfl,fun a h=>by simp at h,by omega,by omega,by simp[natV]⟩
theorem oW (l:List Nat) (a:Nat):natV (l++[a])=natV l+a*4294967296^l.length:=by
 grind [jE,natV]
theorem oh {a:Nat} (h:Lmb f) (e:a<4294967296):Lmb (f++[a]):=fun x c=>by
 rcases abe.1 c with b|b
 ·exact h x b
 grind
theorem D1 (b:n<=4294967296) (f:m<4294967296) (e:j<4294967296):j+n*m<18446744073709551616/\(j+n*m)/4294967296<4294967296:=by
 have:n*m<=4294967296*4294967295:=aaU b (by omega);omega
theorem Ta {v:List Nat} (e:RM f v n) {l b':Nat} (r:n<=4294967296) (q:v[e.i]?=some m) (t:f[e.i]?=some j) (w:Lmb v) (s:l<4294967296) (o:b'<=1) (A:l+(e.c+n*m)%4294967296+e.b=j+b'*4294967296): ∃h:RM f v n,h.i=e.i+1/\h.us=e.us++[l]/\h.c=(e.c+n*m)/4294967296/\h.b=b':=by
 have p:=bW w q;refine⟨⟨e.i+1,e.us++[l],(e.c+n*m)/4294967296,b',?_,by rw[aa6,e.len];rfl,oh e.lmb s,(D1 r p e.hc).2,o,?_⟩,rfl,rfl,rfl,rfl⟩
 ·grind
 have B:=e.val;rw[oW,e.len,bj q,bj t,aby];have z:e.c+n*m=(e.c+n*m)%4294967296+4294967296*((e.c+n*m)/4294967296):=by omega
 grind
structure UL (u v:List Nat) where
 i:Nat
 us:List Nat
 c:Nat
 hi:i<=v.length
 len:us.length=i
 lmb:Lmb us
 hc:c<=1
 val:natV us+c*4294967296^i=natV (u.take i)+natV (v.take i)
def UL.start (u v:List Nat):UL u v:=⟨0,[],0,aaW _,rfl,fun a h=>by simp at h,by omega,by simp[natV]⟩
theorem R9 {v:List Nat} (b:UL f v) (g:v[b.i]?=some n) (h:f[b.i]?=some m) (p:Lmb v) (o:Lmb f):
  ∃e:UL f v,e.i=b.i+1/\e.us=b.us++[(b.c+(m+n))%4294967296]/\e.c=(b.c+(m+n))/4294967296:=by
 have j:=bW p g;have l:=bW o h;have q:=b.hc;refine⟨⟨b.i+1,b.us++[(b.c+(m+n))%4294967296],(b.c+(m+n))/4294967296,?_,by rw[aa6,b.len];rfl,oh b.lmb (aaQ _ (by omega)),by omega,?_⟩,rfl,rfl,rfl⟩
 ·grind
 have s:=b.val;rw[oW,b.len,bj g,bj h,aby];have r:b.c+(m+n)=(b.c+(m+n))%4294967296+4294967296*((b.c+(m+n))/4294967296):=by omega
 grind
theorem OF (l:c=n/m) (f:c<=j) (h:p+j*m=n) (b:0<m):j=c/\p=n%m:=by
 have e:j<=n/m:=(ada b).2 (by omega);grind [Nat.div_add_mod,Nat.mul_comm]
theorem SU {T Bn c t W:Nat} (s:p=n/m) (C:j<=p+1) (h:q+j*m=n+4294967296*Bn) (r:n<j*m) (l:0<m) (o:m<=Bn) (A:W<Bn) (z:q=T+t*Bn) (D:W+c*Bn=T+m) (B:c<=1) (u:t<4294967296):j=p+1/\(t+c)%4294967296=0/\W=n%m:=by
 have e:j=p+1:=by
  by_cases b:j=p+1
  ·exact b
  exfalso;have:j*m<=(n/m)*m:=aat _ (by omega);have:=adq n m;omega
 have f:=ab5 n m;have v:=aaQ n l;rw[<- s]at f;subst e;have w:(p+1)*m=m*p+m:=by grind
 have x:W+(t+c)*Bn=n%m+4294967296*Bn:=by
  grind
 have y:t+c=4294967296:=by
  rcases abx (t+c) 4294967296 with b|b|b
  ·exfalso;have:(t+c)*Bn+Bn<=4294967296*Bn:=by
    have:=aat Bn (show t+c+1<=4294967296 by omega);grind
   omega
  ·exact b
  omega
 grind
def bO:Nat->Nat->List Nat
 |0,_=>[]
 |n+1,x=>x%4294967296::bO n (x/4294967296)
theorem bS: ∀n x,(bO n x).length=n
 |0,_=>rfl
 |n+1,x=>by simp[bO,bS n]
theorem og: ∀n x,Lmb (bO n x)
 |0,_=>fun a h=>by simp[bO]at h
 |n+1,x=>by rw[bO,dt];exact⟨aaQ _ (by omega),og n _⟩
theorem Ac: ∀n x,natV (bO n x)=x%4294967296^n
 |0,x=>by grind [bO,natV]
 |n+1,x=>by
  rw[bO,natV,Ac n,aby,abj (4294967296^n),Nat.mod_mul]
theorem iK (h:m<4294967296^n):natV (bO n m)=m:=by rw[Ac,abP h]
theorem I4: ∀{l:List Nat},Lmb l->l=bO l.length (natV l)
 |[],_=>rfl
 |a::l,h=>by
  rw[dt]at h;have b:(a+4294967296*natV l)%4294967296=a:=by omega
  have c:(a+4294967296*natV l)/4294967296=natV l:=by omega
  show a::l=bO (l.length+1) (natV (a::l));rw[bO,natV,b,c,<- I4 h.2]
theorem Du (h:Lmb f) (b:f.length=n) (c:natV f=m):f=bO n m:=by
 grind [I4]
theorem iL: ∀{n x i:Nat},i<n->(bO n x)[i]?=some (x/4294967296^i%4294967296)
 |0,_,_,h=>by omega
 |n+1,x,0,_=>by simp[bO]
 |n+1,x,i+1,h=>by
  rw[bO,abJ,iL (by omega),abF,aby,abj 4294967296]
theorem tN (h:m<4294967296^n):cJ (bO n m)=au m:=by
 rw[dA (og _ _),iK h]
theorem rl {i a:Nat} (h:f[i]?=some a):natV (f.drop i)=a+4294967296*natV (f.drop (i+1)):=by rw[dQ h,natV]
/-! Short division. -/
theorem P8 {a Y:Nat} (c:0<n) (j:a<4294967296):(a+4294967296*Y)/n%4294967296=(Y%n*4294967296+a)/n/\(a+4294967296*Y)/n/4294967296=Y/n/\(a+4294967296*Y)%n=(Y%n*4294967296+a)%n:=by
 have g:=ab5 Y n;have h:=aaQ Y c;generalize l:Y/n=q at*
 generalize m:Y%n=r at*
 have e:a+4294967296*Y=n*(4294967296*q)+(r*4294967296+a):=by grind
 have f:(r*4294967296+a)/n<4294967296:=by
  rw[abH c];omega
 simp_all[adk]
theorem TR {i a b:Nat} (q:f.length=n) (p:i<n) (g:f[i]?=some a) (c:a<4294967296) (o:0<b):
  (f.take (i+1)++bO (n-(i+1)) (natV (f.drop (i+1))/b)).set i ((natV (f.drop (i+1))%b*4294967296+a)/b)=f.take i++bO (n-i) (natV (f.drop i)/b)/\
  (natV (f.drop (i+1))%b*4294967296+a)%b=natV (f.drop i)%b:=by
 obtain⟨h,j,m⟩:=P8 (Y:=natV (f.drop (i+1))) o c;rw[rl g];refine⟨?_,m.symm⟩;rw[show n-i=n-(i+1)+1 by omega,bO,h,j,adH,g];simp only[Option.toList_some,aaL,List.singleton_append];rw[abU _ _ (by simp;omega)];have e:i-(f.take i).length=0:=by simp;omega
 grind
/-! Shifts. -/
theorem Ea (b:m<32):2^m<=2147483648/\1<=2^m:=⟨by have:=aaE (n:=2) (by omega) (show m<=31 by omega);omega,Nat.one_le_two_pow⟩
theorem Qr (b:j<=32):(n+18446744073709551616*m)/2^j%4294967296=n/2^j%4294967296:=by
 have e:18446744073709551616*m=2^j*(2^(32-j)*(4294967296*m)):=by
  rw[<- ace,<- abM,show j+(32-j)=32 by omega];grind
 grind [Nat.add_mul_div_left]
theorem Y7 (c:Lmb f) {i:Nat} (m:n<=32):natV f/2^n/4294967296^i%4294967296=(f.getD i 0+4294967296*f.getD (i+1) 0)/2^n%4294967296:=by
 have e:natV f/2^n/4294967296^i=natV (f.drop i)/2^n:=by
  rw[abF,abj,<- abF]
  congr 1
  by_cases r:i<=f.length
  ·have o:natV f=natV (f.take i)+4294967296^i*natV (f.drop i):=by
    grind [List.take_append_drop,jE]
   simp_all[fd,Nat.add_mul_div_left,abk]
  rw[acf.2 (by omega)];have p:=fH c;have q:4294967296^f.length<=4294967296^i:=aaE (by omega) (by omega);rw[acK (by omega)];rfl
 rw[e];have g: ∀j,natV (f.drop j)=f.getD j 0+4294967296*natV (f.drop (j+1)):=fun j=>by
  rw[aav];cases h:f[j]? with
  |none=>
   rw[adA]at h;rw[acf.2 h,acf.2 (by omega)];rfl
  |some a=>exact rl h
 rw[g i,g (i+1)];have b:f.getD i 0+4294967296*(f.getD (i+1) 0+4294967296*natV (f.drop (i+1+1)))=(f.getD i 0+4294967296*f.getD (i+1) 0)+18446744073709551616*natV (f.drop (i+1+1)):=by grind
 rw[b,Qr m]
theorem JT (h:Lmb f) {i v:Nat} (j:n<=32) (p:f.length=m) (g:i<m) (o:v=(f.getD i 0+4294967296*f.getD (i+1) 0)/2^n%4294967296):
  ((bO m (natV f/2^n)).take i++f.drop i).set i v=(bO m (natV f/2^n)).take (i+1)++f.drop (i+1):=by
 have b:=iL (n:=m) (x:=natV f/2^n) g;rw[Y7 h j,<- o]at b;have c:f.drop i=f[i]'(by omega)::f.drop (i+1):=abE (by omega);rw[abU _ _ (by grind),adH,b,c];have e:i-((bO m (natV f/2^n)).take i).length=0:=by grind
 grind
def y5 (m:List Nat) (s i:Nat):Nat:=natV (m.take i)*2^s/4294967296^i
theorem Xj (b:Lmb f) (s i:Nat):y5 f s i<2^s:=by
 simp_all[y5,abH,abk,abj,fd]
theorem T0 {s i a:Nat} (b:f[i]?=some a):y5 f s i+a*2^s=natV (f.take (i+1))*2^s/4294967296^i/\(y5 f s i+a*2^s)/4294967296=y5 f s (i+1):=by
 have c:=bj b;have e:natV (f.take (i+1))*2^s=natV (f.take i)*2^s+4294967296^i*(a*2^s):=by grind
 grind [y5,Nat.add_mul_div_left,Nat.div_div_eq_div_mul]
theorem Xk {m:List Nat} {s i j:Nat} (f:j<i) (c:i<=m.length):natV (m.take i)*2^s/4294967296^j%4294967296=natV m*2^s/4294967296^j%4294967296:=by
 have b:natV m=natV (m.take i)+4294967296^i*natV (m.drop i):=by
  grind [List.take_append_drop,jE]
 obtain⟨d,rfl⟩: ∃d,i=j+1+d:=⟨i-(j+1),by omega⟩;have e:natV m*2^s=natV (m.take (j+1+d))*2^s+4294967296^j*(4294967296*(4294967296^d*natV (m.drop (j+1+d))*2^s)):=by
  grind
 grind [Nat.add_mul_div_left]
theorem Aj:bO (n+1) m=bO n m++[m/4294967296^n%4294967296]:=by
 apply aay;grind [iL,bS]
theorem yz {a s:Nat} (h:a*2^s<18446744073709551616) (b:s<=64):IntKind.u64.wrap ((a:Int)*2^(min s IntKind.u64.bits))=((a*2^s:Nat):Int):=by
 rw[show min s IntKind.u64.bits=s from ac3 b,abb];grind
theorem Ig {a s:Nat} (b:s<=64):Int.fdiv (a:Int) (2^(min s IntKind.u64.bits))=((a/2^s:Nat):Int):=by
 rw[show min s IntKind.u64.bits=s from ac3 b];grind
theorem qT (m:List Nat) (s:Nat) (A:Lmb m) (L:s<32) (N:m.length<=536870912):CallC prog 212 [cK m,.raw (.int .i64 (s:Int))] ⟨[⟨165,1,lc fU (bO (m.length+1) (natV m*2^s))⟩],.one (.sl 0 0 0 (m.length+1))⟩:=by
 have K:=Ea L;have E:(m.length:Int)+1=((m.length+1:Nat):Int):=by omega
 refine ay func212 rfl ntmps212 (aA (k:=aK (aH E @kX) (k:=bz (k:=ai (bz (k:=?_))))));refine aF (G:=jo m.length) (fun g=>⟨(cK m::rN s::jk::jk::jk::.one (.sl 12 0 0 (m.length+1))::.raw (.int .u64 (y5 m s g.i:Nat))::j4 (jk::jk::cK m::rN m.length::rN g.i::j16 (j4 (j4 (jk::[]))))),Hm [(12,[⟨165,1,lc fU (bO g.i (natV m*2^s)++ae (m.length+1-g.i) 0)⟩])]⟩) (fun g=>m.length-g.i) ⟨0,by omega⟩ ?_ ?_
 ·refine aj ⟨?_,trivial⟩ ?_
  ·rfl
  simp[wk,y5,natV]
 rintro⟨i,O⟩;simp only;have o:=Xj A s i;by_cases J:i<m.length
 ·obtain⟨a,l⟩:=getElem?_of_lt J;have F:=bW A l;obtain⟨y,z⟩:=T0 (s:=s) l;have c:=Xk (m:=m) (s:=s) (i:=i+1) (j:=i) (by omega) (by omega);rw[<- y]at c;have x:a*2^s<=4294967295*2147483648:=aaU (by omega) K.1;have D:=yz (a:=a) (s:=s) (by omega) (by omega);have u:=BL (y5 m s i) (a*2^s) (by omega) (by omega);rw[vq a (y5 m s i) s o]at u;have h:IntKind.u32.wrap ((a*2^s+y5 m s i:Nat):Int)=((natV m*2^s/4294967296^i%4294967296:Nat):Int):=by rw[Cp,abX,c]
  have v:Int.fdiv ((a*2^s+y5 m s i:Nat):Int) (2^(min 32 IntKind.u64.bits))=((y5 m s (i+1):Nat):Int):=by rw[MK,abX,z]
  have q:m.length+1-i=(m.length-i)+1:=by omega
  have f:=tI (bO i (natV m*2^s)) (m.length-i);have b:=qk (bO i (natV m*2^s)) (m.length-i) (natV m*2^s/4294967296^i%4294967296);rw[bS]at f b;rw[<- Aj]at b;rw[q];obtain⟨t,n⟩: ∃t,t=y5 m s (i+1):=⟨_,rfl⟩;obtain⟨r,e⟩: ∃r,r=bO (i+1) (natV m*2^s):=⟨_,rfl⟩;rw[<- n]at v;rw[<- e]at b;clear y z c;generalize y5 m s i=C at*
  generalize natV m*2^s/4294967296^i%4294967296=dg at*
  generalize bO i (natV m*2^s)=B at*
  generalize H:a*2^s=M at*
  refine ar (k:=bi rfl (ai (am (aK l (k:=aK (aH D u) (k:=aK (aH h (aH f (aH @cU b))) (k:=nA v (k:=bL (k:=?_)))))))));refine⟨⟨i+1,by omega⟩,by grind,aj ⟨?_,trivial⟩ ?_⟩
  ·show _=[(⟨_,_,lc fU (bO (i+1) (natV m*2^s)++ae (m.length+1-(i+1)) 0)⟩:OObj)];rw[show m.length+1-(i+1)=m.length-i by omega,<- e];rfl
  simp_all[wk]
 have p:i=m.length:=by omega
 subst p;have w:y5 m s m.length=natV m*2^s/4294967296^m.length:=by simp_all[y5]
 have I:y5 m s m.length%4294967296=y5 m s m.length:=abP (by omega);have h:IntKind.u32.wrap ((y5 m s m.length:Nat):Int)=((natV m*2^s/4294967296^m.length%4294967296:Nat):Int):=by rw[Cp,w]
 have q:m.length+1-m.length=0+1:=by omega
 have f:=tI (bO m.length (natV m*2^s)) 0;have b:=qk (bO m.length (natV m*2^s)) 0 (natV m*2^s/4294967296^m.length%4294967296);rw[bS]at f b;rw[<- Aj,adp,abd]at b;rw[q];clear w I;generalize bO (m.length+1) (natV m*2^s)=R at*
 generalize bO m.length (natV m*2^s)=B at*
 generalize natV m*2^s/4294967296^m.length%4294967296=dg at*
 generalize y5 m s m.length=C at*
 refine ar (k:=bv rfl (aK (aH h (aH f (aH @cU b))) (k:=bz (k:=?_))));refine aW ⟨.inr rfl,_,bD.refl _,?_⟩;refine⟨.one (.sl 12 0 0 (m.length+1)),12,?_,rfl,?_,rfl⟩
 ·simp(disch:=omega) only[kd,results212]
 show _=[_];simp[renO,iH]
def LU (l:List Nat) (b i:Nat):List Nat:=l.take i++bO (l.length-i) (natV (l.drop i)/b)
theorem TQ (l:List Nat) (b:Nat) {i:Nat} (h:i<=l.length):(LU l b i).length=l.length:=by grind [LU,bS]
theorem uR (l:List Nat) (b:Nat) (K:Lmb l) (f:0<b) (p:b<4294967296) (I:0<l.length) (M:l.length<=536870912):
  tT prog 210 [.undef,.raw (.int .u32 (b:Int))] 0 0 l.length ⟨165,1,lc fU l⟩ ⟨165,1,lc fU (bO l.length (natV l/b))⟩ (.raw (.int .u32 ((natV l%b:Nat):Int))):=by
 refine wK func210 rfl (by kernel_rfl) (by simp) I (by simp[lc]) (ez _ _) rfl (by simp[lc,bS]) (ez _ _) rfl ?_;rw[ntmps210];refine Nk (k:=eF (k:=?_));have N:(l.length:Int)-1=(l.length:Int)-1:=rfl;refine bT (eF (k:=?_));refine jq (G:=jo l.length) (fun g=>⟨(.one (.sl 0 0 0 l.length)::.raw (.int .u32 (b:Int))::jk::jk::jk::.raw (.int .u64 ((natV (l.drop g.i)%b:Nat):Int))::.raw (.int .i64 ((g.i:Int)-1))::j16 (j4 (j4 (j4 (jk::[]))))),Hm [(0,[⟨165,1,lc fU (LU l b g.i)⟩])]⟩) (fun g=>g.i) ⟨l.length,by omega⟩ ?_ ?_
 ·refine aj ⟨?_,trivial⟩ ?_
  ·simp[LU,bO,famH]
  simp[wk,natV]
 rintro⟨i,H⟩;simp only;by_cases O:0<i
 ·obtain⟨j,rfl⟩: ∃j,i=j+1:=⟨i-1,by omega⟩;obtain⟨a,y⟩:=getElem?_of_lt (l:=l) (k:=j) (by omega);have o:=bW K y;have E:((j+1:Nat):Int)-1=(j:Int):=by omega
  obtain⟨v,L⟩:=TR (b:=b) rfl (show j<l.length by omega) y o f;have z:=TQ l b H;have c:(LU l b (j+1))[j]?=some a:=by
   grind [LU]
  change (LU l b (j+1)).set j _=LU l b j at v
  have J:=aaQ (natV (l.drop (j+1))) f;generalize natV (l.drop (j+1))%b=r at*
  obtain⟨m,u⟩: ∃m,m=natV (l.drop j)%b:=⟨_,rfl⟩;rw[<- u]at L;have q:((natV (l.drop j):Nat):Int)%(b:Int)=(m:Int):=by omega
  have A:=yz (a:=r) (s:=32) (by omega) (by omega);have x:=BL (r*2^32) a (by omega) (by omega);rw[qa r a 32 (by omega),show r*2^32+a=r*4294967296+a from rfl]at x;have B:Int.tdiv ((r*4294967296+a:Nat):Int) (b:Int)=(((r*4294967296+a)/b:Nat):Int):=(Int.ofNat_tdiv _ _).symm;have C:Int.tmod ((r*4294967296+a:Nat):Int) (b:Int)=(m:Int):=by grind
  have P:(r*4294967296+a)/b<4294967296:=by
   rw[abH f];omega
  generalize(r*4294967296+a)/b=h at*
  have D:IntKind.u64.wrap (h:Int)=(h:Int):=by rw[abb];omega
  have n:IntKind.u32.wrap (h:Int)=(h:Int):=by rw[ab9];omega
  generalize LU l b (j+1)=S at*
  obtain⟨w,e⟩: ∃w,w=LU l b j:=⟨_,rfl⟩;rw[<- e]at v;refine bT (dp E (k:=iA rfl (dM (bT (fq (dp (aH A (aH c x)) (k:=dp (aH B (aH D (aH n (aH c (aH @cU v))))) (k:=tX C (k:=Kw (k:=?_))))))))));refine⟨⟨j,by omega⟩,by simp,aj ⟨?_,trivial⟩ ?_⟩
  ·show _=[(⟨_,_,lc fU (LU l b j)⟩:OObj)];rw[<- e];rfl
  simp_all[wk]
 have t:i=0:=by omega
 subst t;have J:natV l%b<4294967296:=Nat.lt_trans (aaQ _ f) p;have F:LU l b 0=bO l.length (natV l/b):=by simp[LU]
 rw[F,abL];generalize natV l%b=r at*
 generalize bO l.length (natV l/b)=S at*
 have n:IntKind.u32.wrap (r:Int)=(r:Int):=by rw[ab9];omega
 refine bT (eF (k:=iz rfl (kq (dp n (k:=?_)))));refine iB ⟨.inr rfl,_,bD.refl _,rfl,eh _,?_⟩;simp(disch:=omega) only[kd,results210]
def Fd (l:List Nat) (s i:Nat):List Nat:=(bO l.length (natV l/2^s)).take i++l.drop i
theorem T3 (l:List Nat) (s:Nat) {i:Nat} (h:i<=l.length):(Fd l s i).length=l.length:=by grind [Fd,bS]
theorem JS {s i a:Nat} (b:i<=n) (h:f[n]?=some a):(Fd f s i)[n]?=some a:=by
 grind [Fd,bS]
theorem yP (l:List Nat) (s:Nat) (j:Lmb l) (K:s<32) (H:0<l.length) (J:l.length<=536870912):
  tT prog 214 [.undef,.raw (.int .i64 (s:Int))] 0 0 l.length ⟨165,1,lc fU l⟩ ⟨165,1,lc fU (bO l.length (natV l/2^s))⟩ (.tup []):=by
 refine wK func214 rfl (by kernel_rfl) (by simp) H (by simp[lc]) (ez _ _) rfl (by simp[lc,bS]) (ez _ _) rfl ?_;rw[ntmps214];refine Nk (k:=?_);refine jq (G:=jo l.length) (fun g=>⟨(.one (.sl 0 0 0 l.length)::rN s::j4 (jk::rN l.length::rN g.i::j16 (j4 (j4 (j4 (jk::[])))))),Hm [(0,[⟨165,1,lc fU (Fd l s g.i)⟩])]⟩) (fun g=>l.length-g.i) ⟨0,by omega⟩ ?_ ?_
 ·refine aj ⟨?_,trivial⟩ ?_
  ·rfl
  simp[wk]
 rintro⟨i,F⟩;simp only;have z:=T3 l s F;by_cases r:i<l.length
 ·obtain⟨a,x⟩:=getElem?_of_lt r;have C:=bW j x;have e:=JS (s:=s) (aaq i) x;have E:l.getD i 0=a:=by grind
  have o:(i:Int)+1=((i+1:Nat):Int):=by omega
  obtain⟨u,f⟩: ∃u,u=Fd l s (i+1):=⟨_,rfl⟩;by_cases t:i+1<l.length
  ·obtain⟨b,y⟩:=getElem?_of_lt t;have D:=bW j y;have h:=JS (s:=s) (show i<=i+1 by omega) y;have p:l.getD (i+1) 0=b:=by grind
   have c:=JT (v:=(b*4294967296+a)/2^s%4294967296) j (show s<=32 by omega) rfl r (by grind)
   change (Fd l s i).set i _=Fd l s (i+1)at c
   rw[<- f]at c;have A:=yz (a:=b) (s:=32) (by omega) (by omega);have w:=BL a (b*2^32) (by omega) (by omega);rw[vq b a 32 (by omega),show b*2^32+a=b*4294967296+a from rfl]at w;have m:=Ig (a:=b*4294967296+a) (s:=s) (by omega);have n:=Cp ((b*4294967296+a)/2^s);generalize(b*4294967296+a)/2^s=I at*
   generalize Fd l s i=S at*
   refine eF (k:=wm rfl (bT (fq (eF (k:=dp e (k:=bT (dp o (k:=iA rfl (tX (aH o (aH h (aH A w))) (k:=tX (aH m (aH n (aH e (aH @cU c)))) (k:=Kw (k:=?_))))))))))));refine⟨⟨i+1,by omega⟩,by grind,aj ⟨?_,trivial⟩ ?_⟩
   ·show _=[(⟨_,_,lc fU (Fd l s (i+1))⟩:OObj)];rw[<- f];rfl
   simp[wk]
  have p:l.getD (i+1) 0=0:=by grind
  have c:=JT (v:=a/2^s%4294967296) j (show s<=32 by omega) rfl r (by grind)
  change (Fd l s i).set i _=Fd l s (i+1)at c
  rw[<- f]at c;have m:=Ig (a:=a) (s:=s) (by omega);have n:=Cp (a/2^s);generalize a/2^s=I at*
  generalize Fd l s i=S at*
  refine eF (k:=wm rfl (bT (fq (eF (k:=dp e (k:=bT (dp o (k:=iz rfl (dM (tX (aH m (aH n (aH e (aH @cU c)))) (k:=Kw (k:=?_))))))))))));refine⟨⟨i+1,by omega⟩,by grind,aj ⟨?_,trivial⟩ ?_⟩
  ·show _=[(⟨_,_,lc fU (Fd l s (i+1))⟩:OObj)];rw[<- f];rfl
  simp[wk]
 have q:i=l.length:=by omega
 subst q;have B:Fd l s l.length=bO l.length (natV l/2^s):=by
  grind [Fd,bS]
 rw[B];generalize bO l.length (natV l/2^s)=S at*
 refine eF (k:=wl rfl ?_);refine⟨.inl rfl,_,bD.refl _,rfl,eh _,?_⟩;simp(disch:=omega) only[kd,results214]
end Go.Proofs.YtalmoejhjceflaaGreat
