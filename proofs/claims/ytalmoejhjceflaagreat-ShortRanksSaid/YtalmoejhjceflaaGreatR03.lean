/-
  Part 4 of a proof (walks and plain facts).
-/
import Derived.Test.YtalmoejhjceflaaGreatR02
import Derived.Laws.AppendOwn
import Derived.Maps.AppendAt
import Derived.Deep.OwnRows
import Derived.Orders
import Derived.ChangeKeysEq
import Derived.Laws.StructEq
set_option linter.all false
set_option maxRecDepth 100000
set_option maxHeartbeats 64000000
namespace Go.Proofs.YtalmoejhjceflaaGreat
open Go.RowKit
variable {n m:Nat} {b c:Nat->Prop} {e f:FF} {g:Nat->Nat} {w W:World} {o:Value}
def Hl:Nat->Nat
 |0=>0
 |k+1=>Hl k+(k+1)
theorem ef {a C:Nat} (h:n^a<=C) (f:C<(m+1)^a):n<=m:=by
 rcases acQ m n with e|c
 ·have:=aaF (show m+1<=n by omega) a;omega
 exact c
theorem Wc (h: ∀k,1<=k->k<2->g k^(k+1)<=2^Hl k*g (k+1)^k) (b:g 2<=10000): ∀k,1<=k->k<=2->g k<65536:=by
 have c:g 1<=141:=ef (a:=2) (aap (h 1 (by omega) (by omega)) (aas _ (aaF b 1))) (by decide+kernel);grind
theorem Wd (h: ∀k,1<=k->k<3->g k^(k+1)<=2^Hl k*g (k+1)^k) (j:g 3<=10000): ∀k,1<=k->k<=3->g k<65536:=by
 have f:g 2<=928:=ef (a:=3) (aap (h 2 (by omega) (by omega)) (aas _ (aaF j 2))) (by decide+kernel);have l:g 1<=43:=ef (a:=2) (aap (h 1 (by omega) (by omega)) (aas _ (aaF f 1))) (by decide+kernel);intro k c b
 match k,c,b with
 |1,_,_=>omega
 |2,_,_=>omega
 |3,_,_=>omega
 |k+4,_,b=>omega
theorem We (h: ∀k,1<=k->k<4->g k^(k+1)<=2^Hl k*g (k+1)^k) (l:g 4<=10000): ∀k,1<=k->k<=4->g k<65536:=by
 have j:g 3<=2828:=ef (a:=4) (aap (h 3 (by omega) (by omega)) (aas _ (aaF l 3))) (by decide+kernel);have f:g 2<=399:=ef (a:=3) (aap (h 2 (by omega) (by omega)) (aas _ (aaF j 2))) (by decide+kernel);have m:g 1<=28:=ef (a:=2) (aap (h 1 (by omega) (by omega)) (aas _ (aaF f 1))) (by decide+kernel);intro k c b
 match k,c,b with
 |1,_,_=>omega
 |2,_,_=>omega
 |3,_,_=>omega
 |4,_,_=>omega
 |k+5,_,b=>omega
theorem Wf (h: ∀k,1<=k->k<5->g k^(k+1)<=2^Hl k*g (k+1)^k) (m:g 5<=10000): ∀k,1<=k->k<=5->g k<65536:=by
 have l:g 4<=6339:=ef (a:=5) (aap (h 4 (by omega) (by omega)) (aas _ (aaF m 4))) (by decide+kernel);have j:g 3<=2009:=ef (a:=4) (aap (h 3 (by omega) (by omega)) (aas _ (aaF l 3))) (by decide+kernel);have f:g 2<=318:=ef (a:=3) (aap (h 2 (by omega) (by omega)) (aas _ (aaF j 2))) (by decide+kernel);have n:g 1<=25:=ef (a:=2) (aap (h 1 (by omega) (by omega)) (aas _ (aaF f 1))) (by decide+kernel);intro k c b
 match k,c,b with
 |1,_,_=>omega
 |2,_,_=>omega
 |3,_,_=>omega
 |4,_,_=>omega
 |5,_,_=>omega
 |k+6,_,b=>omega
theorem Wg (h: ∀k,1<=k->k<6->g k^(k+1)<=2^Hl k*g (k+1)^k) (n:g 6<=10000): ∀k,1<=k->k<=6->g k<65536:=by
 have m:g 5<=12187:=ef (a:=6) (aap (h 5 (by omega) (by omega)) (aas _ (aaF n 5))) (by decide+kernel);have l:g 4<=7426:=ef (a:=5) (aap (h 4 (by omega) (by omega)) (aas _ (aaF m 4))) (by decide+kernel);have j:g 3<=2262:=ef (a:=4) (aap (h 3 (by omega) (by omega)) (aas _ (aaF l 3))) (by decide+kernel);have f:g 2<=344:=ef (a:=3) (aap (h 2 (by omega) (by omega)) (aas _ (aaF j 2))) (by decide+kernel);have o:g 1<=26:=ef (a:=2) (aap (h 1 (by omega) (by omega)) (aas _ (aaF f 1))) (by decide+kernel);intro k c b
 match k,c,b with
 |1,_,_=>omega
 |2,_,_=>omega
 |3,_,_=>omega
 |4,_,_=>omega
 |5,_,_=>omega
 |6,_,_=>omega
 |k+7,_,b=>omega
theorem Wh (h: ∀k,1<=k->k<7->g k^(k+1)<=2^Hl k*g (k+1)^k) (o:g 7<=10000): ∀k,1<=k->k<=7->g k<65536:=by
 have n:g 6<=21461:=ef (a:=7) (aap (h 6 (by omega) (by omega)) (aas _ (aaF o 6))) (by decide+kernel);have m:g 5<=23029:=ef (a:=6) (aap (h 5 (by omega) (by omega)) (aas _ (aaF n 5))) (by decide+kernel);have l:g 4<=12356:=ef (a:=5) (aap (h 4 (by omega) (by omega)) (aas _ (aaF m 4))) (by decide+kernel);have j:g 3<=3314:=ef (a:=4) (aap (h 3 (by omega) (by omega)) (aas _ (aaF l 3))) (by decide+kernel);have f:g 2<=444:=ef (a:=3) (aap (h 2 (by omega) (by omega)) (aas _ (aaF j 2))) (by decide+kernel);have p:g 1<=29:=ef (a:=2) (aap (h 1 (by omega) (by omega)) (aas _ (aaF f 1))) (by decide+kernel);intro k c b
 match k,c,b with
 |1,_,_=>omega
 |2,_,_=>omega
 |3,_,_=>omega
 |4,_,_=>omega
 |5,_,_=>omega
 |6,_,_=>omega
 |7,_,_=>omega
 |k+8,_,b=>omega
theorem Wi (h: ∀k,1<=k->k<8->g k^(k+1)<=2^Hl k*g (k+1)^k) (p:g 8<=10000): ∀k,1<=k->k<=8->g k<65536:=by
 have o:g 7<=35777:=ef (a:=8) (aap (h 7 (by omega) (by omega)) (aas _ (aaF p 7))) (by decide+kernel);have n:g 6<=63999:=ef (a:=7) (aap (h 6 (by omega) (by omega)) (aas _ (aaF o 6))) (by decide+kernel);have m:g 5<=57242:=ef (a:=6) (aap (h 5 (by omega) (by omega)) (aas _ (aaF n 5))) (by decide+kernel);have l:g 4<=25599:=ef (a:=5) (aap (h 4 (by omega) (by omega)) (aas _ (aaF m 4))) (by decide+kernel);have j:g 3<=5724:=ef (a:=4) (aap (h 3 (by omega) (by omega)) (aas _ (aaF l 3))) (by decide+kernel);have f:g 2<=639:=ef (a:=3) (aap (h 2 (by omega) (by omega)) (aas _ (aaF j 2))) (by decide+kernel);have q:g 1<=35:=ef (a:=2) (aap (h 1 (by omega) (by omega)) (aas _ (aaF f 1))) (by decide+kernel);intro k c b
 match k,c,b with
 |1,_,_=>omega
 |2,_,_=>omega
 |3,_,_=>omega
 |4,_,_=>omega
 |5,_,_=>omega
 |6,_,_=>omega
 |7,_,_=>omega
 |8,_,_=>omega
 |k+9,_,b=>omega
theorem UY {e:Nat->Nat} {n:Nat} (b:e 0=1) (g: ∀k,k<=n->0<e k) (h: ∀k,k+1<n->e (k+1)*e (k+1)<=2*(e k*e (k+2))):
  ∀k,k<n->e k^(k+1)<=2^Hl k*e (k+1)^k
 |0,_=>by simp[b,Hl]
 |k+1,p=>by
  have o:=UY b g h k (by omega);have c:=aaF (h k (by omega)) (k+1);have j:(e (k+1)*e (k+1))^(k+1)=e (k+1)^k*e (k+1)^(k+1+1):=by
   grind [Nat.mul_pow]
  have l:(2*(e k*e (k+2)))^(k+1)=2^(k+1)*(e k^(k+1)*e (k+2)^(k+1)):=by grind [Nat.mul_pow]
  rw[j,l]at c;have f:2^(k+1)*(e k^(k+1)*e (k+2)^(k+1))<=2^(k+1)*((2^Hl k*e (k+1)^k)*e (k+2)^(k+1)):=aas _ (aav _ o);have m:2^(k+1)*((2^Hl k*e (k+1)^k)*e (k+2)^(k+1))=e (k+1)^k*(2^Hl (k+1)*e (k+1+1)^(k+1)):=by
   grind [Hl]
  rw[m]at f;exact adr (aap c f) (abh (g (k+1) (by omega)))
theorem KD {n:Nat} (f:1<=n) (c:n<=8) (h: ∀k,1<=k->k<n->g k^(k+1)<=2^Hl k*g (k+1)^k) (b:g n<=10000): ∀k,1<=k->k<=n->g k<65536:=by
 match n,f,c with
 |1,_,_=>grind
 |2,_,_=>exact Wc h b
 |3,_,_=>exact Wd h b
 |4,_,_=>exact We h b
 |5,_,_=>exact Wf h b
 |6,_,_=>exact Wg h b
 |7,_,_=>exact Wh h b
 |8,_,_=>exact Wi h b
 |n+9,_,c=>omega
theorem lE (c:1<=n) (j:n<=8) (h:RedR f n): ∀k,k<n->dk f (k+1)<65536:=by
 obtain⟨_,q,s,o⟩:=h;have g: ∀k,k<=n->0<dk f k:=fun k b=>iA (fun t u=>q t (by omega))
 intro k b;have l:=UY (e:=fun k=>(dk f k).toNat) (n:=n) (by rfl) (fun k b=>by grind) (fun k b=>?_)
 ·have:=KD c j (fun k _ b=>l k b) (by omega) (k+1) (by omega) (by omega);omega
 obtain⟨r,p⟩:=o k b;have c:=r (k+1) (by omega) (by omega);have m:=mC c c (by omega) (by omega);grind [Rs]
theorem T6 {C D E x a b y:Int} (u:0<=C) (v:0<D) (w:0<E) (p:E<65536) (h:D*y=E*x-a*b) (g: -(C*E)<=y/\y<=C*E) (s: -E<=2*a/\2*a<=E) (t: -E<=2*b/\2*b<=E):
  -((C+16384)*D)<=x/\x<=(C+16384)*D:=by
 have e:=mC s t (by omega) (by omega);have j:2*a*(2*b)=4*(a*b):=by grind
 rw[j]at e;have r:E*E<=65536*E:=abi (by omega) (by omega);have q:E*1<=E*D:=aaH (by omega) (by omega);have n:D*y<=D*(C*E):=aaH g.2 (by omega);have o:D*(-(C*E))<=D*y:=aaH g.1 (by omega);have l:D*(-(C*E))= -(C*(E*D)):=by grind
 have m:D*(C*E)=C*(E*D):=by grind
 rw[m]at n;rw[l]at o;constructor
 ·rcases acp x (-((C+16384)*D))with f|c
  ·exfalso;have:=aaH (show x<= -((C+16384)*D)-1 by omega) (show 0<=E by omega);grind
  exact c
 rcases acp ((C+16384)*D) x with f|c
 ·exfalso;have:=aaH (show(C+16384)*D+1<=x by omega) (show 0<=E by omega);grind
 exact c
theorem C9 {R:FF} {n:Nat} (r: ∀i,i<n-> ∀j,j<n->R i j=R j i) (g: ∀k,k<n->0<dk R (k+1)) (c: ∀k,k<n->dk R (k+1)<65536) (h: ∀t,t+1<n->Iq R n t)
  {i:Nat} (l:i<n): ∀m j k:Nat,j=k+m->j<=i-> -((65535+(m:Int)*16384)*dk R k)<=bk R k i j/\bk R k i j<=(65535+(m:Int)*16384)*dk R k
 |0,j,k,b,q=>by
  have b:j=k:=by omega
  subst b;have p:0<dk R j:=iA (fun t s=>g t (by omega));have y:=g j (by omega);have v:=c j (by omega);have w: -(dk R (j+1))<=bk R j i j/\bk R j i j<=dk R (j+1):=by
   by_cases e:i=j
   ·grind [cd]
   have:=h j (by omega) i l (by omega);omega
  omega
 |m+1,j,k,b,q=>by
  have x:=C9 r g c h l m j (k+1) (by omega) q;have f: ∀t,t<k->dk R (t+1)≠0:=fun t s=>by grind
  have p:0<dk R k:=iA (fun t s=>g t (by omega));have u:=h k (by omega) i l (by omega);have o:=h k (by omega) j (by omega) (by omega);rw[jo r k (by omega) f j k (by omega) (by omega)]at o;have:=T6 (C:=65535+m*16384) (by omega) p (g k (by omega)) (c k (by omega)) (sylv R k f i j) x u o;grind
theorem sH (c:1<=n) (f:n<=8) (h:RedR e n): ∀i,i<n-> ∀j,j<n-> -262144<e i j/\e i j<262144:=by
 have b:=lE c f h;obtain⟨p,o,r,m⟩:=h;have key: ∀i,i<n-> ∀j,j<=i-> -262144<e i j/\e i j<262144:=by
  intro i g j l;have:=C9 p o b (fun t q=>(m t q).1) g j j 0 (by omega) l;grind [dc,cu]
 grind
def VI (b:List (List Int)):Prop:=1<=b.length/\b.length<=8/\Sq b/\RedR (ent b) b.length
theorem j7 (b:List (List Int)):isReducedM b=true↔VI b:=by
 have r:Zl (ent b) b.length 0 b:=⟨by omega,fun i j _ _=>by rw[dc];simp⟩;unfold isReducedM;rw[aaO,decide_eq_true_iff];constructor
 ·rintro⟨⟨n,c,l,q⟩,o⟩;have p: ∀i,i<b.length-> ∀j,j<b.length->ent b i j=ent b j i:=fun i f j g=>(q i f j g).1
  have:=(xt c p (fun i f j g=>by have:=(q i f j g).2;omega) b.length 0 b (by omega) (by omega) (fun t m=>by omega) r).1 o;refine⟨n,c,l,p,fun k y=>?_,this.2.2,fun t m=>?_⟩
  ·by_cases e:k+1=b.length
   ·grind
   exact(this.1 k (by omega) (by omega)).1.1
  have h:=this.1 t (by omega) m;exact⟨h.1.2.2,h.2⟩
 rintro⟨n,c,l,o⟩;have u:=sH n c o;have s:=lE n c o;obtain⟨p,w,x,v⟩:=o;refine⟨⟨n,c,l,fun i f j g=>⟨p i f j g,u i f j g⟩⟩,?_⟩;refine(xt c p (fun i f j g=>by grind) b.length 0 b (by omega) (by omega) (fun t m=>by omega) r).2 ⟨fun t _ m=>?_,?_,x⟩
 ·exact⟨⟨w t (by omega),s t (by omega),(v t m).1⟩,(v t m).2⟩
 have:=w (b.length-1) (by omega);grind
def aN (m:Nat) (g:Nat->Int):List Int:=(List.range m).map g
def mat (n m:Nat) (f:FF):List (List Int):=(List.range n).map fun i=>aN m (f i)
theorem aI (m:Nat) (g:Nat->Int):(aN m g).length=m:=by simp[aN]
theorem aT (n m:Nat) (f:FF):(mat n m f).length=n:=by simp[mat]
theorem aw {m j:Nat} (g:Nat->Int) (h:j<m):(aN m g)[j]?=some (g j):=by simp[aN,h]
theorem bF {n i:Nat} (m:Nat) (f:FF) (h:i<n):(mat n m f)[i]?=some (aN m (f i)):=by simp[mat,h]
theorem dm {m:Nat} {g g':Nat->Int} (h: ∀j,j<m->g j=g' j):aN m g=aN m g':=aaN fun j b=>h j (aa9.1 b)
theorem gQ (h: ∀i j,i<n->j<m->e i j=f i j):mat n m e=mat n m f:=
 aaN fun i b=>dm fun j c=>h i j (aa9.1 b) c
theorem kj (g:Nat->Int) (v:Int):(aN n g).set m v=aN n (fun c=>if c=m then v else g c):=by
 apply aaC;grind [aN]
theorem Jd {i:Nat} (f:FF) (g:Nat->Int):(mat n m f).set i (aN m g)=mat n m (fun r=>if r=i then g else f r):=by
 apply aaC;grind [mat]
theorem P2 (l:List Int):l=aN l.length fun j=>l.getD j 0:=by
 apply aaC;grind [aw,aI]
theorem Jc {M:List (List Int)} (h: ∀r∈M,r.length=n):M=mat M.length n (ent M):=by
 apply aaC;intro c;by_cases b:c<M.length
 ·rw[bF _ _ b,aay b];grind [P2,List.getElem_mem,dm,ent]
 grind [aT]
theorem SM {i j:Nat} (f:FF) (b:i<n) (c:j<m):ent (mat n m f) i j=f i j:=by
 simp_all[ent,bF,aw]
def piv (f:FF) (n k p:Nat):Nat:=if p<n then(if f p k=0 then piv f n k (p+1)else p)else n
termination_by n-p
def swp (p k:Nat) (f:FF):Nat->Nat->Int:=fun i=>if i=p then f k else if i=k then f p else f i
def MJ (k:Nat) (last:Int) (f:FF):Nat->Nat->Int:=fun i j=>if k<i/\k<j then(f k k*f i j-f i k*f k j)/last else f i j
def X9 (n k:Nat) (f:FF):Nat->Nat->Int:=swp (piv f n k k) k f
def detG (n k:Nat) (f:FF) (last:Int) (neg:Bool):Int:=
 if k<n then(if piv f n k k=n then 0 else detG n (k+1) (MJ k last (X9 n k f)) (X9 n k f k k) (neg !=decide (k<piv f n k k)))
 else if neg then -last else last
termination_by n-k
def detF (n:Nat) (f:FF):Int:=detG n 0 f 1 false
theorem BC {k:Nat} (h:m<n) (b:e m k=0):piv e n k m=piv e n k (m+1):=by grind [piv]
theorem BB {k:Nat} (h:m<n) (b:e m k≠0):piv e n k m=m:=by grind [piv]
theorem uL {k:Nat} (h: ¬m<n):piv e n k m=n:=by grind [piv]
theorem x5 (k:Nat) (f:FF):swp k k f=f:=by
 grind [swp]
theorem IK {f:FF} {n:Nat} (c: ∀t,t+1<n->dk f (t+1)≠0): ∀m k g,n-k=m->k<=n->(∀i j,k<=i->i<n->k<=j->j<n->g i j=bk f k i j)->detG n k g (dk f k) false=dk f n
 |0,k,g,q,p,_=>by
  grind [detG]
 |m+1,k,g,q,p,s=>by
  have b:g k k=dk f (k+1):=by grind [cd]
  rw[detG,if_pos (show k<n by omega)];by_cases h:g k k=0
  ·grind [BC,uL]
  have e:piv g n k k=k:=BB (by omega) h;rw[e,if_neg (by omega),X9,e,x5,b];have r:dk f k≠0:=by
   cases k with
   |zero=>rw[cu];omega
   |succ k=>grind
  rw[show(false !=decide (k<k))=false by simp];refine IK c m (k+1) _ (by omega) (by omega) fun i j u l v o=>?_
  have w:=sylv f k (fun t x=>c t (by omega)) i j;show(if k<i/\k<j then _ else _)=_;grind [Int.mul_ediv_cancel_left]
theorem uC (b: ∀t,t+1<n->dk e (t+1)≠0):detF n e=dk e n:=
 IK b n 0 e rfl (by omega) fun i j _ _ _ _=>(dc e i j).symm
theorem wX {f g:FF}: ∀{k:Nat},(∀i,i<k->f i=g i)->om f k=om g k
 |0,_=>rfl
 |k+1,h=>by rw[om,om,h k (by omega),wX fun i b=>h i (by omega)]
theorem sK {r s:Nat->Int}: ∀(b:List Nat) {f g:List Nat->Int},(∀c∈b,r c=s c)->(∀l,(∀c∈l,c∈b)->f l=g l)->dK r f b=dK s g b
 |[],_,_,_,_=>rfl
 |c::b,f,g,h,j=>by
  rw[dK,dK,h c aa4,j b (fun c e=>aa0 _ e),sK b (fun c e=>h c (aa0 _ e)) (fun l n=>j (c::l) (fun d m=>by
   grind))]
theorem uJ {f g:FF}: ∀{k:Nat} {b:List Nat},(∀i,i<k-> ∀c∈b,f i c=g i c)->om f k b=om g k b
 |0,_,_=>rfl
 |k+1,b,h=>by
  show dK (f k) (om f k) b=dK (g k) (om g k) b;exact sK b (fun c e=>h k (by omega) c e) (fun l j=>uJ fun i m c e=>h i (by omega) c (j c e))
theorem ny {k:Nat} (h: ∀i j,i<k->j<k->e i j=f i j):dk e k=dk f k:=uJ fun i l c b=>h i c l (jp b)
theorem F7 {i:Nat} (h: ∀r c,r<n->c<=n->f r c=e r c) (m: ∀c,c<=n->f n c=e i c):dk f (n+1)=bk e n i n:=by
 rw[cd,bk,bk];refine sK _ (fun c b=>?_) (fun l o=>uJ fun r p c b=>?_)
 ·rcases aaR.1 b with rfl|b
  ·grind
  exact m c (by have:=jp b;omega)
 have:=o c b;rcases aaR.1 this with rfl|this
 ·grind
 exact h r c p (by have:=jp this;omega)
def qI (f:FF) (i j:Nat):Nat->Nat->Int:=fun r c=>if r<j then f r c else f i c
def lam (f:FF) (i j:Nat):Int:=detF (j+1) (qI f i j)
def dd (f:FF) (k:Nat):Int:=if k=0 then 1 else detF k f
def SymF (f:FF) (n:Nat):Prop:= ∀i,i<n-> ∀j,j<n->f i j=f j i
def CC (f:FF) (n:Nat):Prop:= ∀k,k<n->0<detF (k+1) f
def SizF (f:FF) (i j:Nat):Prop:=2*((lam f i j).natAbs:Int)<=dd f (j+1)
def LovF (f:FF) (i:Nat):Prop:=3*(dd f i*dd f i)<=4*(dd f (i-1)*dd f (i+1)+lam f i (i-1)*lam f i (i-1))
def VJ (f:FF) (n:Nat):Prop:= ∀i,i<n->(∀j,j<i->SizF f i j)/\(0<i->LovF f i)
theorem BD (h:CC e n): ∀k,k<n->0<dk e (k+1)/\detF (k+1) e=dk e (k+1):=by
 intro k
 induction k using Nat.strongRecOn with
 |ind k j=>
  intro c;have b:detF (k+1) e=dk e (k+1):=uC fun t g=>by grind
  exact⟨b▸h k c,b⟩
theorem qy (h: ∀k,k<n->0<dk e (k+1)): ∀k,k<n->detF (k+1) e=dk e (k+1):=fun k b=>
 uC fun t c=>by grind
theorem kE (h: ∀k,k<n->0<dk e (k+1)) {k:Nat} (b:k<=n):dd e k=dk e k:=by
 cases k with
 |zero=>rfl
 |succ k=>exact qy h k (by omega)
theorem pC (h: ∀k,k<n->0<dk e (k+1)) {i:Nat} (l:m<n):lam e i m=bk e m i m:=by
 have b: ∀t,t+1<m+1->dk (qI e i m) (t+1)=dk e (t+1):=fun t p=>ny fun r c o g=>by
  grind [qI]
 grind [lam,uC,F7,qI]
theorem uM (v:1<=n):(SymF e n/\CC e n/\detF n e<=10000/\VJ e n)↔RedR e n:=by
 constructor
 ·rintro⟨h,p,l,g⟩;have b: ∀k,k<n->0<dk e (k+1):=fun k q=>(BD p k q).1
  have c:detF n e=dk e n:=by
   have:=(BD p (n-1) (by omega)).2;grind
  refine⟨h,b,c▸l,fun t s=>⟨fun i m o=>?_,?_⟩⟩
  ·have:=(g i m).1 t o;grind [SizF,pC,kE]
  have:=(g (t+1) s).2 (by omega);rw[LovF,pC b (by omega),kE b (by omega),kE b (by omega),kE b (by omega)]at this;grind [Rs]
 rintro⟨h,b,l,g⟩;have c:detF n e=dk e n:=by
  have:=qy b (n-1) (by omega);grind
 refine⟨h,fun k q=>?_,c.symm▸l,fun i m=>⟨fun j r=>?_,fun u=>?_⟩⟩
 ·grind [qy]
 ·have:=(g j (by omega)).1 i m r;grind [SizF,pC,kE]
 have:=(g (i-1) (by omega)).2;rw[Rs,ac9,show i-1+1=i by omega]at this;rw[LovF,pC b (by omega),kE b (by omega),kE b (by omega),kE b (by omega)];exact this
section
def eQ (f:FF) (i j:Nat) (c:Int):Nat->Nat->Int:=fun a b=>f a b+(if a=i then c*f j b else 0)+(if b=i then c*f a j else 0)+(if a=i then(if b=i then c*c*f j j else 0)else 0)
def pX (m a:Nat):Nat:=if a=m then m+1 else if a=m+1 then m else a
def lj (f:FF) (m:Nat):Nat->Nat->Int:=fun a b=>f (pX m a) (pX m b)
theorem Xe {a:Nat} (h:a<n):pX n a=a:=by grind [pX]
theorem BW {a:Nat} (h:n+1<a):pX n a=a:=by grind [pX]
theorem JD (m:Nat):pX m m=m+1:=by simp[pX]
theorem BY (m:Nat):pX m (m+1)=m:=by simp[pX]
theorem pY {a:Nat} (b:n+1<m) (h:a<m):pX n a<m:=by grind [pX]
theorem IP {f:FF} {k:Nat} (h: ∀t,t<k->dk f (t+1)≠0):dk f k≠0:=by
 cases k with
 |zero=>rw[cu];omega
 |succ k=>grind
theorem vJ {i a:Nat} {c:Int} (f:a≠i) (h:m≠i):eQ e i n c a m=e a m:=by
 grind [eQ]
theorem Nw {f:FF} {i j:Nat} {c:Int} (o:j<i): ∀k,k<=j+1->(∀t,t<k->dk f (t+1)≠0)->(∀l,l<=k->dk (eQ f i j c) l=dk f l)/\ ∀a b,bk (eQ f i j c) k a b=eQ (bk f k) i j c a b
 |0,_,_=>⟨fun l h=>by have:l=0:=(by omega);subst this;rfl,fun a b=>by grind [dc,eQ]⟩
 |k+1,x,e=>by
  obtain⟨u,m⟩:=Nw (c:=c) o k (by omega) (fun t g=>e t (by omega));have r:dk (eQ f i j c) (k+1)=dk f (k+1):=by grind [cd,vJ]
  have n: ∀t,t<k->dk (eQ f i j c) (t+1)≠0:=fun t g=>by grind
  refine⟨fun l h=>?_,fun a b=>?_⟩
  ·grind
  have q:=IP (f:=f) (k:=k) (fun t g=>e t (by omega));have s:=sylv (eQ f i j c) k n a b;rw[u k (by omega),r,m a b,m a k,m k b]at s;have y:=sylv f k (fun t g=>e t (by omega)) a b;have z:=sylv f k (fun t g=>e t (by omega)) j b;have A:=sylv f k (fun t g=>e t (by omega)) a j;have B:=sylv f k (fun t g=>e t (by omega)) j j;refine abE q ?_;rw[s];have p: ¬k=i:=by omega
  unfold eQ;by_cases v:a=i
  ·by_cases w:b=i
   ·simp only[v,w,p,if_true,if_false];grind
   grind
  grind
theorem Iz {f g:FF} {n k0:Nat} (j: ∀t,t<n->dk f (t+1)≠0) (l: ∀t,t<k0->dk g (t+1)≠0) (h:dk g k0=dk f k0) (e: ∀a b,a<n->b<n->bk g k0 a b=bk f k0 a b):
  ∀k,k0<=k->k<=n->(∀c,k0<=c->c<=k->dk g c=dk f c)/\ ∀a b,a<n->b<n->bk g k a b=bk f k a b:=by
 intro k
 induction k with
 |zero=>grind
 |succ k m=>
  grind [cd,IP,sylv,Int.eq_of_mul_eq_mul_left]
section
variable {f:FF} {n:Nat}
theorem AL (h:SymF f n) (g: ∀m,m<n->dk f (m+1)≠0) {k a:Nat} (e:k<=n) (b:m<k) (c:a<n):bk f k a m=0:=by
 rw[jo h k e (fun m b=>g m (by omega)) a m c (by omega),mg f b]
theorem j2 (z:SymF f n) (p: ∀t,t<n->dk f (t+1)≠0) {i:Nat} (c:Int) (l:m<i) (y:i<n):
  (∀k,k<=n->dk (eQ f i m c) k=dk f k)/\(∀k a b,k<=m->bk (eQ f i m c) k a b=eQ (bk f k) i m c a b)/\ ∀k a b,m<k->k<=n->a<n->b<n->bk (eQ f i m c) k a b=bk f k a b:=by
 have h:=Nw (f:=f) (c:=c) l;obtain⟨v,x⟩:=h (m+1) (aar _) (fun t s=>p t (by omega));have u: ∀a b,a<n->b<n->bk (eQ f i m c) (m+1) a b=bk f (m+1) a b:=fun a b q r=>by
  grind [eQ,mg,AL]
 have e:=Iz (f:=f) (g:=eQ f i m c) (n:=n) (k0:=m+1) p (fun t s=>by grind) (v (m+1) (by omega)) u;refine⟨fun k o=>?_,fun k a b o=>(h k (by omega) (fun t s=>p t (by omega))).2 a b,fun k a b w o q r=>(e k (by omega) o).2 a b q r⟩;grind
theorem AN {m:Nat}: ∀k,k<=m->(∀t,t<k->dk f (t+1)≠0)->(∀c,c<=k->dk (lj f m) c=dk f c)/\ ∀a b,bk (lj f m) k a b=bk f k (pX m a) (pX m b)
 |0,_,_=>⟨fun c h=>by have:c=0:=(by omega);subst this;rfl,fun a b=>by rfl⟩
 |k+1,r,e=>by
  obtain⟨p,q⟩:=AN (m:=m) k (by omega) (fun t g=>e t (by omega));have o:dk (lj f m) (k+1)=dk f (k+1):=by grind [cd,Xe]
  have j: ∀t,t<k->dk (lj f m) (t+1)≠0:=fun t g=>by grind
  refine⟨fun c h=>?_,fun a b=>?_⟩
  ·grind
  have l:=IP (f:=f) (k:=k) (fun t g=>e t (by omega));grind [sylv,pX,Int.eq_of_mul_eq_mul_left]
theorem x4 (p:SymF f n) (j: ∀t,t<n->0<dk f (t+1)) (o:m+1<n):
  dk f (m+1)*dk (lj f m) (m+1)=dk f m*dk f (m+2)+bk f m (m+1) m*bk f m (m+1) m/\0<dk (lj f m) (m+1):=by
 have b: ∀t,t<n->dk f (t+1)≠0:=fun t g=>by grind
 obtain⟨v,l⟩:=AN (f:=f) (m:=m) m (aar _) (fun t g=>b t (by omega));have e:dk (lj f m) (m+1)=bk f m (m+1) (m+1):=by rw[cd,l,JD]
 have s:=sylv f m (fun t g=>b t (by omega)) (m+1) (m+1);have c:=jo p m (by omega) (fun t g=>b t (by omega)) m (m+1) (by omega) (by omega);rw[c,<- cd f (m+1)]at s;have key:dk f (m+1)*dk (lj f m) (m+1)=dk f m*dk f (m+2)+bk f m (m+1) m*bk f m (m+1) m:=by grind
 refine⟨key,?_⟩;have r:=j m (by omega);have u:=j (m+1) o;have q:0<dk f m:=by
  cases m with
  |zero=>rw[cu];omega
  |succ m=>grind
 have w:0<dk f m*dk f (m+2):=ad0 q u;have x:0<=bk f m (m+1) m*bk f m (m+1) m:=by
  rcases abU 0 (bk f m (m+1) m)with h|h
  ·exact aaS h h
  exact aaU h h
 rcases acp 0 (dk (lj f m) (m+1))with h|h
 ·exact h
 exfalso;have:=acY (abT r) h;omega
theorem nZ (hs:SymF f n) (hp: ∀t,t<n->0<dk f (t+1)) (Z:m+1<n):
  (∀k,k<=n->k≠m+1->dk (lj f m) k=dk f k)/\(∀k a b,k<=m->bk (lj f m) k a b=bk f k (pX m a) (pX m b))/\ ∀k a b,m+1<k->k<=n->a<n->b<n->bk (lj f m) k a b=bk f k a b:=by
 have h: ∀t,t<n->dk f (t+1)≠0:=fun t w=>by grind
 have P:=AN (f:=f) (m:=m);obtain⟨h1,h2⟩:=P m (aar _) (fun t w=>h t (by omega));have a0:=(x4 hs hp Z).2;have O: ∀t,t<m+1->dk (lj f m) (t+1)≠0:=fun t w=>by
  grind
 have A:=IP (f:=f) (k:=m) (fun t w=>h t (by omega));have al:=h m (by omega);have aa:SymF (lj f m) n:=fun a v b B=>hs _ (pY Z v) _ (pY Z B)
 -- stage m + 2 for a, b behind m + 1
 have hz: ∀a b,m+1<a->m+1<b->bk (lj f m) (m+2) a b=bk f (m+2) a b:=fun a b v B=>by
  have F: ∀x y,dk f m*bk f (m+1) x y=dk f (m+1)*bk f m x y-bk f m x m*bk f m m y:=fun x y=>sylv f m (fun t w=>h t (by omega)) x y
  have G: ∀x y,dk f m*bk (lj f m) (m+1) x y=dk (lj f m) (m+1)*bk f m (pX m x) (pX m y)-bk f m (pX m x) (m+1)*bk f m (m+1) (pX m y):=fun x y=>by
   grind [sylv,JD]
  have V:=sylv f (m+1) (fun t w=>h t (by omega)) a b;have W:=sylv (lj f m) (m+1) O a b;rw[cd f (m+1)]at V;rw[cd (lj f m) (m+1)]at W;have f11:=F (m+1) (m+1);have L:=F a b;have K:=F a (m+1);have J:=F (m+1) b;have C:=G (m+1) (m+1);have H:=G a b;have E:=G a (m+1);have D:=G (m+1) b;rw[BY]at C;rw[BW v,BW B]at H;rw[BW v,BY]at E;rw[BW B,BY]at D;have ed:dk (lj f m) (m+1)=bk f m (m+1) (m+1):=by rw[cd,h2,JD]
  have X:dk f (m+1)=bk f m m m:=cd f m;rw[ed]at C H E D W;rw[X]at f11 L K J V;have ab:bk f m (m+1) (m+1)≠0:=by omega
  have ac:bk f m m m≠0:=by omega
  generalize bk (lj f m) (m+2) a b=z' at*
  generalize bk f (m+2) a b=z at*
  generalize bk (lj f m) (m+1) (m+1) (m+1)=Q at*
  generalize bk (lj f m) (m+1) a b=T at*
  generalize bk (lj f m) (m+1) a (m+1)=S at*
  generalize bk (lj f m) (m+1) (m+1) b=R at*
  generalize bk f (m+1) (m+1) (m+1)=ad at*
  generalize bk f (m+1) a b=ag at*
  generalize bk f (m+1) a (m+1)=af at*
  generalize bk f (m+1) (m+1) b=ae at*
  generalize bk f m (m+1) (m+1)=c at*
  generalize bk f m m m=e at*
  generalize bk f m (m+1) m=l at*
  generalize bk f m m (m+1)=s at*
  generalize bk f m a b=q at*
  generalize bk f m a m=r at*
  generalize bk f m m b=u at*
  generalize bk f m a (m+1)=o at*
  generalize bk f m (m+1) b=j at*
  generalize dk f m=p at*
  have k1:p*p*(e*z)=e*(e*c*q-c*r*u-l*s*q+r*s*j+o*l*u-e*o*j):=by
   have:p*p*(e*z)=(p*ad)*(p*ag)-(p*af)*(p*ae):=by rw[V];grind
   rw[this,f11,L,K,J];grind
  have k2:p*p*(c*z')=c*(e*c*q-c*r*u-l*s*q+r*s*j+o*l*u-e*o*j):=by
   have:p*p*(c*z')=(p*Q)*(p*T)-(p*S)*(p*R):=by rw[W];grind
   rw[this,C,H,E,D];grind
  have k3:p*p*z=e*c*q-c*r*u-l*s*q+r*s*j+o*l*u-e*o*j:=
   abE ac (by grind [Int.mul_left_comm])
  have k4:p*p*z'=e*c*q-c*r*u-l*s*q+r*s*j+o*l*u-e*o*j:=
   abE ab (by grind [Int.mul_left_comm])
  exact abE (abN A A) (k4.trans k3.symm)
 have Y:dk (lj f m) (m+2)=dk f (m+2):=by
  have s1:=sylv f m (fun t w=>h t (by omega)) (m+1) (m+1);have s2:=sylv (lj f m) m (fun t w=>O t (by omega)) (m+1) (m+1);grind [cd,JD,BY,Int.eq_of_mul_eq_mul_left]
 have N: ∀t,t<m+2->dk (lj f m) (t+1)≠0:=fun t w=>by
  grind
 have h0: ∀a b,a<n->b<n->bk (lj f m) (m+2) a b=bk f (m+2) a b:=fun a b v B=>by
  by_cases ah:a<m+2
  ·grind [mg]
  by_cases M:b<m+2
  ·rw[AL hs h (by omega) M v,jo aa (m+2) (by omega) N a b v B,mg _ M]
  grind
 have I:=Iz (f:=f) (g:=lj f m) (n:=n) (k0:=m+2) h N Y h0;refine⟨fun k U ap=>?_,fun k a b U=>(P k U (fun t w=>h t (by omega))).2 a b,fun k a b av U v B=>(I k (by omega) U).2 a b v B⟩;grind
end
end
inductive PV where
 |raw (v:Value)
 |sl (xs:List (List PV))
 |ptr (cs:List PV)
variable {p:PV}
inductive AV where
 |p (x:PV)
 |sl (a r off len:Nat)
 |ptr (a r i j:Nat)
 |junk
 |fn (f:FuncId) (a:Nat) (qs:List (Nat×Nat×Nat))
inductive TV where
 |one (x:AV)
 |agg (cs:List AV)
 |tup (ts:List (Bool×List AV))
 |fn (f:FuncId) (cs:List AV)
structure OObj where
 ty:TypeId
 es:Nat
 elems:List (List AV)
abbrev OH:=Nat->List OObj
variable {l:OH}
structure AS where
 tmps:List TV
 H:OH
inductive bM (X:Nat->Prop) (w:World):PV->Value->Prop
 |raw (v:Value) (h:v.oneCell'=true):bM X w (.raw v) v
 |nil (a:Option Addr) (c:Nat):bM X w (.sl []) (.slice a 0 c)
 |sl (b off es cap:Nat) (xs:List (List PV)) (f:Nat->Nat->Value) (hX: ¬X b) (hb:b<w.heap.size) (hes: ∀e∈xs,e.length=es) (hcap:xs.length<=cap) (hm:xs.length<=9223372036854775807)
   (hc: ∀(i:Nat) e (j:Nat) x,xs[i]?=some e->e[j]?=some x->w.cell? ⟨b,off+i*es+j,none⟩=some (f i j))
   (hr: ∀(i:Nat) e (j:Nat) x,xs[i]?=some e->e[j]?=some x->bM X w x (f i j)):bM X w (.sl xs) (.slice (some ⟨b,off,none⟩) xs.length cap)
 |ptr (b off:Nat) (cs:List PV) (f:Nat->Value) (hX: ¬X b) (hb:b<w.heap.size)
   (hc: ∀(j:Nat) x,cs[j]?=some x->w.cell? ⟨b,off+j,none⟩=some (f j))
   (hr: ∀(j:Nat) x,cs[j]?=some x->bM X w x (f j)):bM X w (.ptr cs) (.pointer (some ⟨b,off,none⟩))
theorem bM.one (h:bM b w p o):o.oneCell'=true:=by
 cases h<;>first|assumption|rfl
def UQ (X:Nat->Prop) (w b:World):Prop:=w.heap.size<=b.heap.size/\ ∀p v,¬X p.block->w.cell? p=some v->b.cell? p=some v
theorem bM.stays (q:UQ b w W) (h:bM b w p o):bM b W p o:=by
 induction h with
 |raw o h=>exact .raw o h
 |nil a c=>exact .nil a c
 |sl g l A cap E f m s u n C t D y=>exact .sl g l A cap E f m (aaA s q.1) u n C (fun i e j p r B=>q.2 _ _ m (t i e j p r B)) y
 |ptr g l z f m s t D y=>exact .ptr g l z f m (aaA s q.1) (fun j p r=>q.2 _ _ m (t j p r)) y
theorem bM.weaken (t: ∀e,e<w.heap.size->c e->b e) (h:bM b w p o):bM c w p o:=by
 induction h with
 |raw o h=>exact .raw o h
 |nil a g=>exact .nil a g
 |sl e j y cap B f n l r m z q A s=>exact .sl e j y cap B f (fun h=>n (t _ l h)) l r m z q s
 |ptr e j u f n l q A s=>exact .ptr e j u f (fun h=>n (t _ l h)) l q s
abbrev Rho:=Nat->Nat->Option (Nat×Nat)
variable {h j:Rho}
def Xo (X:Nat->Prop) (e:Rho) (H:OH):Nat->Prop:=fun b=>X b\/ ∃(a r:Nat) (o:OObj) (c:Nat),(H a)[r]?=some o/\e a r=some (b,c)
def AV.rel (g:Rho) (H:OH) (X:Nat->Prop) (w:World):AV->Value->Prop
 | .p x,v=>bM X w x v
 | .sl a r e len,v=> ∃o,(H a)[r]?=some o/\e+len<=o.elems.length/\
   ((g a r=none/\v= .slice none 0 0/\len=0/\e=0)\/ ∃b c cap,g a r=some (b,c)/\v= .slice (some ⟨b,e*o.es,none⟩) len cap/\len<=cap/\(a<=4999->cap=c-e))
 | .ptr a r i j,v=> ∃o b c,(H a)[r]?=some o/\g a r=some (b,c)/\i<o.elems.length/\v= .pointer (some ⟨b,i*o.es+j,none⟩)
 | .junk,_=>True
 | .fn f a h,v=> ∃vs:Array Value,v= .func (.func f) #[] vs/\vs.size=h.length/\0<h.length/\ ∀(n:Nat) q,h[n]?=some q-> ∃u:Value,vs[n]?=some u/\
   ∃o b c,(H a)[q.1]?=some o/\g a q.1=some (b,c)/\q.2.1<o.elems.length/\u= .pointer (some ⟨b,q.2.1*o.es+q.2.2,none⟩)
def DY:AV->Bool
 | .fn ..=>false
 |_=>true
def oR (g:AV->AV):Prop:= ∀f a e,g (.fn f a e)= .junk\/ ∃h b,g (.fn f a e)= .fn f h b/\b.length=e.length/\ ∀(n:Nat) q,e[n]?=some q-> ∃c,b[n]?=some c/\g (.ptr a q.1 q.2.1 q.2.2)= .ptr h c.1 c.2.1 c.2.2
theorem j3 {c:AV->Prop} (E: ∀f a p r i o,c (.fn f a p)->c (.ptr a r i o)) {g:AV->AV} (F:oR g) {s:OH} {t:Nat->Prop} (m: ∀x v,DY x=true->c x->AV.rel h l b w x v->AV.rel j s t W (g x) v) (x:AV) (v:Value) (y:c x) (k:AV.rel h l b w x v):AV.rel j s t W (g x) v:=by
 cases x with
 |fn f a p=>
  rcases F f a p with e|⟨N,K,e,G,J⟩
  ·rw[e];trivial
  rw[e];obtain⟨vs,B,C,O,D⟩:=k;refine⟨vs,B,C.trans G.symm,by omega,fun n P z=>?_⟩;have I:=(aao.1 z).1;obtain⟨Q,q,A⟩:=J n p[n] (aay (by omega));rw[z]at q;injection q with q
  subst q;obtain⟨u,L,M⟩:=D n p[n] (aay (by omega));have:=m (.ptr a p[n].1 p[n].2.1 p[n].2.2) u rfl (E f a p _ _ _ y) M;rw[A]at this;exact⟨u,L,this⟩
 |_=>exact m _ v rfl y k
theorem gp {g:AV->AV} (n:oR g) {f:OH} {m:Nat->Prop} (e: ∀x v,DY x=true->AV.rel h l b w x v->AV.rel j f m W (g x) v) (x:AV) (v:Value) (k:AV.rel h l b w x v):AV.rel j f m W (g x) v:=
 j3 (c:=fun _=>True) (fun _ _ _ _ _ _ e=>e) n (fun x v o _ k=>e x v o k) x v trivial k
theorem qK:oR id:=fun f a c=> .inr ⟨a,c,rfl,rfl,fun n q b=>⟨q,b,rfl⟩⟩
theorem qr {f:OH} (e: ∀x v,DY x=true->AV.rel h l b w x v->AV.rel j f c W x v) (x:AV) (v:Value) (k:AV.rel h l b w x v):AV.rel j f c W x v:=gp qK e x v k
theorem tf {a a' r' len f:Nat} {ρ':Rho} (g:a<=4999) (e:(h a n=none/\o= .slice none 0 0/\len=0/\m=0)\/ ∃b c cap,h a n=some (b,c)/\o= .slice (some ⟨b,m*f,none⟩) len cap/\len<=cap/\(a<=4999->cap=c-m)) (j:ρ' a' r'=h a n):
  (ρ' a' r'=none/\o= .slice none 0 0/\len=0/\m=0)\/ ∃b c cap,ρ' a' r'=some (b,c)/\o= .slice (some ⟨b,m*f,none⟩) len cap/\len<=cap/\(a'<=4999->cap=c-m):=by
 grind
def bH (c:Rho) (H:OH) (X:Nat->Prop) (w:World) (b:List AV) (v:Value):Prop:=
 ∃vs:Array Value,v= .agg vs/\vs.size=b.length/\ ∀(j:Nat) x,b[j]?=some x-> ∃u:Value,vs[j]?=some u/\u.oneCell'=true/\x.rel c H X w u
def ZQ (f:FuncId):Value->Value
 | .agg vs=> .func (.func f) #[] vs
 |v=>v
def TV.rel (e:Rho) (H:OH) (X:Nat->Prop) (w:World):TV->Value->Prop
 | .one x,v=>x.rel e H X w v
 | .agg c,v=>bH e H X w c v
 | .tup g,v=> ∃vs:Array Value,v= .tuple vs/\vs.size=g.length/\ ∀(j:Nat) b c,g[j]?=some (b,c)-> ∃u:Value,vs[j]?=some u/\
   ((b=true/\bH e H X w c u)\/(b=false/\ ∃x,c=[x]/\x.rel e H X w u))
 | .fn f c,v=> ∃u,bH e H X w c u/\v=ZQ f u
def objRel (f:Rho) (H:OH) (X:Nat->Prop) (w:World) (a r:Nat) (o:OObj):Prop:=
 (∀e∈o.elems,e.length=o.es)/\0<o.es/\
 match f a r with
 |none=>o.elems=[]
 |some (b,c)=> ∃cells,w.heap[b]?=some (.cells cells o.ty (0,0))/\cells.size=c*o.es/\o.elems.length<=c/\c<=9223372036854775807/\
   ∀(i:Nat) e (j:Nat) x,o.elems[i]?=some e->e[j]?=some x-> ∃v:Value,cells[i*o.es+j]?=some v/\v.oneCell'=true/\x.rel f H X w v
structure Keep (O:Nat->Prop) (w0 w:World):Prop where
 os:w.os=w0.os
 tape:w.tape=w0.tape
 output:w.output=w0.output
 size:w0.heap.size<=w.heap.size
 block: ∀k,k<w0.heap.size-> ¬O k->w.heap[k]?=w0.heap[k]?
def bs (a:Nat):AV->Prop
 | .sl b _ _ _=>b=a
 | .ptr b _ _ _=>b=a
 | .fn _ b c=>b=a/\c≠[]
 |_=>True
def selfO (a:Nat) (o:OObj):Prop:= ∀e∈o.elems,∀x∈e,bs a x
structure Inv (w0:World) (O X:Nat->Prop) (H:OH) (ρ:Rho) (w:World):Prop where
 keep:Keep O w0 w
 objs: ∀(a r:Nat) (o:OObj),(H a)[r]?=some o->objRel ρ H (Xo X ρ H) w a r o
 inj: ∀(a r a' r':Nat) (o o':OObj) (b c c':Nat),(H a)[r]?=some o->(H a')[r']?=some o'->ρ a r=some (b,c)->ρ a' r'=some (b,c')->a=a'/\r=r'
 old: ∀(a r:Nat) (o:OObj) (b c:Nat),(H a)[r]?=some o->ρ a r=some (b,c)->(w0.heap.size<=b\/O b)/\ ¬X b
 bar: ∀b,X b->b<w.heap.size
 self: ∀(a r:Nat) (o:OObj),(H a)[r]?=some o->selfO a o
def dx (c:World) (O X:Nat->Prop) (s:AS) (a:Act) (w:World):Prop:=
 a.defers=[]/\a.tmps.size=s.tmps.length/\ ∃b,Inv c O X s.H b w/\
  ∀(t:Nat) x,s.tmps[t]?=some x-> ∃v:Value,a.tmps[t]?=some v/\x.rel b s.H (Xo X b s.H) w v
end Go.Proofs.YtalmoejhjceflaaGreat
