/-
  Part 27 of a proof (walks and plain facts).
-/
import Derived.Test.YtalmoejhjceflaaGreatV25
set_option linter.all false
set_option maxRecDepth 100000
set_option maxHeartbeats 64000000
open Nat renaming reduceAdd → aa
open List renaming replicate → af
namespace Go.Proofs.YtalmoejhjceflaaGreat
open Go.RowKit Go.Proofs.Tryz
variable {b:List Int} {n m:Nat} {x:Int} {c:Code} {e:Array Oper} {f:Nat->Int} {g:OObj} {h:FF}
section
variable {n:Nat}
theorem sO {F:Nat->Int} {k:Nat} (h: ∀i,i<k->F i=0): ∀m,smF F (k+m)=smF (fun a=>F (k+a)) m
 |0=>by
  rw[ago,au k (G:=fun _=>0) h,b7];rfl
 |m+1=>by rw[<- ahc,smF,smF,sO h m]
theorem mw {m:Nat} (g:Nat->Int) (y:List Int): ∀l,l<=m->gG (aA m g) y l=smF (fun b=>g b*y.getD b 0) l
 |0,_=>rfl
 |l+1,h=>by
  show gG (aA m g) y l+(aA m g).getD l 0*y.getD l 0=_;rw[mw g y l (by omega),aeM,aw _ (by omega)];rfl
theorem MN {k a:Nat} (c:b.length+(k+1)=n):aL n b (k+1+a)=b.getD a 0:=by
 grind [aL]
theorem JT {k i:Nat} (e:b.length+(k+1)=n) (c:i<k+1):aL n (0::b) i=0:=by
 grind [aL]
def fH (f:FF) (k:Nat):Nat->Nat->Int:=fun a b=>bk f k (k+a) (k+b)
theorem Mx (f:FF) {k:Nat} (g:b.length+(k+1)=n):gG (aA b.length fun j=>fH f k 0 (j+1)) b b.length=jU f n k (aL n b):=by
 rw[mw _ _ _ (aeJ _),jU,show n=k+1+b.length by omega,sO fun i e=>if_pos (by omega)];refine au _ fun a c=>?_
 rw[if_neg (by omega),MN (by omega)];show bk f k (k+0) (k+(a+1))*_=_;grind
def BK (g:FF) (y:List Int):Nat->Int
 |0=>0
 |i+1=>BK g y i+y.getD i 0*gG (aA y.length fun j=>g (i+1) (j+1)) y y.length
theorem V7 (g:FF) (y:List Int): ∀i,BK g y i=smF (fun a=>y.getD a 0*gG (aA y.length fun j=>g (a+1) (j+1)) y y.length) i
 |0=>rfl
 |i+1=>by rw[BK,smF,V7 g y i]
theorem acG (f:FF) {k:Nat} (g:b.length+(k+1)=n):BK (fH f k) b b.length=BF n (bk f k) (aL n (0::b)) (aL n (0::b)):=by
 have l: ∀a,aL n (0::b) (k+1+a)=b.getD a 0:=fun a=>by rw[ia g (by omega),MN g]
 have e: ∀i,smF (fun j=>bk f k i j*aL n (0::b) j) n=smF (fun c=>bk f k i (k+1+c)*b.getD c 0) b.length:=fun i=>by
  rw[show n=k+1+b.length by omega,sO fun j h=>by grind [JT]];grind
 rw[V7];unfold BF;rw[au n (G:=fun i=>aL n (0::b) i*smF (fun c=>bk f k i (k+1+c)*b.getD c 0) b.length) fun i _=>by rw[e]];rw[show n=k+1+b.length by omega,sO fun j h=>by grind [JT]];refine au _ fun a _=>?_
 rw[show k+1+b.length=n by omega,l,mw _ _ _ (aeJ _)]
 congr 1
 refine au _ fun c _=>?_
 show bk f k (k+(a+1)) (k+(c+1))*_=_;grind
theorem Of (c:PD h n) {k:Nat} (e:b.length+(k+1)=n) (B:Int):
  jU h n k (aL n b)*jU h n k (aL n b)-dk h (k+1)*(BK (fH h k) b b.length-B*dk h k)=gE h n B k (aL n b):=by
 have g: ∀i,k<i->i<n->aL n (0::b) i=aL n b i:=fun i j _=>ia e j
 rw[acG h e,<- zx (B:=B) c (show k<n by omega) g,<- zw g];have key:=kT c.1 c.2 (aL n (0::b)) (show k<n by omega);grind [xO,iV,gE]
def Yc:Nat->Nat
 |0=>0
 |m+1=>4*Yc m+67108864
theorem Uk (f:0<n) (h:x.natAbs<=n*m):(x/(n:Int)).natAbs<=m:=by
 have e:((n*m:Nat):Int)=(m:Int)*(n:Int):=by grind
 have b:x/(n:Int)<(m:Int)+1:=Int.ediv_lt_of_lt_mul (by omega) (by grind);have c: -(m:Int)<=x/(n:Int):=aim (by omega) (by grind);omega
theorem Zg (g:RedR h n) (W:n<=4) (Q:0<=x) (G:x<=262144) {k:Nat} (s:k<n) (C:fq h n x (k+1) f) (N: ∀j,k<j->j<n->(f j).natAbs<=m):
  (cu h n x k f).natAbs<=4*m+67108864/\(dy h n x k f).natAbs<=4*m+67108864:=by
 have o:=g.pd;have V:=g.2.1 k s;have I:=fW (by omega) (by omega) g k s;have U:0<dk h k/\dk h k<65536:=by
  cases k with
  |zero=>rw[b8];omega
  |succ k=>exact⟨g.2.1 k (by omega),fW (by omega) (by omega) g k (by omega)⟩
 have K:=(jQ o.1 o.2 f (n-(k+1)) (k+1) (by omega)).1;have p:=oZ o s C;have A:gE h n x k f<=1125899906842624:=by
  unfold gE;generalize BF n (bk h (k+1)) f f=q at*
  generalize dk h (k+1)=d at*
  generalize dk h k=c at*
  have R:x*d<=262144*65536:=ae0 G (by omega) (by omega) (by omega);have S:c*(x*d-q)<=c*(262144*65536):=aeO (by omega) (by omega);omega
 obtain⟨y,z,_⟩:=dU p;have L:isqF (gE h n x k f)<=33554432:=afR fun b=>by
  have:=ae0 (show 33554433<=isqF (gE h n x k f) by omega) (show 33554433<=isqF (gE h n x k f) by omega) (by omega) y;omega
 have F:(jU h n k f).natAbs<=n*((dk h (k+1)).toNat*m):=by
  refine ki n fun j v=>?_
  by_cases w:j<=k
  ·omega
  rw[if_neg w,afr];have M:=(g.2.2.2 k (by omega)).1 j v (by omega);rw[iJ o.1 k (by omega) (fun t X=>by have:=o.2 t (by omega);omega) k j s v];exact afd (by omega) (N j (by omega) v)
 have J:(jU h n k f).natAbs<=(dk h (k+1)).toNat*(4*m):=by
  refine aeN F ?_;simp_all[ae2,ahw]
 unfold cu dy;generalize isqF (gE h n x k f)=r at*
 generalize jU h n k f=l at*
 clear p A z F C K;have e:dk h (k+1)=(((dk h (k+1)).toNat:Nat):Int):=by omega
 rw[e];generalize(dk h (k+1)).toNat=D at*
 have H:0<D:=by omega
 have E: ∀u:Int,(u.natAbs<=33554432+D*(4*m))->(u/(D:Int)).natAbs<=4*m+33554432:=fun u Y=>Uk H (by
  grind)
 have O:=E (r+l) (by omega);have P:=E (r-l) (by omega);omega
theorem g9: ∀m,m<=4->Yc m<=5704253440
 |0,_=>by decide
 |1,_=>by decide
 |2,_=>by decide
 |3,_=>by decide
 |4,_=>by decide
 |m+5,h=>by omega
def uw (y:List Int):Prop:= ∀i,i<y.length->(y.getD i 0).natAbs<=Yc (y.length-i)
theorem uw.nil:uw []:=fun i h=>by simp at h
theorem uw.cons (h:uw b) (e:x.natAbs<=Yc (b.length+1)):uw (x::b):=fun i f=>by
 cases i with
 |zero=>exact e
 |succ i=>
  rw[aiC,ae6,ain];exact h i (by grind)
theorem PJ: ∀{a b:Nat},a<=b->Yc a<=Yc b:=by
 intro a b h
 induction b with
 |zero=>grind
 |succ b c=>
  grind [Yc]
theorem uw.bd (h:uw b) (z:Int) (e:z∈b):z.natAbs<=Yc b.length:=by
 obtain⟨i,c,rfl⟩:=List.mem_iff_getElem.1 e;have:=h i c;rw[aeM,aeR c]at this;exact aeN this (PJ (by omega))
theorem jv (q:RedR h n) (p:n<=4) (c:0<=x) (g:x<=262144) {k:Nat} (o:b.length+(k+1)=n) (r:uw b) (l:fq h n x (k+1) (aL n b)):
  (cu h n x k (aL n b)).natAbs<=Yc (b.length+1)/\(dy h n x k (aL n b)).natAbs<=Yc (b.length+1):=
 Zg q p c g (by omega) l fun j s m=>by
  have e:=MN (a:=j-(k+1)) o;rw[show k+1+(j-(k+1))=j by omega]at e;rw[e];exact aeN (r (j-(k+1)) (by omega)) (PJ (by omega))
end
section
variable {n:Nat}
def zC:Nat->Nat
 |0=>0
 |m+1=>4*zC m+2147483648
theorem GA: ∀{a b:Nat},a<=b->zC a<=zC b:=by
 intro a b h
 induction b with
 |zero=>grind
 |succ b c=>
  grind [zC]
theorem aev (h:n<=7):zC n<=11727408201728:=aeN (GA h) (by decide)
theorem aal {m:Nat} (h:m<=8):zC m<=46911780290560:=aeN (GA h) (by decide)
def tn (y:List Int):Prop:= ∀i,i<y.length->(y.getD i 0).natAbs<=zC (y.length-i)
theorem tn.nil:tn []:=fun i h=>by simp at h
theorem tn.cons (h:tn b) (e:x.natAbs<=zC (b.length+1)):tn (x::b):=fun i f=>by
 cases i with
 |zero=>exact e
 |succ i=>
  rw[aiC,ae6,ain];exact h i (by grind)
theorem tn.at_ (h:tn b) (i:Nat):(b.getD i 0).natAbs<=zC b.length:=by
 by_cases c:i<b.length
 ·exact aeN (h i c) (GA (by omega))
 grind
structure qH (n:Nat) (f:FF) (B:Int):Prop where
 r:RedR f n
 n8:n<=4
 b0:0<=B
 b1:B<=1073741824
def yG (f:FF) (k:Nat) (y:List Int) (m:Nat):Int:=smF (fun b=>bk f k k (k+(b+1))*y.getD b 0) m
def uk (f:FF) (n:Nat) (B:Int) (k:Nat) (x:Nat->Int):Int:=B*dk f k-BF n (bk f k) x x
theorem sN (f:FF) {k:Nat} (c:b.length+(k+1)=n):yG f k b b.length=jU f n k (aL n b):=by
 rw[<- Mx f c,mw _ _ _ (aeJ _)];rfl
section
variable {f:FF} {B:Int} (hv:qH n f B)
include hv
theorem qH.d {k:Nat} (b:k<=n):0<dk f k/\dk f k<65536:=by
 cases k with
 |zero=>rw[b8];omega
 |succ k=>exact⟨hv.r.2.1 k (by omega),fW (by omega) hv.n8 hv.r k (by omega)⟩
theorem qH.sized {k j:Nat} (g:k<j) (b:j<n):2*(bk f k k j).natAbs<=(dk f (k+1)).toNat:=by
 have e:=hv.d (k:=k+1) (by omega);have c:=(hv.r.2.2.2 k (by omega)).1 j b (by omega);rw[iJ hv.r.1 k (by omega) (fun t h=>by have:=hv.r.2.1 t (by omega);omega) k j (by omega) b];omega
theorem qH.shP_bd {k:Nat} (p:b.length+(k+1)=n) (e:tn b) (q:m<=b.length):(yG f k b m).natAbs<=(dk f (k+1)).toNat*(4*zC b.length):=by
 have r:=hv.n8;refine aeN (ki (B:=(dk f (k+1)).toNat/2*zC b.length) m fun c o=>?_) ?_
 ·rw[afr];have:=hv.sized (k:=k) (j:=k+(c+1)) (by omega) (by omega);exact afd (by omega) (e.at_ c)
 have g:m*((dk f (k+1)).toNat/2*zC b.length)<=8*((dk f (k+1)).toNat/2*zC b.length):=ae2 _ (by omega);have h:8*((dk f (k+1)).toNat/2*zC b.length)=(8*((dk f (k+1)).toNat/2))*zC b.length:=(agj _ _ _).symm;have l:(8*((dk f (k+1)).toNat/2))*zC b.length<=(4*(dk f (k+1)).toNat)*zC b.length:=ae2 _ (by omega);grind
theorem qH.shP_c {k:Nat} (c:b.length+(k+1)=n) (g:tn b) (e:m<=b.length): -3074285718752788480<=yG f k b m/\yG f k b m<=3074285718752788480:=by
 have h:=hv.shP_bd c g e;have l:=hv.d (k:=k+1) (by omega);have o:=hv.n8;have j:=afd (show(dk f (k+1)).toNat<=65535 by omega) (show 4*zC b.length<=46909632806912 by grind [aev]);omega
theorem qH.rs0 {k:Nat} (c:k<=n) {x:Nat->Int} (g:fq f n B k x):0<=uk f n B k x/\uk f n B k x<=70368744177664:=by
 have b:=hv.r.pd;have h:=hv.d c;have j:=(jQ b.1 b.2 x (n-k) k (by omega)).1;have e:B*dk f k<=1073741824*65536:=ae0 hv.b1 (by omega) (by omega) (by omega);grind [uk,fq]
theorem qH.sq {k:Nat} (c:k<n) {x:Nat->Int} (b:fq f n B (k+1) x):0<=gE f n B k x/\gE f n B k x<=4611686018427387904:=by
 have e:=hv.rs0 c b;have h:=hv.d (k:=k) (by omega);refine⟨oZ hv.r.pd c b,?_⟩;show dk f k*uk f n B (k+1) x<=_;have g:dk f k*uk f n B (k+1) x<=65536*70368744177664:=ae0 (by omega) e.2 e.1 (by omega);omega
theorem qH.lohi {k:Nat} (j:b.length+(k+1)=n) (v:tn b) (o:fq f n B (k+1) (aL n b)):
  (cu f n B k (aL n b)).natAbs<=zC (b.length+1)/\(dy f n B k (aL n b)).natAbs<=zC (b.length+1)/\0<=dy f n B k (aL n b)-cu f n B k (aL n b)+1:=by
 have z:=hv.d (k:=k+1) (by omega);have c:=hv.sq (k:=k) (by omega) o;have A:=qY c.1 c.2;have t:=hv.shP_bd j v (aeJ _);rw[sN f j]at t;have s:zC (b.length+1)=4*zC b.length+2147483648:=rfl;rw[s];unfold cu dy;generalize isqF (gE f n B k (aL n b))=r at*
 generalize jU f n k (aL n b)=l at*
 have e:dk f (k+1)=(((dk f (k+1)).toNat:Nat):Int):=by omega
 rw[e];generalize(dk f (k+1)).toNat=D at*
 have m:0<D:=by omega
 have g: ∀u:Int,(u.natAbs<=2147483648+D*(4*zC b.length))->(u/(D:Int)).natAbs<=4*zC b.length+2147483648:=fun u C=>Uk m (by
  grind)
 have w:=g (r+l) (by omega);have x:=g (r-l) (by omega);refine⟨by omega,by omega,?_⟩;have E:=agE (r+l) (show(0:Int)<(D:Int) by omega);have F:=agE (r-l) (show(0:Int)<(D:Int) by omega);generalize(r+l)/(D:Int)=p at*
 generalize(r-l)/(D:Int)=q at*
 refine afR fun h=>?_
 have G:(p+1+(q+1))*(D:Int)<=0*(D:Int):=aeY (by omega) (by omega);grind
theorem qH.step {k:Nat} (m:b.length+(k+1)=n) {c:Int} (o:fq f n B (k+1) (aL n b)) (g:cu f n B k (aL n b)<=c) (l:c<=dy f n B k (aL n b)):
  fq f n B k (aL n (c::b))/\gE f n B k (aL n b)-(dk f (k+1)*c+jU f n k (aL n b))*(dk f (k+1)*c+jU f n k (aL n b))=dk f (k+1)*uk f n B k (aL n (c::b)):=by
 have e:=hv.r.pd;have j: ∀i,k<i->i<n->aL n (c::b) i=aL n b i:=fun i g _=>ia m g
 have p:aL n (c::b) k=c:=iV m;have h:=(fq.tail e (k:=k+1) (by omega) (x':=aL n b) (fun i g l=>j i (by omega) l)).2 o;refine⟨(ig e (by omega) h).2 ?_,?_⟩
 ·grind [lf,k9]
 rw[<- zx (B:=B) e (show k<n by omega) j,<- zw j];have key:=kT e.1 e.2 (aL n (c::b)) (show k<n by omega);grind [xO,gE,uk]
end
/-! The walk. -/
section
variable {γ:Type} (yd:Nat->Int->γ->γ×Bool)
def lpM (b:Int->γ->γ×Bool):Nat->Int->γ->γ×Bool
 |0,_,g=>(g,true)
 |m+1,x,g=>match b x g with
  |(c,true)=>lpM b m (x+1) c
  |(c,false)=>(c,false)
noncomputable def lY (f:FF) (n:Nat) (B:Int):Nat->List Int->γ->γ×Bool
 |0,y,g=>yd n (dy f n B 0 (aL n y)-cu f n B 0 (aL n y)+1) g
 |k+1,y,g=>match yd (n-(k+1)) (dy f n B (k+1) (aL n y)-cu f n B (k+1) (aL n y)+1) g with
  |(b,true)=>lpM (fun c=>lY f n B k (c::y)) (dy f n B (k+1) (aL n y)-cu f n B (k+1) (aL n y)+1).toNat (cu f n B (k+1) (aL n y)) b
  |(b,false)=>(b,false)
theorem Vi {e:γ->Prop} {b:Int->γ->γ×Bool} (j: ∀c g,e g->(b c g).2=true->e (b c g).1): ∀(m:Nat) (x:Int) (g:γ),e g->(lpM b m x g).2=true->e (lpM b m x g).1
 |0,_,_,f,_=>f
 |m+1,x,g,f,h=>by
  have k:=j x g f;unfold lpM at h⊢;generalize b x g=r at*
  obtain⟨l,t⟩:=r;cases t with
  |true=>exact Vi j m _ _ (k rfl) h
  |false=>cases h
theorem XN {lv:γ->Prop} (b: ∀m c g,lv g->(yd m c g).2=true->lv (yd m c g).1) (f:FF) (n:Nat) (B:Int): ∀(k:Nat) (y:List Int) (g:γ),lv g->(lY yd f n B k y g).2=true->lv (lY yd f n B k y g).1
 |0,y,g,e,h=>b _ _ g e h
 |k+1,y,g,e,h=>by
  have q:=b (n-(k+1)) (dy f n B (k+1) (aL n y)-cu f n B (k+1) (aL n y)+1) g e;unfold lY at h⊢;generalize yd (n-(k+1)) (dy f n B (k+1) (aL n y)-cu f n B (k+1) (aL n y)+1) g=r at*
  obtain⟨j,t⟩:=r;cases t with
  |true=>exact Vi (fun c g e h=>XN b f n B k (c::y) g e h) _ _ _ (q rfl) h
  |false=>cases h
end
end
section
def jo (m:Nat):List (List AV):=af m [.junk]
theorem U1 (m i:Nat) (y:List Int):(jo m++lc fI y)[m+i]?=(lc fI y)[i]?:=by
 grind [jo]
theorem lT (m:Nat) (y:List Int):(jo m++lc fI y).length=m+y.length:=by simp[jo,fO]
theorem q9 (m:Nat) (c:Int) (y:List Int):(jo (m+1)++lc fI y).set m [.p (.raw (.int .i64 c))]=jo m++lc fI (c::y):=by
 simp_all[jo,agS,lc,fI]
theorem j5 (d m:Nat):(jo m).map (List.map (dA d))=jo m:=by simp[jo,dA]
abbrev wK (a:Nat) (B:Int) (n m:Nat) (y b:List Int) (M:List (List Int)):List OObj:=[⟨222,4,[[.p (.raw (.int .i64 B)),.sl a 2 0 (n+1),.sl a 3 0 n,.sl a 1 0 n]]⟩,⟨2,1,jo m++lc fI y⟩,⟨2,1,lc fI b⟩,⟨35,1,lc (fR fI) M⟩]
theorem GK (a d:Nat) (B:Int) (n m:Nat) (y b:List Int) (M:List (List Int)):(wK a B n m y b M).map (renO d)=wK d B n m y b M:=by
 simp_all[renO,dA,jh,j5]
theorem wL (a:Nat) (B:Int) (n m:Nat) (y g:List Int) (M:List (List Int)): ∀o∈wK a B n m y g M,selfO a o:=fun o f e b x c=>by
 simp only[afn,afx,or_false]at f;rcases f with rfl|rfl|rfl|rfl
 ·simp only[aeK]at b;subst b;simp only[afn,afx,or_false]at c;rcases c with rfl|rfl|rfl|rfl<;>first|trivial|rfl
 ·simp only[afD]at b;rcases b with b|b
  ·obtain⟨_,rfl⟩:=agM.1 b;simp only[aeK]at c;subst c;trivial
  exact dj (bF 2 1 _ e b x c)
 ·exact dj (bF 2 1 _ e b x c)
 exact dj (bF 35 1 _ e b x c)
theorem adm (a:Nat) (B:Int) (n m e:Nat) (y f c:List Int) (M:List (List Int)): ∀r∈[0],∀o,(wK a B n m y c M)[r]?=some o-> ∃b,(wK a B n e f c M)[r]?=some b/\b.es=o.es/\o.elems.length<=b.elems.length:=fun r g o h=>by
 grind
theorem G9 {s:AS} {c:Int} {e:List Int} {M:List (List Int)} (f:s.H 0=wK 0 x n m (c::b) e M):bN s ⟨s.tmps,aK s.H 0 (wK 0 x n (m+1) b e M)⟩:=by
 have h:=pi (s:=s) 0 1 (o:=⟨2,1,jo m++lc fI (c::b)⟩) (o':=⟨2,1,jo (m+1)++lc fI b⟩) (by rw[f];rfl) rfl rfl (by simp only[lT,ae6];omega) fun i g j=>by
  rw[<- q9 m c b];grind [jo]
 grind
theorem Ba (n:Nat) (f:FF) {k:Nat} (b:k<n):(gX n f n)[k]?=some (rc n f k):=U8 f b
structure VsG (γ:Type) (lv:γ->Prop) (lo hi:Int) (b:Int->γ->γ×Bool) (R:γ×Bool) where
 x:Int
 g:γ
 l:lv g
 h1:lo<=x
 h2:x<=hi+1
 e:lpM b (hi-x+1).toNat x g=R
theorem Vj {f:Type} {b:Int->f->f×Bool} {c:Int} {g:f} (h:c<=x):lpM b (x-c+1).toNat c g=match b c g with
  |(e,true)=>lpM b (x-(c+1)+1).toNat (c+1) e
  |(e,false)=>(e,false):=by
 rw[show(x-c+1).toNat=(x-(c+1)+1).toNat+1 by omega];rfl
theorem Zh {e:Type} {b:Int->e->e×Bool} {c:Int} {g:e} (h: ¬c<=x):lpM b (x-c+1).toNat c g=(g,true):=by
 rw[show(x-c+1).toNat=0 by omega];rfl
section
variable {γ:Type} {L:iz γ} {l:Nat} {yd:Nat->Int->γ->γ×Bool} {n:Nat} {f:FF} {B:Int} {lv:γ->Prop}
def abL (P:Program) (L:iz γ) (l n:Nat) (yd:Nat->Int->γ->γ×Bool) (lv:γ->Prop):Prop:= ∀(m:Nat) (c:Int) (g:γ),lv g->1<=m->m<=n->0<=c->c<=93823560581121->wY P L l [.int .i64 (m:Int),.int .i64 c] g (yd m c g).1 (yd m c g).2
abbrev adk (l:Nat) (k:Nat) (b:Int):List TV:=[.one (.ptr 0 0 0 0),.raw (.int .i64 (k:Int)),.raw (.int .i64 b),.raw (.func (.yield l) #[] #[])]
theorem P4 (s:qH n f B) (hy:abL prog L l n yd lv) (P: ∀m c g,lv g->(yd m c g).2=true->lv (yd m c g).1) (k:Nat) (y:List Int) (hk:y.length+(k+1)=n) (hT:tn y) (S:fq f n B (k+1) (aL n y)) (g:γ) (hg:lv g)
  (ab: ∀j,k=j+1-> ∀c,cu f n B k (aL n y)<=c->c<=dy f n B k (aL n y)-> ∀g,lv g->lZ prog L [0] 190 (adk l j (uk f n B (j+1) (aL n (c::y)))) (wK 0 B n (j+1) (c::y) (aA (n+1) (dk f)) (gX n f n)) (wK 0 B n (j+1) (c::y) (aA (n+1) (dk f)) (gX n f n)) g (lY yd f n B j (c::y) g).1 (.raw (.bool (lY yd f n B j (c::y) g).2))):
  lZ prog L [0] 190 (adk l k (uk f n B (k+1) (aL n y))) (wK 0 B n (k+1) y (aA (n+1) (dk f)) (gX n f n)) (wK 0 B n (k+1) y (aA (n+1) (dk f)) (gX n f n)) g (lY yd f n B k y g).1 (.raw (.bool (lY yd f n B k y g).2)):=by
 have b0:=s.n8;have bt:=s.d (k:=k) (by omega);have T:=s.d (k:=k+1) (by omega);have ap:=aw (dk f) (show k<n+1 by omega);have av:=aw (dk f) (show k+1<n+1 by omega);have bq:=az (n+1) (dk f);have hM:=Ba n f (show k<n by omega);have br:=oK n f n;have a2:(rc n f k).length=n-k-1:=az _ _;have C: ∀i,i<y.length->(rc n f k)[i]?=some (bk f k k (k+(i+1))):=fun i E=>aw _ (by omega)
 have I:=fun m (hm:m<=y.length)=>s.shP_c hk hT hm
 have z:=sN f hk;have b1:=s.rs0 (k:=k+1) (by omega) S;have u:=s.sq (k:=k) (by omega) S;have Y:=s.lohi hk hT S;have bc:=aal (m:=y.length+1) (by omega);have b2:=qY u.1 u.2;have cR:=BW (.inl rfl) _ u.1 u.2;have ah:=fun c=>s.step hk (c:=c) S
 have ag:dk f k*uk f n B (k+1) (aL n y)=gE f n B k (aL n y):=rfl;have Z:cu f n B k (aL n y)=0-(isqF (gE f n B k (aL n y))+yG f k y y.length)/dk f (k+1):=by grind [cu]
 have X:dy f n B k (aL n y)=(isqF (gE f n B k (aL n y))-yG f k y y.length)/dk f (k+1):=by rw[z];rfl
 have bp:=I y.length (aeJ _);have ai:=r7 (.inl rfl) (isqF (gE f n B k (aL n y))+yG f k y y.length) (dk f (k+1)) T.1 (by omega) (by omega) (by omega);have an:=r7 (.inl rfl) (isqF (gE f n B k (aL n y))-yG f k y y.length) (dk f (k+1)) T.1 (by omega) (by omega) (by omega);have O:=hy (n-k) (dy f n B k (aL n y)-cu f n B k (aL n y)+1) g hg (by omega) (by omega) (by omega) (by omega);have e1:IntKind.i64.wrap ((k:Int)+1)=((k+1:Nat):Int):=aH (by omega) (by omega);have e2:IntKind.i64.wrap ((n:Int)-(k:Int))=((n-k:Nat):Int):=by grind [aH]
 have J:k=0->lY yd f n B k y g=yd (n-k) (dy f n B k (aL n y)-cu f n B k (aL n y)+1) g:=fun e=>by subst e;rfl
 have N: ∀j,k=j+1->lY yd f n B k y g=match yd (n-k) (dy f n B k (aL n y)-cu f n B k (aL n y)+1) g with
  |(g',true)=>lpM (fun c=>lY yd f n B j (c::y)) (dy f n B k (aL n y)-cu f n B k (aL n y)+1).toNat (cu f n B k (aL n y)) g'
  |(g',false)=>(g',false):=fun j e=>by subst e;rfl
 have ad:yG f k y 0=0:=rfl;have ae: ∀i,yG f k y i+bk f k k (k+(i+1))*y.getD i 0=yG f k y (i+1):=fun _=>rfl
 rw[<- z]at ah;have ac: ∀c,fq f n B k (aL n (c::y))->0<=uk f n B k (aL n (c::y))/\uk f n B k (aL n (c::y))<=70368744177664:=fun c h=>s.rs0 (by omega) h
 have F:=P (n-k) (dy f n B k (aL n y)-cu f n B k (aL n y)+1) g hg;have bh:=fun j c g hg=>XN yd (lv:=lv) P f n B j (c::y) g hg
 obtain⟨Q,b,W⟩: ∃Q b,yd (n-k) (dy f n B k (aL n y)-cu f n B k (aL n y)+1) g=(Q,b):=⟨_,_,rfl⟩;rw[W]at O J N F;simp only at O J N F;clear W hy P s S hT;generalize lY yd f n B k y g=R at*
 generalize cu f n B k (aL n y)=lo at*
 generalize dy f n B k (aL n y)=E at*
 generalize gE f n B k (aL n y)=sq at*
 generalize uk f n B (k+1) (aL n y)=A at*
 generalize isqF sq=rt at*
 generalize aA (n+1) (dk f)=D at*
 generalize gX n f n=M at*
 generalize rc n f k=r at*
 generalize dk f (k+1)=d1 at*
 generalize dk f k=d0 at*
 generalize yG f k y=w at*
 have bH: -46911780290560<=lo/\lo<=46911780290560:=by omega
 have bw: -46911780290560<=E/\E<=46911780290560:=by omega
 have bm:=Y.2.2;clear Y bc;have bn:(d1=0)=False:=eq_false (by omega);refine qQ func190 rfl (by kernel_rfl) [(0,0)] (by simp) (by simp[selfTV,bJ]) (by simp[selfTV,bJ]) (wL 0 _ _ _ _ _ _) (wL 0 _ _ _ _ _ _) (adm 0 _ _ _ _ _ _ _ _) ?_;rw[ntmps190];refine eF.weak (ak (tm:=(.one (.ptr 0 0 0 0)::rN k::.raw (.int .i64 A)::.raw (.func (.yield l) #[] #[])::j16 (j16 (j16 (j16 (j16 (j16 (j16 (j4 (j4 ([]))))))))))) (l:=[(0,wK 0 B n (k+1) y D M)]) ⟨rfl,trivial⟩ (by simp[wk,af])) ?_;refine bU (k:=dh (aG e1 av) (k:=aR (dh (aG hM a2) (k:=?_))));refine dT (G:=fp y.length) (fun q=>⟨(.one (.ptr 0 0 0 0)::rN k::.raw (.int .i64 A)::.raw (.func (.yield l) #[] #[])::j4 (jk::.raw (.int .i64 d1)::.raw (.int .i64 (w q.i))::j16 (j4 (jk::jk::.one (.p (.sl (ls fI r)))::rN y.length::rN q.i::j16 (j16 (j16 (j16 (j16 (j4 (j4 ([]))))))))))),Hm [(0,wK 0 B n (k+1) y D M)]⟩) (fun _=>g) (fun q=>y.length-q.i) ⟨0,by omega⟩ ?_ rfl ?_
 ·refine ak ⟨rfl,trivial⟩ ?_;simp[wk,ad];omega
 rintro⟨i,bx⟩;simp only;by_cases hm:i<y.length
 ·have a1:=C i hm;have s0:=I i (by omega);have s1:=I (i+1) (by omega);have s2:=ae i;have e3:IntKind.i64.wrap (((k+1:Nat):Int)+(i:Int))=((k+1+i:Nat):Int):=by rw[aH (by omega) (by omega)];omega
  have a4:=U1 (k+1) i y;have a5:=lT (k+1) y;have bl:y[i]?=some (y.getD i 0):=by grind
  generalize bk f k k (k+(i+1))=q at*
  generalize y.getD i 0=yi at*
  refine bU (k:=nT rfl (aR (cQ (dh a1 (k:=jW (aG e1 (aG e3 (aG a4 (aG bl s2)))) (k:=tD (k:=?_)))))));refine⟨⟨i+1,by omega⟩,by grind,ak ⟨rfl,trivial⟩ ?_,rfl⟩;simp[wk]
 have a8:i=y.length:=by omega
 subst a8;refine bU (k:=po rfl (dh (aG ap ag) (k:=Ak [⟨1,_,_,_,cR⟩] (k:=?_))));refine ox [⟨4,_,_,_,ai⟩,⟨10,_,_,_,an⟩] [] (by kernel_rfl) fun _ K=>?_;simp(disch:=omega) only[kd,<- X,aa,aH,<- Z,Nat.reduceBEq];apply K
 refine aR (aR ?_);refine Hn 12 O [] [] (by kernel_rfl) (by decide) fun K o=>?_
 simp(disch:=omega) only[kd,aa,e2,aH];refine o _ ⟨rfl,?_⟩;clear o K;intro K o;simp only[kd,aa,yS,cwD];apply o;clear o K;show eF _ _ _ _ _ _ _;cases b with
 |false=>
  have C:R=(Q,false):=by
   cases k with
   |zero=>grind
   |succ j=>grind
  subst C;refine d8 rfl (bU (k:=?_));refine dX ⟨.inr rfl,rfl,_,ak (tm:=(.one (.ptr 0 0 0 0)::j4 (jk::jk::jk::.raw (.bool false)::j16 (j16 (j16 (j16 (j16 (j16 (j16 (jk::jk::jk::[])))))))))) (l:=[(0,wK 0 B n (k+1) y D M)]) ⟨rfl,trivial⟩ (by simp[wk]),⟨eZ _,rfl⟩,by simp⟩
 |true=>
  refine dO rfl (cb ?_);show eF _ _ _ _ _ _ _;cases k with
  |zero=>
   have C:R=(Q,true):=J rfl;subst C;refine aR (bU (k:=d8 rfl (bU (k:=?_))));refine dX ⟨.inr rfl,rfl,_,ak (tm:=(.one (.ptr 0 0 0 0)::j4 (jk::jk::jk::.raw (.bool true)::j16 (j16 (j16 (j16 (j16 (j16 (j16 (jk::jk::jk::[])))))))))) (l:=[(0,wK 0 B n (0+1) y D M)]) ⟨rfl,trivial⟩ (by simp[wk]),⟨eZ _,rfl⟩,by simp⟩
  |succ j=>
   have C:=N j rfl;have a9:(((j+1:Nat):Int)=0)=False:=eq_false (by omega);have e4:IntKind.i64.wrap (((j+1:Nat):Int)-1)=(j:Int):=by grind [aH]
   refine aR (dh a9 (k:=dO rfl (cb (aR (bU (k:=?_))))));refine dT (G:=VsG γ lv lo E (fun c=>lY yd f n B j (c::y)) R) (fun v=>⟨(.one (.ptr 0 0 0 0)::.raw (.int .i64 ((j+1:Nat):Int))::jk::.raw (.func (.yield l) #[] #[])::j4 (jk::.raw (.int .i64 d1)::.raw (.int .i64 (w y.length))::jk::jk::.raw (.int .i64 sq)::jk::jk::.raw (.int .i64 E)::.raw (.int .i64 v.x)::j16 (j16 (j16 (j16 (j16 (j16 (j4 (j4 (jk::jk::[])))))))))),Hm [(0,wK 0 B n (j+1+1) y D M)]⟩) (fun v=>v.g) (fun v=>(E+1-v.x).toNat) ⟨lo,Q,F rfl,by omega,by omega,C.symm⟩ ?_ rfl ?_
   ·refine ak ⟨rfl,trivial⟩ ?_;simp[wk]
   rintro⟨x,g2,V,h1,h2,t⟩;simp only;by_cases hx:x<=E
   ·rw[Vj hx]at t;obtain⟨a0,hq⟩:=ah x h1 hx;have bb:=ac x a0;have cV:=ab j rfl x h1 hx g2 V;have H:=bh j x g2 V;obtain⟨g3,b3,a7⟩: ∃g3 b3,lY yd f n B j (x::y) g2=(g3,b3):=⟨_,_,rfl⟩;rw[a7]at cV t H;simp only at cV t H;generalize uk f n B (j+1) (aL n (x::y))=rx at*
    have b5:(d1*x).natAbs<=65535*46911780290560:=by
     rw[afr];exact afd (by omega) (by omega)
    have ba:0<=d1*rx:=aeQ (by omega) bb.1;have U:Int.tdiv (sq-(d1*x+w y.length)*(d1*x+w y.length)) d1=rx:=by rw[hq];grind [Int.mul_tdiv_cancel_left]
    have b4:0<=(d1*x+w y.length)*(d1*x+w y.length):=by
     rcases afF 0 (d1*x+w y.length)with h|h
     ·exact aeQ h h
     exact ae9 h h
    have a5:=lT (j+1+1) y;have a6:=q9 (j+1) x y;have a3:(jo (j+1+1)++lc fI y)[j+1]?=some [.junk]:=by
     rw[aff (by simp[jo])];simp[jo]
    refine aR (bU (k:=d8 rfl (cb (aR (cQ (dh (aG a3 a6) (k:=bU (k:=aR (iF 11 cV 0 [] [] (by kernel_rfl) (by omega) (by decide) fun K o=>?_)))))))));generalize hU:(d1*x+w y.length)*(d1*x+w y.length)=uu at*
    simp(disch:=omega) only[kd,aa,e4,hU,aH,U];refine o _ ⟨⟨rfl,(GK 0 0 _ _ _ _ _ _).symm⟩,?_⟩;clear o K;intro K o;simp(disch:=omega) only[kd,aa,CO,cwD,qy,oJ,Nat.reduceBEq,afv,j5];apply o;clear o K;show eF _ _ _ _ _ _ _;cases b3 with
    |false=>
     simp only at t;subst t;refine d8 rfl (bU (k:=?_));refine dX ⟨.inr rfl,rfl,_,(G9 rfl).trans (ak (tm:=(.one (.ptr 0 0 0 0)::j4 (jk::jk::jk::.raw (.bool false)::j16 (j16 (j16 (j16 (j16 (j16 (j16 (jk::jk::jk::[])))))))))) (l:=[(0,wK 0 B n (j+1+1) y D M)]) ⟨rfl,trivial⟩ (by simp[wk])),⟨eZ _,rfl⟩,by simp⟩
    |true=>
     simp only at t;refine dO rfl (cb (tD (k:=?_)));refine⟨⟨x+1,g3,H rfl,by omega,by omega,t⟩,by simp only;omega,(G9 rfl).trans (ak ⟨rfl,trivial⟩ ?_),rfl⟩;simp[wk]
   rw[Zh hx]at t;subst t;refine aR (bU (k:=dO rfl (gV (bU (k:=?_)))));refine dX ⟨.inr rfl,rfl,_,ak (tm:=(.one (.ptr 0 0 0 0)::j4 (jk::jk::jk::.raw (.bool true)::j16 (j16 (j16 (j16 (j16 (j16 (j16 (jk::jk::jk::[])))))))))) (l:=[(0,wK 0 B n (j+1+1) y D M)]) ⟨rfl,trivial⟩ (by simp[wk]),⟨eZ _,rfl⟩,by simp⟩
end
end
section
section
variable {γ:Type} {L:iz γ} {l:Nat} {yd:Nat->Int->γ->γ×Bool} {n:Nat} {f:FF} {B:Int} {lv:γ->Prop}
theorem aaK (r:qH n f B) (s:abL prog L l n yd lv) (q: ∀m c g,lv g->(yd m c g).2=true->lv (yd m c g).1): ∀(k:Nat) (y:List Int),y.length+(k+1)=n->tn y->fq f n B (k+1) (aL n y)-> ∀g:γ,lv g->
  lZ prog L [0] 190 (adk l k (uk f n B (k+1) (aL n y))) (wK 0 B n (k+1) y (aA (n+1) (dk f)) (gX n f n)) (wK 0 B n (k+1) y (aA (n+1) (dk f)) (gX n f n)) g (lY yd f n B k y g).1 (.raw (.bool (lY yd f n B k y g).2)):=by
 intro k
 induction k with
 |zero=>intro y p h b g o;exact P4 r s q 0 y p h b g o fun j e=>by omega
 |succ k w=>
  intro y p h b g o;refine P4 r s q (k+1) y p h b g o fun j e c t u g o=>?_
  obtain rfl:j=k:=by omega
  have v:=r.lohi p h b;exact w (c::y) (by grind) (h.cons (by omega)) (r.step p b t u).1 g o
noncomputable def PM (yd:Nat->Int->γ->γ×Bool) (f:FF) (n:Nat) (B:Int) (g:γ):γ:=if n=1 then(yd 1 (2*isqF (B/dk f 1)+1) g).1 else(lY yd f n B (n-1) [] g).1
theorem Mk (b:qH n f B):uk f n B n (aL n [])=dk f n*B:=by
 grind [aL,gM,uk]
def TlH (n:Nat) (f:FF) (B:Int):Prop:=(n=1/\0<dk f 1/\dk f 1<=4611686018427387904/\0<=B/\B<=4611686018427387904)\/(2<=n/\qH n f B)
theorem aak (h:TlH n f B) (y:abL prog L l n yd lv) (G: ∀m c g,lv g->(yd m c g).2=true->lv (yd m c g).1) (g:γ) (I:lv g):
  uC prog L 131 [.one (.ptr 0 0 0 0),.raw (.func (.yield l) #[] #[])] (wK 0 B n n [] (aA (n+1) (dk f)) (gX n f n)) (wK 0 B n n [] (aA (n+1) (dk f)) (gX n f n)) g (PM yd f n B g) (.tup []):=by
 have Q:=az (n+1) (dk f);have s:=aw (dk f) (show n<n+1 by omega);refine TW func131 rfl (by kernel_rfl) (by simp[selfTV,bJ]) (by simp[selfTV]) (wL 0 _ _ _ _ _ _) (wL 0 _ _ _ _ _ _) ?_;rw[ntmps131];refine wT.weak (ak (tm:=(.one (.ptr 0 0 0 0)::.raw (.func (.yield l) #[] #[])::j16 (j16 (j4 (j4 (jk::jk::jk::[])))))) (l:=[(0,wK 0 B n n [] (aA (n+1) (dk f)) (gX n f n))]) ⟨rfl,trivial⟩ (by simp[wk,af])) ?_;refine wU fun _ K=>?_;simp only[kd,aa];apply K
 rcases h with⟨rfl,R,S,z,X⟩|⟨T,j⟩
 ·have w:0<=B/dk f 1:=af9 z (by omega);have V:B/dk f 1<=B:=ahh _ z;have W:=qY w (by omega);have cR:=BW (.inl rfl) (B/dk f 1) w (by omega);have o:=y 1 (2*isqF (B/dk f 1)+1) g I (by omega) (by omega) (by omega) (by omega);have u:PM yd f 1 B g=(yd 1 (2*isqF (B/dk f 1)+1) g).1:=if_pos rfl;rw[u];have P:Int.tdiv B (dk f 1)=B/dk f 1:=agk z;have H:(dk f 1=0)=False:=eq_false (by omega);obtain⟨p,b,e⟩: ∃p b,yd 1 (2*isqF (B/dk f 1)+1) g=(p,b):=⟨_,_,rfl⟩;rw[e]at o⊢;simp only at o⊢;generalize aA (1+1) (dk f)=D at*
  generalize gX 1 f 1=M at*
  generalize dk f 1=d at*
  generalize B/d=q at*
  generalize isqF q=rt at*
  clear y e u;refine y8 (wU fun _ K=>?_);simp(disch:=omega) only[kd];apply K;refine abJ rfl ?_;refine y8 ?_;refine Hh bZ o [⟨12,_,_,_,cR⟩] [] (by kernel_rfl) fun K t=>?_
  simp(disch:=omega) only[kd,afT,aa,Nat.reduceSub,Int.reduceToNat,s,P,aH];refine t _ ⟨rfl,?_⟩;clear t K;simp only[wC];refine Ys ⟨.inr rfl,rfl,_,ak (tm:=(.one (.ptr 0 0 0 0)::j16 (j16 (j4 (j4 (j4 ([]))))))) (l:=[(0,wK 0 B 1 1 [] D M)]) ⟨rfl,trivial⟩ ?_,eZ _,rfl⟩;simp only[kd,yS,cwD];simp[wk]
 have U:=j.n8;have A:fq f n B n (aL n []):=gN j.r.pd j.b0;have x:=aaK j y G (n-1) [] (by simp;omega) tn.nil (by grind) g I;rw[show n-1+1=n by omega,Mk j]at x;have u:PM yd f n B g=(lY yd f n B (n-1) [] g).1:=if_neg (by omega);rw[u];have Y:=j.d (k:=n) (aeJ n);have v:=j.b0;have C:=j.b1;have J:0<=dk f n*B:=aeQ (by omega) v;have N:dk f n*B<=65536*1073741824:=ae0 (by omega) C v (by omega);have E:((n:Int)=1)=False:=eq_false (by omega);have O:IntKind.i64.wrap ((n:Int)-1)=((n-1:Nat):Int):=by grind [aH]
 obtain⟨p,b,e⟩: ∃p b,lY yd f n B (n-1) [] g=(p,b):=⟨_,_,rfl⟩;rw[e]at x⊢;simp only at x⊢;generalize aA (n+1) (dk f)=D at*
 generalize gX n f n=M at*
 generalize dk f n=d at*
 generalize F:d*B=Z at*
 clear y e u j A;refine y8 (wU fun _ K=>?_);simp only[kd,E];apply K;refine abI rfl (To ?_);show wT _ _ _ _ _ _;refine Kz bZ x.toL 0 [] [] (by omega) (by kernel_rfl) fun K t=>?_
 simp(disch:=omega) only[kd,afT,aa,Nat.reduceSub,O,s,F,aH];refine t _ ⟨⟨rfl,(GK 0 0 _ _ _ _ _ _).symm⟩,?_⟩;clear t K;refine⟨.inl rfl,rfl,_,ak (tm:=(j16 (j16 (j4 (j4 (j4 (jk::[]))))))) (l:=[(0,wK 0 B n n [] D M)]) ⟨?_,trivial⟩ ?_,eZ _,rfl⟩
 ·rw[TZ,js];grind [be,GK]
 simp only[kd,TZ,cwD,afT,aa,Nat.reduceSub];simp[wk]
end
end
def j2 (g:OObj) (a e:Nat):AV->AV
 | .sl b r c len=>if b=a/\r=e then .p (.sl (((g.elems.take (c+len)).drop c).map (List.map unP)))else .sl b r c len
 | .ptr b r i j=>if b=a/\r=e then .junk else .ptr b r i j
 | .fn f b h=>if b=a then .junk else .fn f b h
 |x=>x
theorem Rh (e:OObj) (a j:Nat):s8 (j2 e a j):=fun f b g=>by
 by_cases h:b=a
 ·exact .inl (if_pos h)
 exact .inr ⟨b,g,if_neg h,rfl,fun n q c=>⟨q,c,if_neg fun k=>h k.1⟩⟩
def Ox (b:OObj) (a c:Nat):TV->TV
 | .one x=> .one (j2 b a c x)
 | .agg e=> .agg (e.map (j2 b a c))
 | .fn f e=> .fn f (e.map (j2 b a c))
 | .tup g=> .tup (g.map fun t=>(t.1,t.2.map (j2 b a c)))
def Fd (b:OObj) (a c:Nat) (o:OObj):OObj:={o with elems:=o.elems.map (List.map (j2 b a c))}
theorem Ls {a:Nat} {x:AV} (h:bJ a x):bJ a (j2 g a n x):=by
 cases x with
 |sl b r c len=>simp only[j2];split<;>first|trivial|exact h
 |ptr b r i j=>simp only[j2];split<;>first|trivial|exact h
 |fn f b e=>simp only[j2];split<;>first|trivial|exact h
 |_=>exact h
theorem IA {a:Nat} {y:AV} (c:m≠a) (h:bJ m y):j2 g a n y=y:=by
 cases y with
 |sl b r e len=>have h:b=m:=h;subst h;exact if_neg fun k=>c k.1
 |ptr b r i j=>have h:b=m:=h;subst h;exact if_neg fun k=>c k.1
 |fn f b l=>have h:b=m:=h.1;subst h;exact if_neg c
 |_=>rfl
theorem Ab {s:AS} (a g:Nat) {o0:OObj} (B:(s.H a)[g]?=some o0) (ag:fE o0):bN s ⟨s.tmps.map (Ox o0 a g),aK s.H a (((s.H a).set g {o0 with elems:=[]}).map (Fd o0 a g))⟩:=by
 rintro w0 O X aa w ⟨h1,a0,E,f,M⟩;have M:bz X E s aa w:=M;generalize Q:aK s.H a (((s.H a).set g {o0 with elems:=[]}).map (Fd o0 a g))=H1;generalize ap:(fun x y=>if x=a/\y=g then none else E x y:Rho)=ρ1;have V:ρ1 a g=none:=by grind
 have W: ∀x y,¬(x=a/\y=g)->ρ1 x y=E x y:=fun x y h=>by grind
 have ad: ∀x,x≠a->H1 x=s.H x:=fun x h=>by rw[<- Q];exact aU h
 have av: ∀y:Nat,(H1 a)[y]?=if y=g then some {o0 with elems:=[]}else((s.H a)[y]?).map (Fd o0 a g):=fun y=>by
  rw[<- Q,be,aeG,afG];by_cases U:g=y
  ·subst U;rw[if_pos rfl,if_pos (aeI.1 B).1,if_pos rfl];rfl
  grind
 have I: ∀(x y:Nat) q,(H1 x)[y]?=some q->(x=a/\y=g/\q={o0 with elems:=[]})\/(¬(x=a/\y=g)/\ ∃A,(s.H x)[y]?=some A/\q=Fd o0 a g A):=fun x y q h=>by
  by_cases N:x=a
  ·grind
  rw[ad x N]at h;refine .inr ⟨fun k=>N k.1,q,h,?_⟩;have hs:=f.self x y q h;have:q.elems.map (List.map (j2 o0 a g))=q.elems:=FA fun e D z Z=>IA N (hs e D z Z)
  simp_all[Fd]
 have T: ∀(x y:Nat) q,(s.H x)[y]?=some q-> ¬(x=a/\y=g)-> ∃Y,(H1 x)[y]?=some Y/\Y.es=q.es/\Y.elems.length=q.elems.length:=fun x y q h S=>by
  grind [Fd]
 have l: ∀(x y:Nat) q b c,(H1 x)[y]?=some q->ρ1 x y=some (b,c)-> ¬(x=a/\y=g)/\E x y=some (b,c)/\ ∃A,(s.H x)[y]?=some A:=fun x y q b c h e=>by
  grind
 have R: ∀b,Xo X ρ1 H1 b->Xo X E s.H b:=fun b m=>by
  rcases m with m|⟨x,y,q,n,C,P⟩
  ·exact .inl m
  obtain⟨_,F,A,G⟩:=l x y q b n C P;exact .inr ⟨x,y,A,n,G,F⟩
 have ae: ∀b c,E a g=some (b,c)-> ¬Xo X ρ1 H1 b:=fun b c hr hX=>by
  rcases hX with hX|⟨x,y,q,n,C,P⟩
  ·exact(f.old a g o0 b c B hr).2 hX
  obtain⟨g0,F,A,G⟩:=l x y q b n C P;exact g0 (f.inj x y a g A o0 b n c G B F hr)
 have K: ∀x u,isPure x=true->AV.rel E s.H (Xo X E s.H) w x u->bS (Xo X ρ1 H1) w (unP x) u:=fun x u hp h=>by
  cases x<;>first|exact bS.weaken (fun b _ m=>R b m) h|cases hp
 have J: ∀x v,AV.rel E s.H (Xo X E s.H) w x v->AV.rel ρ1 H1 (Xo X ρ1 H1) w (j2 o0 a g x) v:=kW (Rh o0 a g) fun x v S h=>by
  cases x with
  |fn=>cases S
  |p x=>exact bS.weaken (fun b _ m=>R b m) h
  |sl b r a1 len=>
   simp only[j2];by_cases m:b=a/\r=g
   ·rw[if_pos m];obtain⟨rfl,rfl⟩:=m;exact sG (f.objs b r o0 B) B (fun e D y U u hu=>K y u (ag e D y U) hu) (ae) h
   rw[if_neg m];obtain⟨o,C,P,F⟩:=h;obtain⟨o',k1,k2,k3⟩:=T b r o C m;exact⟨o',k1,by omega,by grind⟩
  |ptr b r i j=>
   simp only[j2];by_cases m:b=a/\r=g
   ·rw[if_pos m];trivial
   rw[if_neg m];obtain⟨o,b',c,C,P,F,G⟩:=h;obtain⟨o',k1,k2,k3⟩:=T b r o C m;exact⟨o',b',c,k1,by grind,by omega,by grind⟩
  |junk=>trivial
 refine⟨h1,by grind,ρ1,⟨f.keep,fun x y q L=>?_,fun x y x' y' q Y b c c' L ah e e'=>?_,fun x y q b c L e=>?_,f.bar,fun x y q L=>?_⟩,fun t x N=>?_⟩
 ·rcases I x y q L with⟨rfl,rfl,rfl⟩|⟨S,A,C,rfl⟩
  ·refine⟨fun e D=>(by cases D),(f.objs x y o0 B).2.1,?_⟩;rw[V]
  exact iO (f.objs x y A C) (W x y S) rfl (fun _ _ _=>rfl) fun _ _ z _ u u3=>J z u u3
 ·obtain⟨_,F,A,G⟩:=l x y q b c L e;obtain⟨_,ab,an,ac⟩:=l x' y' Y b c' ah e';exact f.inj x y x' y' A an b c c' G ac F ab
 ·obtain⟨_,F,A,G⟩:=l x y q b c L e;exact f.old x y A b c G F
 ·rcases I x y q L with⟨rfl,rfl,rfl⟩|⟨S,A,C,rfl⟩
  ·intro e D;cases D
  intro e D z Z;simp only[Fd,aeL]at D;obtain⟨e',af,rfl⟩:=D;simp only[aeL]at Z;obtain⟨z',ai,rfl⟩:=Z;have hs:=f.self x y A C e' af z' ai;grind [Ls,IA]
 simp only[aeG]at N;obtain⟨y,U,rfl⟩:=adT.1 N;obtain⟨v,v1,v2⟩:=M t y U;refine⟨v,v1,?_⟩;have:=jK v2 J;cases y<;>exact this
section
section
variable {P:Program} {w0 w w':World} {O X:Nat->Prop} {s s':AS} {a:Act} {ρ:Rho} {γ:Type} {fn:Func} {r:TV} {Post:World->(Nat->Prop)->Exit->Act->World->Prop}
theorem GR.weak (h:bN s s') (k:GR P c Post s'):GR P c Post s:=fun w0 X a w b e=>k w0 X a w b (h _ _ _ _ _ e)
theorem uL {y:Code} (h:bv P c (Tb P fn r (nw P fn r) (GR P y (nw P fn r))) s):GR P (.seq c y) (nw P fn r) s:=NO h
theorem Tu (S:AS) {y:Code} (h:bv P c (Tb P fn r (nw P fn r) (fun s'=>bN s' S)) s) (k:GR P y (nw P fn r) S):GR P (.seq c y) (nw P fn r) s:=NO (h.mono fun e s' h=>by
 cases e with
 |normal=>exact GR.weak h k
 |_=>exact h)
theorem kD {f:Option Nat} {b:List Deferred} {Q:Exit->AS->Prop} {id:Nat} (h: ∀K:AS->Prop,(∀s',Ah P f ρ b c Q s'->K s')->qb P e.toList (some s) K):Ah P f ρ b (.seq (.region id e false) c) Q s:=Tt h
theorem wX {c:Option Nat} {b:List Deferred} {Q:Exit->AS->Prop} {id:Nat} (h: ∀K:AS->Prop,(∀s',Q .normal s'->K s')->qb P e.toList (some s) K):Ah P c ρ b (.region id e false) Q s:=Tr h
theorem KE {id:Nat} {q k:Tmp} {Y:Array Tmp} {asg bd tail:Code} {f:FuncId} {ap:Nat×Nat×Nat} {fa:Nat} {F F':List OObj} {tml:List TV} {H:γ->OH} {jump:γ->Option Code} {hH: ∀g,B8 (H g)} {ht:tml.all vH=true} {g0 g1:γ} {rf:TV} (y:List (ar P)) (ow:List Nat) (hm: ∃o,e[e.size-1]?=some o/\o.guard=none/\o.op= .makeFunc (.func f) #[.tmp k] #[]/\o.dst=some q/\q≠k) (aa:0<e.size) (B: ∀(R:Ez) (ρ:Rho) (S: ∀x r c,ρ x r≠some (R.l,c)),R.ps=Y->R.asg=asg->R.bd=bd->uC P (Ks R ρ tml H jump S hH ht) f [.one (.ptr 0 ap.1 ap.2.1 ap.2.2),.raw (.func (.yield R.l) #[] #[])] F F' g0 g1 rf) (N:fa<=4999) (Q:jump g0=none) (L:tml.all (TL fa)=true) (h:bM P (y.map ar.a) ow (aV e (e.toList.take (e.size-1)) 0) (some s) (fun z=>z.ev (.tmp k)=some (.one (.ptr fa ap.1 ap.2.1 ap.2.2))/\q<z.tmps.length/\z.H fa=F.map (renO fa)/\H g0=aK z.H fa []/\tml.length=z.tmps.length/\ ∀(t:Nat) x,tml[t]?=some x->x= .one .junk\/(z.put (some q) (.one .junk)).tmps[t]?=some x)) (hQ: ∀(ρ:Rho) (ds:List Deferred),match jump g1 with
   |none=>Ah P none ρ ds tail (fun b s'=>(b= .normal\/b= .ret)/\Db P fn r s') ⟨tml,H g1⟩
   |some c=>c= .ret/\Db P fn r ⟨tml,H g1⟩):GR P (.seq (.seq (.region m e false) (.block id (.rangeFunc (.tmp q) Y asg bd))) tail) (nw P fn r) s:=fun w0 X a w K hr=>by
 obtain⟨z,h1,k1,k2,k3,k4,k5,k6⟩:=aO P (y.map ar.a) ow e _ 0 s _ h;obtain⟨o,ho,hg,V,C,G⟩:=hm;have U:(e.toList.take (e.size-1)).length=e.size-1:=by rw[age];simp
 refine wp_seq (wp_seq ((wpIn_wide (n:=0)).1 (wpIn_region (F:=FW none) ?_)));rw[show e.size=(e.toList.take (e.size-1)).length+1 by omega,afi,<- afk,afm];refine Ge (e.toList.take (e.size-1)) 0 s z a w (fun j o v=>?_) h1 hr fun p w' r'=>?_
 ·rw[ag3]at v;split at v
  ·simpa using v
  cases v
 rw[U,afj,wpOpsIn_cons];unfold wpOpIn;rw[ho];simp only;rw[if_pos (by simp[Region.wanted,hg])];refine⟨fun _ _=>trivial,?_⟩;rw[show Oper.semAt (FW none).round p.eval o=execOp p.eval o from rfl];have A:(execOp p.eval o).run P w'= .ok (.value (.func (.func f) #[p.eval (.tmp k)] #[])) w':=by
  unfold execOp;rw[V];simp only;refine gA ?_;simp[Instr.makeFunc,afC]
 rw[A];show(Code.block id (.rangeFunc (.tmp q) Y asg bd)).wp P (Exit.then (tail.wp P (nw P fn r w0 X)) (nw P fn r w0 X)) (p.put o.dst (.func (.func f) #[p.eval (.tmp k)] #[])) w';rw[C];obtain⟨n1,J,ρ,E,W⟩:=r';have r2:dP w0 (fun _=>False) X (z.put (some q) (.one .junk)) (p.put (some q) (.func (.func f) #[p.eval (.tmp k)] #[])) w':=fF n1 J E W trivial;have T:q<p.tmps.size:=Nat.lt_of_lt_of_eq k2 J.symm;have M:(p.put (some q) (.func (.func f) #[p.eval (.tmp k)] #[])).eval (.tmp k)=p.eval (.tmp k):=by
  show(p.tmps.setIfInBounds q _).getD k undef=p.tmps.getD k undef;rw[agi,agi,agU G]
 refine wp_block ?_;refine XS (fs:= #[p.eval (.tmp k)]) (targs:=[.one (.ptr 0 ap.1 ap.2.1 ap.2.2)]) r2 K (by show(p.tmps.setIfInBounds q _)[q]?=_;rw[Array.getElem?_setIfInBounds_self_of_lt T]) rfl (fun j t v=>?_) N (by rw[js];exact k3) (by rw[js];exact k4) Q ⟨by simpa[AS.put] using k5,k6⟩ L (fun R ρ S e1 e2 e3=>B R ρ S e1 e2 e3) (fun Z D w3 u=>?_)
 ·cases j with
  |succ j=>simp at v
  |zero=>
   simp at v;subst v;refine⟨_,rfl,.tmp k,?_,M⟩;show(z.tmps.set q _)[k]?=_;rw[afB G];exact k1
 have:=hQ Z [{target:= .collected D,args:= #[]}];cases v:jump g1 with
 |none=>
  rw[v]at this;exact WU K u this
 |some c=>
  rw[v]at this;obtain⟨rfl,I⟩:=this;exact wp_ret (Ek K u u.rel I (.inr rfl))
end
end
end Go.Proofs.YtalmoejhjceflaaGreat
