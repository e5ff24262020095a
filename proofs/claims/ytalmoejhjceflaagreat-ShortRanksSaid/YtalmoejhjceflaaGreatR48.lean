/-
  Part 49 of a proof (walks and plain facts).
-/
import Derived.Test.YtalmoejhjceflaaGreatR47
set_option linter.all false
set_option maxRecDepth 100000
set_option maxHeartbeats 64000000
namespace Go.Proofs.YtalmoejhjceflaaGreat
open Go.RowKit Go.Proofs.Tryz
section
section
variable {M:List (List Int)} {n:Nat} {f:FF} {B k:Int}
theorem Xq (c:0<dk f 1) (b:0<=B):ED f 1 B=(rng 1 (isqF (B/dk f 1))).flatMap (O5 (dk f 1) B false):=by
 obtain⟨l1,e⟩:=w7 (f:=f) c b;have g:=(eF (abH b (abT c))).1;unfold ED;simp only[show 1-1=0 from rfl,yh,if_true,e];grind [gR,List.map_congr_left,oD,O5]
theorem Xk {F:Nat->Int} {i m:Nat} (h:i<=m) (b: ∀a,a<m->0<=F a):smF F i<=smF F m:=by
 induction m with
 |zero=>grind
 |succ m c=>
  grind [smF]
theorem Vn (j:oS n f B): ∀(k:Nat) (y:List Int) (z:Bool),y.length+(k+1)=n->o8 y->gM f n B (k+1) (aY n y)->(z=true-> ∀x∈y,x=0)->(yh f n B false k y z).length<=(gE f n B (k+1) y).length
 |0,y,z,h,q,g,o=>by
  have m:=fun e=>oB j h g (o e)
  rw[ou];simp only[yh,ad7];have b:eB f n B 0 (aY n y)<=(if z=true then 0 else eB f n B 0 (aY n y)):=by
   grind
  refine aap (uW (G:=fun c=>(gE f n B 0 (c::y)).length) _ fun c _=>?_) (JN b);show _<=1;grind
 |k+1,y,z,h,q,g,o=>by
  have m:=fun e=>oB j h g (o e)
  rw[ou];simp only[yh,ad7];have b:eB f n B (k+1) (aY n y)<=(if z=true then 0 else eB f n B (k+1) (aY n y)):=by
   grind
  refine aap (uW (G:=fun c=>(gE f n B (k+1) (c::y)).length) _ fun c r=>?_) (JN b);obtain⟨l,p⟩:=oD.1 r;have l:eB f n B (k+1) (aY n y)<=c:=by omega
  refine Vn j k (c::y) _ (by grind) (j.tcb h q g l p) (j.step h g l p).1 fun e=>?_
  grind
theorem Ql (h:Rf M n f) (b:0<=B) (e:B<=65536):(ED f n B).length<=(gE f n B n []).length:=by
 have c:=h.vs b e;have g:gM f n B n (aY n []):=kv c.r.pd b;have l:=h.n1;have:=Vn c (n-1) [] true (by simp;omega) o8.nil (by grind) (fun _ x j=>by simp at j);rwa[show n-1+1=n by omega]at this
theorem Su (h:Rf M 1 f) (b:0<=B) (u:B<=65536):CallC prog 90 [cq M,.raw (.int .i64 B),.raw (.bool false)] ⟨[],cq (ED f 1 B)⟩:=by
 have s:=(h.vs b u).d (k:=1) (aar 1);have v:dk f 1<=10000:=h.r.2.2.1;have t:dk f 1=f 0 0:=by show bk f 0 0 0=f 0 0;exact dc f 0 0
 rw[Xq s.1 b];have w:0<=B/dk f 1:=abH b (by omega);have x:B/dk f 1<=B:=acK _ b;have o:=eF w;have z:isqF (B/dk f 1)<=256:=by
  refine ab9 fun q=>?_
  have:=aa7 (show(257:Int)<=isqF (B/dk f 1) by omega) (show(257:Int)<=isqF (B/dk f 1) by omega) (by omega) (by omega);have:=o.2.1;omega
 have p:=WU (dk f 1) B false s.1 (by omega) b (by omega) (by
  grind [List.length_flatMap,O5,Ca,BK])
 have c:=h.l;have g:M[0]?=some (aN 1 (f 0)):=by rw[h.e];rfl
 have q:=aw (m:=1) (f 0) (j:=0) (by omega);have y:=aI 1 (f 0);generalize(rng 1 (isqF (B/dk f 1))).flatMap (O5 (dk f 1) B false)=E at*
 rw[t]at p;refine aA func90 rfl ntmps90 (aC (k:=ai (aL c (k:=ay rfl (mb [⟨7,_,_,_,p⟩] (aH g q) (k:=aD @results90))))))
theorem Wq (h:Rf M n f) (c:0<=B) (g:B<=65536) (j:(ED f n B).length<=1000000):CallC prog 90 [cq M,.raw (.int .i64 B),.raw (.bool false)] ⟨[],cq (ED f n B)⟩:=by
 by_cases e:n=1
 ·subst e;exact Su h c g
 have:=h.n1;rw[h.e];exact Sv (h.vs c g) (G3 h.r h.n1 h.n8 h.b) (pR h.r h.n8 h.b) false (by omega) j
abbrev vtT (l:List (List Int)) (s e:Int):TV:= .tup [(false,[.p (.sl (ls (fR fI) l))]),(false,[.p (.raw (.int .i64 s))]),(false,[.p (.raw (.int .i64 e))])]
abbrev vtE (e:Int):TV:= .tup [(false,[.p (.raw (.slice none 0 0))]),(false,[.p (.raw (.int .i64 0))]),(false,[.p (.raw (.int .i64 e))])]
theorem VM (h:Rf M n f) (g:0<=B) (o:B<=65536) (S:0<=k) (E:k<=1000000) (N:(toL f n B (n-1) []:Int)<=k):
  CallC prog 37 [cq M,.raw (.int .i64 B),.raw (.int .i64 k)] ⟨[],if 8194<(gE f n B n []).length then vtE 7 else vtT ((Cr f n B).map Prod.snd) (toL f n B (n-1) []) 0⟩:=by
 obtain⟨L,K,t,j,u,x⟩:=(EF h g o S E).1 N;have q:=D4 M B k;rw[K]at q;have T:=h.n1;have U:=h.n8;have l:=Gj (f:=f) (n:=n) (B:=B) (n-1) [];rw[show n-1+1=n by omega]at l;have P:=Ql h g o;have s: ∀i,i<n->L[i]?=some (L.getD i 0):=fun i C=>by grind
 have p:=Tt L ((gE f n B n []).length:Int) (by omega) (by omega) (by grind) (by omega) (by omega);have X:1<=(gE f n B n []).length:=by
  have H:List.replicate n (0:Int)∈gE f n B n []:=(N2 h.r g _).2 ⟨by simp,by
   grind [qU,uv]⟩
  grind
 have W:Int.tdiv (((gE f n B n []).length:Int)-1) 2=(((gE f n B n []).length:Int)-1)/2:=abK (by omega);rw[W]at p;have A:=Wq h g o;have m:=ZV h g o;have b:=Tr M (ED f n B);rw[m.1,m.2]at b;have I: ∀i,i<n->sL i L+L.getD i 0=sL (i+1) L:=fun _ _=>rfl
 have y: ∀i,i<=n->0<=sL i L/\sL i L<=1000000:=fun i C=>by
  refine⟨xS i fun a O=>j a (by omega),?_⟩;have:=Xk (F:=fun i=>L.getD i 0) C fun a O=>j a O
  grind [sL]
 have J:sL 0 L=0:=rfl;rw[<- u]at N⊢;generalize(gE f n B n []).length=z at*
 generalize ED f n B=Q at*
 generalize(Cr f n B).map Prod.snd=V at*
 clear K x;by_cases c:8194<z
 ·rw[if_pos c];have e:(4096<((z:Int)-1)/2)=True:=eq_true (by omega);refine aA func37 rfl ntmps37 (aC (k:=bK [⟨3,_,_,_,q⟩] (k:=ai (ar (k:=aq rfl (ak (ai (cO [⟨1,_,_,_,p⟩] e (k:=ay rfl (bC (k:=aD @results37)))))))))))
 rw[if_neg c];have e:(4096<((z:Int)-1)/2)=False:=eq_false (by omega);have R:=A (by omega);have b:=b (by omega);refine aA func37 rfl ntmps37 (aC (k:=bK [⟨3,_,_,_,q⟩] (k:=ai (ar (k:=aq rfl (ak (ai (im [⟨1,_,_,_,p⟩] e (k:=aq rfl (ak (bC (k:=ai (f9 t (k:=?_))))))))))))));refine aB (G:=jx n) (fun v=>⟨(cq M::.raw (.int .i64 B)::j4 (j4 (jk::.raw (.int .i64 (sL v.i L))::j16 (jk::mY L::rN n::rN v.i::j16 (jk::[]))))),Hm []⟩) (fun v=>n-v.i) ⟨0,by omega⟩ ?_ ?_
 ·refine aj trivial ?_;simp[wk,J]
 rintro⟨i,C⟩;simp only;by_cases H:i<n
 ·have w:=s i H;have Y:=I i H;have Z:=y (i+1) (by omega);refine ar (k:=be rfl (ai (am (aL w (k:=eK Y (k:=bS (k:=?_)))))));refine⟨⟨i+1,by omega⟩,by grind,aj trivial ?_⟩;simp[wk]
 have D:i=n:=by omega
 subst D;refine ar (k:=bv rfl (im [⟨3,_,_,_,R⟩,⟨4,_,_,_,b⟩] @WI.eq_1 (k:=bC (k:=aD @results37))))
end
end
section
section
variable {M:List (List Int)} {n:Nat} {f:FF} {B k:Int}
def yu (n:Nat) (f:FF):Int:=GI (aN n fun i=>f i i) (n-1)
theorem O4 (L:List Int): ∀i j,j<=i->GI L i<=L.getD j 0
 |0,j,h=>by rw[show j=0 by omega];exact acA _
 |i+1,j,h=>by
  show(if L.getD (i+1) 0<GI L i then L.getD (i+1) 0 else GI L i)<=_;by_cases e:j=i+1
  ·grind
  have:=O4 L i j (by omega);omega
theorem O3 (L:List Int): ∀i,∃j,j<=i/\GI L i=L.getD j 0
 |0=>⟨0,aar 0,rfl⟩
 |i+1=>by
  obtain⟨j,b,c⟩:=O3 L i;grind [GI]
theorem IM {i:Nat} (b:i<n):(aN n fun i=>f i i).getD i 0=f i i:=by
 grind [aw]
theorem YT (c:1<=n): ∀i,i<n->yu n f<=f i i:=fun i b=>by
 have:=O4 (aN n fun i=>f i i) (n-1) i (by omega);rwa[IM b]at this
theorem U9 (c:1<=n): ∃i,i<n/\yu n f=f i i:=by
 obtain⟨j,e,b⟩:=O3 (aN n fun i=>f i i) (n-1);exact⟨j,by omega,by rw[<- IM (n:=n) (f:=f) (i:=j) (by omega)];exact b⟩
theorem OW (h:Rf M n f):0<yu n f/\yu n f<=65536:=by
 have b:=h.n1;obtain⟨i,g,e⟩:=U9 (f:=f) b;have l:=(h.vs (B:=0) (by omega) (by omega)).d (k:=1) b;have j:dk f 1=f 0 0:=by show bk f 0 0 0=f 0 0;exact dc f 0 0
 have:=YT (f:=f) b 0 (by omega);refine⟨?_,by omega⟩;rw[e];have c:=h.r.pd.diag g;exact c
def XL (n i:Nat):List Int:=aN n (eC i)
theorem XM {i:Nat} (b:i<n):gm (XL n i)=1:=by
 have e:XL n i=List.replicate i 0++1::List.replicate (n-i-1) 0:=by
  apply aaC;intro j;by_cases c:j<n
  ·grind [XL,eC,aw]
  grind [XL,aI]
 grind [Qe]
theorem Zd {i:Nat} (b:i<n):li n f (XL n i)=f i i:=by
 rw[qU,<- Ye (f:=f) b b];refine jW (fun _ _ _ _=>rfl) (fun j c=>?_) (fun j c=>?_)<;>
 ·grind [XL,aw]
theorem Ze (h:Rf M n f):0<(Cr f n (yu n f)).length:=by
 obtain⟨i,b,e⟩:=U9 (f:=f) h.n1;have c:=OW h;exact List.length_pos_of_mem ((Rg h (by omega) (by omega) (f i i,XL n i)).2 ⟨aI _ _,(Zd b).symm,by omega,XM b⟩)
theorem XP (h:Rf M n f) (b:0<=B) (c:B<=65536):(Cr f n B).length<=(gE f n B n []).length:=by
 grind [DA,Ql,Cr,ji]
def ZX (b:List (Int×List Int)):List (Int×List Int):=b.takeWhile fun p=>p.1==(b.getD 0 (0,[])).1
theorem Vr (v:Int): ∀(b:List (Int×List Int)) (i:Nat) p,b[i]?=some p->(i<(b.takeWhile fun p=>p.1==v).length->p.1=v)/\(i=(b.takeWhile fun p=>p.1==v).length->p.1≠v)
 |[],i,p,h=>by simp at h
 |q::b,i,p,h=>by
  by_cases e:q.1=v
  ·rw[ado (by simp[e])];cases i with
   |zero=>grind
   |succ i=>
    have:=Vr v b i p (by grind);grind
  grind [List.takeWhile_cons_of_neg]
theorem JU (p:(Int×List Int)->Bool): ∀b:List (Int×List Int),b.take (b.takeWhile p).length=b.takeWhile p
 |[]=>rfl
 |q::b=>by
  by_cases e:p q=true
  ·rw[ado e,aaP,abF,JU p b]
  simp_all
abbrev ZR (v:Int) (l:List (List Int)) (e:Int):TV:= .tup [(false,[.p (.raw (.int .i64 v))]),(false,[.p (.sl (ls (fR fI) l))]),(false,[.p (.raw (.int .i64 e))])]
structure MiG (m:Nat) where
 i:Nat
 h1:1<=i
 h2:i<=m
theorem VH (h:Rf M n f) (U:(gE f n (yu n f) n []).length<=8194) (Y:CallC prog 37 [cq M,.raw (.int .i64 (yu n f)),.raw (.int .i64 k)] ⟨[],vtT ((Cr f n (yu n f)).map Prod.snd) B 0⟩):
  CallC prog 15 [cq M,.raw (.int .i64 k)] ⟨[],ZR ((Cr f n (yu n f)).getD 0 (0,[])).1 ((ZX (Cr f n (yu n f))).map Prod.snd) 0⟩:=by
 have R:=OW h;have P:=fb M;rw[h.red]at P;have O:=Wv n f h.n1 (by have:=h.n8;omega);rw[<- h.e]at O;have Q:=YU (aN n fun i=>f i i) (by rw[aI];exact h.n1) (by rw[aI];have:=h.n8;omega);rw[aI,show GI (aN n fun i=>f i i) (n-1)=yu n f from rfl]at Q;have y:=Ze h;have o: ∀i (p:Int×List Int),(Cr f n (yu n f))[i]?=some p->CallC prog 40 [cq M,mY p.2] ⟨[],.raw (.int .i64 p.1)⟩:=fun i p s=>by
  obtain⟨N,W,a3,_⟩:=(Rg h (by omega) (by omega) p).1 (aai s);have hP:gM f n (yu n f) 0 (aY n p.2):=by
   rw[qb,show aY n p.2=fun i=>p.2.getD i 0 from funext fun i=>rQ N i,<- qU];omega
  rw[W,h.e];exact(Pg h.r h.n8 h.b (by omega) R.2 N hP).1
 have S:(Cr f n (yu n f)).length<=8194:=aap (XP h (by omega) R.2) U;clear U;unfold ZX;generalize Cr f n (yu n f)=g at*
 generalize yu n f=B0 at*
 obtain⟨j,z⟩: ∃j,g[0]?=some j:=⟨g[0],by simp[y]⟩;have Z:g.getD 0 (0,[])=j:=by grind
 rw[Z];have A:=fun(i:Nat) (p:Int×List Int)=>Vr j.1 g i p
 have L:=JU (fun p=>p.1==j.1) g;have K:(g.takeWhile fun p=>p.1==j.1).length<=g.length:=by
  grind
 have J:1<=(g.takeWhile fun p=>p.1==j.1).length:=by
  grind
 rw[<- L];generalize(g.takeWhile fun p=>p.1==j.1).length=m at*
 rw[List.map_take];have D: ∀(i:Nat) (p:Int×List Int),g[i]?=some p->(g.map Prod.snd)[i]?=some p.2:=fun i p s=>by grind
 have E:=D 0 j z;have l:(g.map Prod.snd).length=g.length:=by simp
 have w: ∀i,i<g.length-> ∃p:Int×List Int,g[i]?=some p:=fun i hi=>⟨g[i],by simp[hi]⟩
 have X:=o 0 j z;have T:0<g.length:=y;generalize aa:g.map Prod.snd=V at*
 refine aA func15 rfl ntmps15 (aC (k:=ai (bK [⟨1,_,_,_,P⟩] (k:=aq rfl (ak (bK [⟨2,_,_,_,O⟩,⟨3,_,_,_,Q⟩,⟨5,_,_,_,Y⟩] (k:=ai (ar (k:=aq rfl (ak (cO [⟨4,_,_,_,X⟩] E (k:=bC (k:=ai ?_)))))))))))));refine aB (G:=MiG m) (fun v=>⟨(cq M::j4 (jk::jk::cq V::jk::jk::.raw (.int .i64 j.1)::rN v.i::j16 (j16 (j4 (j4 (jk::[])))))),Hm []⟩) (fun v=>m-v.i) ⟨1,aar 1,J⟩ ?_ ?_
 ·refine aj trivial ?_;simp[wk]
 rintro⟨i,ab,ac⟩;simp only;by_cases H:i<m
 ·have u:i<g.length:=by omega
  obtain⟨p,s⟩:=w i u;have t:=D i p s;have C:=o i p s;have F:(p.1=j.1)=True:=eq_true ((A i p s).1 H);refine ai (cO [⟨10,_,_,_,C⟩] (aH l (aH t F)) (k:=ay rfl (ak (am (bS (k:=?_))))));refine⟨⟨i+1,by omega,by omega⟩,by grind,aj trivial ?_⟩;simp[wk]
 obtain rfl:i=m:=by omega
 have x:(i<=g.length)=True:=eq_true K;have q:(∀c∈ls (fR fI) V,c.length=1)=True:=sO (f:=fR fI) (fun _=>rfl) V;by_cases u:i<g.length
 ·obtain⟨p,s⟩:=w i u;have t:=D i p s;have C:=o i p s;have F:(p.1=j.1)=False:=eq_false ((A i p s).2 rfl);refine ai (cO [⟨10,_,_,_,C⟩] (aH l (aH t F)) (k:=aq rfl (aZ (iu (aH @aaW (aH l (aH x q))) (k:=aD @results15)))))
 have I:((i:Int)<(g.length:Int))=False:=eq_false (by omega);refine ai (aL (aH l I) (k:=aq rfl (aZ (iu (aH @aaW (aH l (aH x q))) (k:=aD @results15)))))
end
end
/-! The same by computable functions. -/
def Rx (a:Nat):Nat->Nat
 |0=>0
 |m+1=>if(m+1)*(m+1)<=a then m+1 else Rx a m
theorem DG (a:Nat): ∀m,a<(m+1)*(m+1)->Rx a m*Rx a m<=a/\a<(Rx a m+1)*(Rx a m+1)
 |0,h=>⟨by simp[Rx],by grind⟩
 |m+1,h=>by
  unfold Rx;split
  ·omega
  exact DG a m (by omega)
theorem U6 (a:Int):isqF a=(Rx a.toNat a.toNat:Int):=by
 by_cases c:0<=a
 ·have b:a.toNat<(a.toNat+1)*(a.toNat+1):=aaA (adK _) (abz _ (Nat.succ_pos _));obtain⟨e,f⟩:=DG a.toNat a.toNat b;refine ME.uniq (eF c) ⟨by omega,?_,?_⟩
  ·omega
  grind
 have:a.toNat=0:=by omega
 rw[this];show isqF a=0;unfold isqF;rw[dif_neg];rintro⟨r,b,g,h⟩;have:=aaS b b;omega
def U7 (f:FF) (n:Nat) (B:Int) (k:Nat) (y:List Int):Int:= -(((Rx (mK f n B k (aY n y)).toNat (mK f n B k (aY n y)).toNat:Int)+uS f n k (aY n y))/dk f (k+1))
def U5 (f:FF) (n:Nat) (B:Int) (k:Nat) (y:List Int):Int:=((Rx (mK f n B k (aY n y)).toNat (mK f n B k (aY n y)).toNat:Int)-uS f n k (aY n y))/dk f (k+1)
theorem OM (f:FF) (n:Nat) (B:Int) (k:Nat) (y:List Int):eB f n B k (aY n y)=U7 f n B k y:=by unfold eB U7;rw[U6]
theorem Ok (f:FF) (n:Nat) (B:Int) (k:Nat) (y:List Int):fC f n B k (aY n y)=U5 f n B k y:=by unfold fC U5;rw[U6]
def ZO (f:FF) (n:Nat) (B:Int):Nat->List Int->List (List Int)
 |0,y=>[y]
 |k+1,y=>(rng (U7 f n B k y) (U5 f n B k y)).flatMap fun c=>ZO f n B k (c::y)
theorem WC (f:FF) (n:Nat) (B:Int): ∀k y,gE f n B k y=ZO f n B k y
 |0,y=>rfl
 |k+1,y=>by
  unfold gE ZO;rw[OM,Ok]
  congr 1
  funext c;exact WC f n B k (c::y)
def Zs (f:FF) (n:Nat) (B:Int):Nat->List Int->Nat
 |0,y=>(rng (U7 f n B 0 y) (U5 f n B 0 y)).length
 |k+1,y=>(rng (U7 f n B (k+1) y) (U5 f n B (k+1) y)).length+((rng (U7 f n B (k+1) y) (U5 f n B (k+1) y)).map fun c=>Zs f n B k (c::y)).sum
theorem XI (f:FF) (n:Nat) (B:Int): ∀k y,toL f n B k y=Zs f n B k y
 |0,y=>by unfold toL Zs;rw[OM,Ok]
 |k+1,y=>by
  unfold toL Zs;rw[OM,Ok]
  congr 3
  funext c;exact XI f n B k (c::y)
def Zq (f:FF) (n:Nat) (B:Int):Nat->List Int->Bool->List (List Int)
 |0,y,z=>(rng (if z=true then 0 else U7 f n B 0 y) (U5 f n B 0 y)).flatMap fun c=>if(z&&decide (c=0))=true then[]else[c::y]
 |k+1,y,z=>(rng (if z=true then 0 else U7 f n B (k+1) y) (U5 f n B (k+1) y)).flatMap fun c=>Zq f n B k (c::y) (z&&decide (c=0))
theorem Y7 (f:FF) (n:Nat) (B:Int): ∀k y z,yh f n B false k y z=Zq f n B k y z
 |0,y,z=>by
  grind [yh,Zq,OM,Ok]
 |k+1,y,z=>by
  unfold yh Zq;rw[OM,Ok]
  congr 1
  funext c;exact Y7 f n B k (c::y) _
abbrev UW:List (List Int):=[[2,1],[1,2]]
abbrev XZ:List (List Int):=[[1,0],[0,1]]
theorem YD:Rf UW 2 (ent UW):=Jy (M:=UW) (by decide+kernel)
theorem YC:Rf XZ 2 (ent XZ):=Jy (M:=XZ) (by decide+kernel)
theorem Nt:yu 2 (ent UW)=2:=by rfl
theorem V8:toL (ent UW) 2 2 1 []=10:=by rw[XI];rfl
theorem V4:(gE (ent UW) 2 2 2 []).length=7:=by rw[WC];rfl
theorem YF:Cr (ent UW) 2 2=[(2,[0,1]),(2,[1,-1]),(2,[1,0])]:=by
 unfold Cr ED;rw[Y7];rfl
theorem V7:toL (ent XZ) 2 5 1 []<=100:=by rw[XI];decide+kernel
theorem YE:Zr (ent XZ) 2 5=[1,4,4,0,4,8]:=by
 unfold Zr;rw[WC];rfl
theorem RJ {M:List (List Int)} {n:Nat} {f:FF} {k:Int} (h:Rf M n f) (g:0<=k) (b:k<=1000000) (c:(toL f n (yu n f) (n-1) []:Int)<=k) (j:(gE f n (yu n f) n []).length<=8194):
  CallC prog 15 [cq M,.raw (.int .i64 k)] ⟨[],ZR ((Cr f n (yu n f)).getD 0 (0,[])).1 ((ZX (Cr f n (yu n f))).map Prod.snd) 0⟩:=by
 have e:=OW h;grind [VM,VH]
theorem V5:CallC prog 15 [cq UW,.raw (.int .i64 100)] ⟨[],ZR 2 [[0,1],[1,-1],[1,0]] 0⟩:=by
 have h:=RJ YD (k:=100) (by omega) (by omega) (by grind [Nt,V8]) (by rw[Nt,V4];decide);rw[Nt,YF]at h;exact h
theorem V6:CallC prog 19 [cq XZ,.raw (.int .i64 5),.raw (.int .i64 100)] ⟨[],.tup [(false,[.p (.sl (ls fI [1,4,4,0,4,8]))]),(false,[.p (.raw (.int .i64 0))])]⟩:=by
 have h:=MT YC 5 (by omega) (k:=100) (by omega) (by omega) (by
  grind [V7])
 grind [YE]
abbrev pI (z:Int):PV:= .raw (.int .i64 z)
theorem Ku:CallC prog 18 [] ⟨[],.raw (.bool true)⟩:=by
 have c:CallC prog 15 [.one (.p (.sl [[.sl [[pI 2],[pI 1]]],[.sl [[pI 1],[pI 2]]]])),.raw (.int .i64 100)] ⟨[],.tup [(false,[.p (pI 2)]),(false,[.p (.sl [[.sl [[pI 0],[pI 1]]],[.sl [[pI 1],[pI (-1)]]],[.sl [[pI 1],[pI 0]]]])]),(false,[.p (pI 0)])]⟩:=V5;have f:CallC prog 19 [.one (.p (.sl [[.sl [[pI 1],[pI 0]]],[.sl [[pI 0],[pI 1]]]])),.raw (.int .i64 5),.raw (.int .i64 100)] ⟨[],.tup [(false,[.p (.sl [[pI 1],[pI 4],[pI 4],[pI 0],[pI 4],[pI 8]])]),(false,[.p (pI 0)])]⟩:=V6;have e:CallC prog 17 [.one (.p (.sl [[.sl [[pI 0],[pI 1]]],[.sl [[pI 1],[pI (-1)]]],[.sl [[pI 1],[pI 0]]]])),.one (.p (.sl [[.sl [[pI 0],[pI 1]]],[.sl [[pI 1],[pI (-1)]]],[.sl [[pI 1],[pI 0]]]]))] ⟨[],.raw (.bool true)⟩:=by
  have:=Xd [[0,1],[1,-1],[1,0]] [[0,1],[1,-1],[1,0]];rw[decide_eq_true rfl]at this;exact this
 have b:CallC prog 21 [.one (.p (.sl [[pI 1],[pI 4],[pI 4],[pI 0],[pI 4],[pI 8]])),.one (.p (.sl [[pI 1],[pI 4],[pI 4],[pI 0],[pI 4],[pI 8]]))] ⟨[],.raw (.int .i64 0)⟩:=by
  have:=G0 [1,4,4,0,4,8] [1,4,4,0,4,8];rw[jM]at this;exact this
 refine aA func18 rfl ntmps18 (aC (k:=cO [⟨3,_,_,_,c⟩] @pI.eq_1 (k:=cO [⟨3,_,_,_,f⟩] @pI.eq_1 (k:=cO [⟨16,_,_,_,e⟩,⟨21,_,_,_,b⟩] @pI.eq_1 (k:=aD @results18)))))
theorem GC (j e:Nat) (L B:List Int) (b h l:List (List Int)) (H:I8 L) (o:j<=255) (m:e<=255) (q: ∀c∈b,I8 c) (J:MI h) (W:b.length<=9223372036854775807) (X:h.length<=9223372036854775807) (Y:l.length<=9223372036854775807):
  CallC prog 8 [tL j e L B,Ev b,cq h,cq l] ⟨[],.raw (.bool true)⟩:=by
 have p:=Ku;by_cases S:8<b.length\/20<h.length\/20<l.length
 ·refine aA func8 rfl ntmps8 (pf (aH @tL.eq_1 @Ev.eq_1) (k:=?_));by_cases E:8<b.length
  ·refine ai (ar (k:=ay rfl (bK [⟨0,_,_,_,p⟩] (k:=aD @results8))))
  by_cases F:20<h.length
  ·refine ai (ar (k:=ay rfl (bK [⟨0,_,_,_,p⟩] (k:=aD @results8))))
  have x:20<l.length:=by omega
  refine ai (ar (k:=ay rfl (bK [⟨0,_,_,_,p⟩] (k:=aD @results8))))
 have E:b.length<=8:=by omega
 have F:h.length<=20:=by omega
 have x:l.length<=20:=by omega
 obtain⟨n,O⟩: ∃n,n=1+j%4:=⟨_,rfl⟩;obtain⟨f,P,cF⟩:=VA j e L B 4 n H o m (by omega) (by omega) O;rw[show((4:Nat):Int)=4 from rfl]at cF;have I:=VG (by omega) (by omega) P;have u:=aT n n f;generalize mat n n f=M at*
 obtain⟨k,N⟩: ∃k,k=b.length:=⟨_,rfl⟩;have t:=N.symm;have v:=J4 n b (show k<=b.length by omega);have z:=Js M (Ra n b k) (by omega);have A:=zS M (Ra n b k) I (by omega);have C:=Js h l (by omega);have D:=zS h l J x;refine aA func8 rfl ntmps8 (pf (aH @tL.eq_1 @Ev.eq_1) (k:=ai (ar (k:=aq rfl (ak (im [⟨1,_,_,_,cF⟩] @tL.eq_1 (k:=bC (k:=ai (f9 t (k:=?_))))))))));refine aB (G:=jx k) (fun g=>⟨(jk::jk::cq h::cq l::j4 (jk::cq M::.one (.sl 49 0 0 g.i)::j16 (j4 (j4 (jk::jk::Ev b::rN k::rN g.i::j16 (j16 (j16 (j4 (j4 ([])))))))))),Hm [(49,[⟨35,1,lc (fR fI) (Ra n b g.i)⟩])]⟩) (fun g=>k-g.i) ⟨0,by omega⟩ ?_ ?_
 ·refine(dZ (k:=10) (d:=49) 35 1 (by omega) rfl rfl).trans (aj ⟨rfl,trivial⟩ ?_);simp[wk]
 rintro⟨i,T⟩;simp only;by_cases U:i<k
 ·obtain⟨c,r⟩:=getElem?_of_lt (show i<b.length by omega);have y:=MV c n (q c (aai r)) (by omega);have w:=J4 n b (show i<=b.length by omega);refine aL @Ev.eq_1 (k:=be rfl (ai (am (aL r (k:=?_)))));refine yG 5 [⟨4,_,_,_,y⟩] [] (by simp[wk]) (by decide) fun _ K=>?_;simp only[kd,Zp,Nat.reduceAdd,u,Nat.reduceEqDiff];apply K
  refine⟨⟨(jk::jk::cq h::cq l::j4 (jk::cq M::j16 (j4 (j4 (jk::jk::jk::Ev b::rN k::rN i::jk::jk::jk::.one (.sl 49 0 0 i)::jk::jk::jk::mY (aN n (Vs c))::j16 (j16 (j16 ([])))))))),Hm [(49,[⟨35,1,lc (fR fI) (Ra n b i)⟩])]⟩,(bD 47 (bO rfl)).trans (aj ⟨rfl,trivial⟩ ?_),by simp[wk],?_⟩
  ·simp[wk,ew,dF,ax,Hm,eY,eG,aaz,aI]
  intro _ K;simp(disch:=omega) only[kd,Zp,Nat.reduceAdd,cq,Ev,mY,Nat.reduceMul,Nat.reduceLeDiff,w,oz,Rb r];apply K;show bf _ _ _ _;refine bS (k:=?_);refine⟨⟨i+1,by omega⟩,by simp only;omega,aj ⟨?_,trivial⟩ ?_⟩
  ·rfl
  simp[wk]
 have s:i=k:=by omega
 subst s;refine aL @Ev.eq_1 (k:=bv rfl ?_);show bf _ _ _ _;refine bf.weak ((bD 49 (bO rfl)).trans (aj (tm:=(jk::jk::cq h::cq l::j4 (jk::cq M::cq (Ra n b i)::j16 (j16 (j16 (j16 (j16 (j4 (jk::[]))))))))) (l:=[]) trivial (by simp[wk,ew,dF,ax,Hm,eY,eG,aaz,v]))) ?_;generalize Ra n b i=V at*
 generalize RA M V=Q at*
 generalize RA h l=R at*
 refine bK [⟨2,_,_,_,z⟩] (k:=bK [⟨2,_,_,_,A⟩] (k:=bK [⟨2,_,_,_,C⟩] (k:=bK [⟨2,_,_,_,D⟩] (k:=bL [⟨19,_,_,_,p⟩] (k:=aD @results8)))))
theorem CallC.law {P:Program} {f:FuncId} {args:List TV} {b:Bool} (h:CallC P f args ⟨[],.raw (.bool b)⟩) {w:World} {vs:Array Value} (c:vs.size=args.length)
  (o: ∀(j:Nat) t,args[j]?=some t-> ∃v:Value,vs[j]?=some v/\t.rel (fun _ _=>none) (fun _=>[]) (fun _=>False) w v):Calls P f vs w fun e g=>e= .returned (.bool b)/\Ext w g:=
 (h.calls c o).mono fun e g ⟨v,l,⟨p,H,X,m⟩,n⟩=>⟨by rw[l,oI m],n⟩
end Go.Proofs.YtalmoejhjceflaaGreat
