/-
  Part 24 of a proof (walks and plain facts).
-/
import Derived.Test.YtalmoejhjceflaaGreatP22
set_option linter.all false
set_option maxRecDepth 100000
set_option maxHeartbeats 64000000
open List renaming replicate → ae
namespace Go.Proofs.YtalmoejhjceflaaGreat
open Go.RowKit Go.Proofs.Tryz
variable {n m:Nat} {x y:Int} {b:FF}
section
section
variable {M:List (List Int)} {n:Nat} {f:FF} {B k:Int}
theorem Uw (c:0<dk f 1) (b:0<=B):Db f 1 B=(rng 1 (isqF (B/dk f 1))).flatMap (ML (dk f 1) B false):=by
 obtain⟨l1,e⟩:=vO (f:=f) c b;have g:=(dH (Zn b (ZE c))).1;unfold Db;simp only[show 1-1=0 from rfl,wX,if_true,e];grind [gC,List.map_congr_left,l5,ML]
theorem Ut {F:Nat->Int} {i:Nat} (h:i<=n) (b: ∀a,a<n->0<=F a):dP F i<=dP F n:=by
 induction n with
 |zero=>grind
 |succ n c=>
  grind [dP]
theorem SE (j:mD n f B): ∀(k:Nat) (y:List Int) (z:Bool),y.length+(k+1)=n->oy y->fO f n B (k+1) (aR n y)->(z=true-> ∀x∈y,x=0)->(wX f n B false k y z).length<=(fm f n B (k+1) y).length
 |0,y,z,h,q,g,o=>by
  have m:=fun e=>nL j h g (o e)
  rw[nH];simp only[wX,abx];have b:dR f n B 0 (aR n y)<=(if z=true then 0 else dR f n B 0 (aR n y)):=by
   grind
  refine XQ (tS (G:=fun c=>(fm f n B 0 (c::y)).length) _ fun c _=>?_) (Hy b);show _<=1;grind
 |k+1,y,z,h,q,g,o=>by
  have m:=fun e=>nL j h g (o e)
  rw[nH];simp only[wX,abx];have b:dR f n B (k+1) (aR n y)<=(if z=true then 0 else dR f n B (k+1) (aR n y)):=by
   grind
  refine XQ (tS (G:=fun c=>(fm f n B (k+1) (c::y)).length) _ fun c r=>?_) (Hy b);obtain⟨l,p⟩:=l5.1 r;have l:dR f n B (k+1) (aR n y)<=c:=by omega
  refine SE j k (c::y) _ (by grind) (j.tcb h q g l p) (j.step h g l p).1 fun e=>?_
  grind
theorem NP (h:Rf M n f) (b:0<=B) (e:B<=65536):(Db f n B).length<=(fm f n B n []).length:=by
 have c:=h.vs b e;have g:fO f n B n (aR n []):=jl c.r.pd b;have l:=h.n1;have:=SE c (n-1) [] true (by simp;omega) oy.nil (by grind) (fun _ x j=>by simp at j);rwa[show n-1+1=n by omega]at this
theorem PE (h:Rf M 1 f) (b:0<=B) (u:B<=65536):CallC prog 90 [dq M,.raw (.int .i64 B),.raw (.bool false)] ⟨[],dq (Db f 1 B)⟩:=by
 have s:=(h.vs b u).d (k:=1) (XY 1);have v:dk f 1<=10000:=h.r.2.2.1;have t:dk f 1=f 0 0:=by show bk f 0 0 0=f 0 0;exact cK f 0 0
 rw[Uw s.1 b];have w:0<=B/dk f 1:=Zn b (by omega);have x:B/dk f 1<=B:=aal _ b;have o:=dH w;have z:isqF (B/dk f 1)<=256:=by
  refine ZQ fun q=>?_
  have:=YG (show(257:Int)<=isqF (B/dk f 1) by omega) (show(257:Int)<=isqF (B/dk f 1) by omega) (by omega) (by omega);have:=o.2.1;omega
 have p:=T4 (dk f 1) B false s.1 (by omega) b (by omega) (by
  grind [List.length_flatMap,ML,AL,tM])
 have c:=h.l;have g:M[0]?=some (aN 1 (f 0)):=by rw[h.e];rfl
 have q:=az (m:=1) (f 0) (j:=0) (by omega);have y:=aH 1 (f 0);generalize(rng 1 (isqF (B/dk f 1))).flatMap (ML (dk f 1) B false)=E at*
 rw[t]at p;refine aB func90 rfl ntmps90 (aC (k:=ai (aK c (k:=aD rfl (j1 [⟨7,_,_,_,p⟩] (aE g q) (k:=aF @results90))))))
theorem Tw (h:Rf M n f) (c:0<=B) (g:B<=65536) (j:(Db f n B).length<=1000000):CallC prog 90 [dq M,.raw (.int .i64 B),.raw (.bool false)] ⟨[],dq (Db f n B)⟩:=by
 by_cases e:n=1
 ·subst e;exact PE h c g
 have:=h.n1;rw[h.e];exact PF (h.vs c g) (Fh h.r h.n1 h.n8 h.b) (o6 h.r h.n8 h.b) false (by omega) j
abbrev W7 (l:List (List Int)) (s e:Int):TV:= .tup [(false,[.p (.sl (ls (fR fI) l))]),(false,[.p (.raw (.int .i64 s))]),(false,[.p (.raw (.int .i64 e))])]
abbrev XF (e:Int):TV:= .tup [(false,[.p (.raw (.slice none 0 0))]),(false,[.p (.raw (.int .i64 0))]),(false,[.p (.raw (.int .i64 e))])]
theorem S0 (h:Rf M n f) (g:0<=B) (o:B<=65536) (S:0<=k) (E:k<=1000000) (N:(toL f n B (n-1) []:Int)<=k):
  CallC prog 37 [dq M,.raw (.int .i64 B),.raw (.int .i64 k)] ⟨[],if 8194<(fm f n B n []).length then XF 7 else W7 ((lB f n B).map Prod.snd) (toL f n B (n-1) []) 0⟩:=by
 obtain⟨L,K,t,j,u,x⟩:=(Dd h g o S E).1 N;have q:=CM M B k;rw[K]at q;have T:=h.n1;have U:=h.n8;have l:=u6 (f:=f) (n:=n) (B:=B) (n-1) [];rw[show n-1+1=n by omega]at l;have P:=NP h g o;have s: ∀i,i<n->L[i]?=some (L.getD i 0):=fun i C=>by grind
 have p:=QC L ((fm f n B n []).length:Int) (by omega) (by omega) (by grind) (by omega) (by omega);have X:1<=(fm f n B n []).length:=by
  have H:ae n (0:Int)∈fm f n B n []:=(zE h.r g _).2 ⟨by simp,by
   grind [ld,ny]⟩
  grind
 have W:Int.tdiv (((fm f n B n []).length:Int)-1) 2=(((fm f n B n []).length:Int)-1)/2:=Zr (by omega);rw[W]at p;have A:=Tw h g o;have m:=WQ h g o;have b:=Qz M (Db f n B);rw[m.1,m.2]at b;have I: ∀i,i<n->sL i L+L.getD i 0=sL (i+1) L:=fun _ _=>rfl
 have y: ∀i,i<=n->0<=sL i L/\sL i L<=1000000:=fun i C=>by
  refine⟨wH i fun a O=>j a (by omega),?_⟩;have:=Ut (F:=fun i=>L.getD i 0) C fun a O=>j a O
  grind [sL]
 have J:sL 0 L=0:=rfl;rw[<- u]at N⊢;generalize(fm f n B n []).length=z at*
 generalize Db f n B=Q at*
 generalize(lB f n B).map Prod.snd=V at*
 clear K x;by_cases c:8194<z
 ·rw[if_pos c];have e:(4096<((z:Int)-1)/2)=True:=eq_true (by omega);refine aB func37 rfl ntmps37 (aC (k:=bQ [⟨3,_,_,_,q⟩] (k:=ai (ar (k:=ao rfl (ak (ai (ce [⟨1,_,_,_,p⟩] e (k:=aD rfl (bH (k:=aF @results37)))))))))))
 rw[if_neg c];have e:(4096<((z:Int)-1)/2)=False:=eq_false (by omega);have R:=A (by omega);have b:=b (by omega);refine aB func37 rfl ntmps37 (aC (k:=bQ [⟨3,_,_,_,q⟩] (k:=ai (ar (k:=ao rfl (ak (ai (iH [⟨1,_,_,_,p⟩] e (k:=ao rfl (ak (bH (k:=ai (f5 t (k:=?_))))))))))))));refine aG (G:=jW n) (fun v=>⟨(dq M::.raw (.int .i64 B)::j4 (j4 (jk::.raw (.int .i64 (sL v.i L))::j16 (jk::rV L::rN n::rN v.i::j16 (jk::[]))))),Hm []⟩) (fun v=>n-v.i) ⟨0,by omega⟩ ?_ ?_
 ·refine aj trivial ?_;simp[wk,J]
 rintro⟨i,C⟩;simp only;by_cases H:i<n
 ·have w:=s i H;have Y:=I i H;have Z:=y (i+1) (by omega);refine ar (k:=bA rfl (ai (am (aK w (k:=dU Y (k:=bK (k:=?_)))))));refine⟨⟨i+1,by omega⟩,by grind,aj trivial ?_⟩;simp[wk]
 have D:i=n:=by omega
 subst D;refine ar (k:=bG rfl (iH [⟨3,_,_,_,R⟩,⟨4,_,_,_,b⟩] @TQ.eq_1 (k:=bH (k:=aF @results37))))
end
end
section
variable {n:Nat}
theorem Ve {f:FF} {a:Nat} (c:a<n) (e:m<n):BF n f (eC a) (eC m)=f a m:=by
 grind [eC,n7,BF]
def l1 (y:Nat->Int):Nat->Nat
 |0=>0
 |k+1=>l1 y k+(y k).natAbs
end
section
section
variable {M:List (List Int)} {n:Nat} {f:FF} {B k:Int}
def jO (n:Nat) (f:FF):Int:=EW (aN n fun i=>f i i) (n-1)
theorem MK (L:List Int): ∀i j,j<=i->EW L i<=L.getD j 0
 |0,j,h=>by rw[show j=0 by omega];exact aaa _
 |i+1,j,h=>by
  show(if L.getD (i+1) 0<EW L i then L.getD (i+1) 0 else EW L i)<=_;by_cases e:j=i+1
  ·grind
  have:=MK L i j (by omega);omega
theorem MJ (L:List Int): ∀i,∃j,j<=i/\EW L i=L.getD j 0
 |0=>⟨0,XY 0,rfl⟩
 |i+1=>by
  obtain⟨j,b,c⟩:=MJ L i;grind [EW]
theorem Gz {i:Nat} (b:i<n):(aN n fun i=>f i i).getD i 0=f i i:=by
 grind [az]
theorem Sn (c:1<=n): ∀i,i<n->jO n f<=f i i:=fun i b=>by
 have:=MK (aN n fun i=>f i i) (n-1) i (by omega);rwa[Gz b]at this
theorem Sm (c:1<=n): ∃i,i<n/\jO n f=f i i:=by
 obtain⟨j,e,b⟩:=MJ (aN n fun i=>f i i) (n-1);exact⟨j,by omega,by rw[<- Gz (n:=n) (f:=f) (i:=j) (by omega)];exact b⟩
theorem MS (h:Rf M n f) {z:List Int} (p:z.length=n) (l:eB z≠0):0<jh n f z:=by
 have b:=h.r.pd;rw[ld];have g:=(gE b.1 b.2 (fun i=>z.getD i 0) n 0 (by omega));have e:BF n (bk f 0) (fun i=>z.getD i 0) (fun i=>z.getD i 0)=BF n f (fun i=>z.getD i 0) (fun i=>z.getD i 0):=iF (fun i j _ _=>cK f i j) (fun _ _=>rfl) (fun _ _=>rfl);rw[e]at g;refine Int.lt_iff_le_and_ne.2 ⟨g.1,fun m=>l (rT.2 fun c o=>?_)⟩;grind [List.mem_iff_getElem?]
theorem vC (h:Rf M n f):0<jO n f/\jO n f<=65536:=by
 have b:=h.n1;obtain⟨i,g,e⟩:=Sm (f:=f) b;have l:=(h.vs (B:=0) (by omega) (by omega)).d (k:=1) b;have j:dk f 1=f 0 0:=by show bk f 0 0 0=f 0 0;exact cK f 0 0
 have:=Sn (f:=f) b 0 (by omega);refine⟨?_,by omega⟩;rw[e];have c:=h.r.pd.diag g;exact c
def UU (n i:Nat):List Int:=aN n (eC i)
theorem UV {i:Nat} (b:i<n):eB (UU n i)=1:=by
 have e:UU n i=ae i 0++1::ae (n-i-1) 0:=by
  apply X7;intro j;by_cases c:j<n
  ·grind [UU,eC,az]
  grind [UU,aH]
 grind [NI]
theorem Wb {i:Nat} (b:i<n):jh n f (UU n i)=f i i:=by
 rw[ld,<- Ve (f:=f) b b];refine iF (fun _ _ _ _=>rfl) (fun j c=>?_) (fun j c=>?_)<;>
 ·grind [UU,az]
theorem OG (h:Rf M n f):0<(lB f n (jO n f)).length:=by
 obtain⟨i,b,e⟩:=Sm (f:=f) h.n1;have c:=vC h;exact abg ((AU h (by omega) (by omega) (f i i,UU n i)).2 ⟨aH _ _,(Wb b).symm,by omega,UV b⟩)
theorem OF (h:Rf M n f) (b:0<=B) (c:B<=65536):(lB f n B).length<=(fm f n B n []).length:=by
 grind [Ci,NP,lB,i4]
def DG (b:List (Int×List Int)):List (Int×List Int):=b.takeWhile fun p=>p.1==(b.getD 0 (0,[])).1
theorem SH (v:Int): ∀(b:List (Int×List Int)) (i:Nat) p,b[i]?=some p->(i<(b.takeWhile fun p=>p.1==v).length->p.1=v)/\(i=(b.takeWhile fun p=>p.1==v).length->p.1≠v)
 |[],i,p,h=>by simp at h
 |q::b,i,p,h=>by
  by_cases e:q.1=v
  ·rw[aai (by simp[e])];cases i with
   |zero=>grind
   |succ i=>
    have:=SH v b i p (by grind);grind
  grind [List.takeWhile_cons_of_neg]
theorem H5 (p:(Int×List Int)->Bool): ∀b:List (Int×List Int),b.take (b.takeWhile p).length=b.takeWhile p
 |[]=>rfl
 |q::b=>by
  by_cases e:p q=true
  ·rw[aai e,Ym,Zk,H5 p b]
  simp_all
abbrev WM (v:Int) (l:List (List Int)) (e:Int):TV:= .tup [(false,[.p (.raw (.int .i64 v))]),(false,[.p (.sl (ls (fR fI) l))]),(false,[.p (.raw (.int .i64 e))])]
structure Xh (m:Nat) where
 i:Nat
 h1:1<=i
 h2:i<=m
theorem SX (h:Rf M n f) (U:(fm f n (jO n f) n []).length<=8194) (Y:CallC prog 37 [dq M,.raw (.int .i64 (jO n f)),.raw (.int .i64 k)] ⟨[],W7 ((lB f n (jO n f)).map Prod.snd) B 0⟩):
  CallC prog 15 [dq M,.raw (.int .i64 k)] ⟨[],WM ((lB f n (jO n f)).getD 0 (0,[])).1 ((DG (lB f n (jO n f))).map Prod.snd) 0⟩:=by
 have R:=vC h;have P:=fq M;rw[h.red]at P;have O:=TC n f h.n1 (by have:=h.n8;omega);rw[<- h.e]at O;have Q:=VP (aN n fun i=>f i i) (by rw[aH];exact h.n1) (by rw[aH];have:=h.n8;omega);rw[aH,show EW (aN n fun i=>f i i) (n-1)=jO n f from rfl]at Q;have y:=OG h;have o: ∀i (p:Int×List Int),(lB f n (jO n f))[i]?=some p->CallC prog 40 [dq M,rV p.2] ⟨[],.raw (.int .i64 p.1)⟩:=fun i p s=>by
  obtain⟨N,W,a3,_⟩:=(AU h (by omega) (by omega) p).1 (XH s);have hP:fO f n (jO n f) 0 (aR n p.2):=by
   rw[pm,show aR n p.2=fun i=>p.2.getD i 0 from funext fun i=>qJ N i,<- ld];omega
  rw[W,h.e];exact(MV h.r h.n8 h.b (by omega) R.2 N hP).1
 have S:(lB f n (jO n f)).length<=8194:=XQ (OF h (by omega) R.2) U;clear U;unfold DG;generalize lB f n (jO n f)=g at*
 generalize jO n f=B0 at*
 obtain⟨j,z⟩: ∃j,g[0]?=some j:=⟨g[0],by simp[y]⟩;have Z:g.getD 0 (0,[])=j:=by grind
 rw[Z];have A:=fun(i:Nat) (p:Int×List Int)=>SH j.1 g i p
 have L:=H5 (fun p=>p.1==j.1) g;have K:(g.takeWhile fun p=>p.1==j.1).length<=g.length:=by
  grind
 have J:1<=(g.takeWhile fun p=>p.1==j.1).length:=by
  grind
 rw[<- L];generalize(g.takeWhile fun p=>p.1==j.1).length=m at*
 rw[List.map_take];have D: ∀(i:Nat) (p:Int×List Int),g[i]?=some p->(g.map Prod.snd)[i]?=some p.2:=fun i p s=>by grind
 have E:=D 0 j z;have l:(g.map Prod.snd).length=g.length:=by simp
 have w: ∀i,i<g.length-> ∃p:Int×List Int,g[i]?=some p:=fun i hi=>⟨g[i],by simp[hi]⟩
 have X:=o 0 j z;have T:0<g.length:=y;generalize aa:g.map Prod.snd=V at*
 refine aB func15 rfl ntmps15 (aC (k:=ai (bQ [⟨1,_,_,_,P⟩] (k:=ao rfl (ak (bQ [⟨2,_,_,_,O⟩,⟨3,_,_,_,Q⟩,⟨5,_,_,_,Y⟩] (k:=ai (ar (k:=ao rfl (ak (ce [⟨4,_,_,_,X⟩] E (k:=bH (k:=ai ?_)))))))))))));refine aG (G:=Xh m) (fun v=>⟨(dq M::j4 (jk::jk::dq V::jk::jk::.raw (.int .i64 j.1)::rN v.i::j16 (j16 (j4 (j4 (jk::[])))))),Hm []⟩) (fun v=>m-v.i) ⟨1,XY 1,J⟩ ?_ ?_
 ·refine aj trivial ?_;simp[wk]
 rintro⟨i,ab,ac⟩;simp only;by_cases H:i<m
 ·have u:i<g.length:=by omega
  obtain⟨p,s⟩:=w i u;have t:=D i p s;have C:=o i p s;have F:(p.1=j.1)=True:=eq_true ((A i p s).1 H);refine ai (ce [⟨10,_,_,_,C⟩] (aE l (aE t F)) (k:=aD rfl (ak (am (bK (k:=?_))))));refine⟨⟨i+1,by omega,by omega⟩,by grind,aj trivial ?_⟩;simp[wk]
 obtain rfl:i=m:=by omega
 have x:(i<=g.length)=True:=eq_true K;have q:(∀c∈ls (fR fI) V,c.length=1)=True:=rC (f:=fR fI) (fun _=>rfl) V;by_cases u:i<g.length
 ·obtain⟨p,s⟩:=w i u;have t:=D i p s;have C:=o i p s;have F:(p.1=j.1)=False:=eq_false ((A i p s).2 rfl);refine ai (ce [⟨10,_,_,_,C⟩] (aE l (aE t F)) (k:=ao rfl (be (gQ (aE @Yt (aE l (aE x q))) (k:=aF @results15)))))
 have I:((i:Int)<(g.length:Int))=False:=eq_false (by omega);refine ai (aK (aE l I) (k:=ao rfl (be (gQ (aE @Yt (aE l (aE x q))) (k:=aF @results15)))))
end
end
/-! The same by computable functions. -/
def OS (a:Nat):Nat->Nat
 |0=>0
 |m+1=>if(m+1)*(m+1)<=a then m+1 else OS a m
theorem Co (a:Nat): ∀m,a<(m+1)*(m+1)->OS a m*OS a m<=a/\a<(OS a m+1)*(OS a m+1)
 |0,h=>⟨by simp[OS],by grind⟩
 |m+1,h=>by
  unfold OS;split
  ·omega
  exact Co a m (by omega)
theorem Sh (a:Int):isqF a=(OS a.toNat a.toNat:Int):=by
 by_cases c:0<=a
 ·have b:a.toNat<(a.toNat+1)*(a.toNat+1):=XZ (abd _) (Zf _ (Nat.succ_pos _));obtain⟨e,f⟩:=Co a.toNat a.toNat b;refine Kw.uniq (dH c) ⟨by omega,?_,?_⟩
  ·omega
  grind
 have:a.toNat=0:=by omega
 rw[this];show isqF a=0;unfold isqF;rw[dif_neg];rintro⟨r,b,g,h⟩;have:=Yj b b;omega
def Sk (f:FF) (n:Nat) (B:Int) (k:Nat) (y:List Int):Int:= -(((OS (kJ f n B k (aR n y)).toNat (kJ f n B k (aR n y)).toNat:Int)+tc f n k (aR n y))/dk f (k+1))
def Sg (f:FF) (n:Nat) (B:Int) (k:Nat) (y:List Int):Int:=((OS (kJ f n B k (aR n y)).toNat (kJ f n B k (aR n y)).toNat:Int)-tc f n k (aR n y))/dk f (k+1)
theorem Mw (f:FF) (n:Nat) (B:Int) (k:Nat) (y:List Int):dR f n B k (aR n y)=Sk f n B k y:=by unfold dR Sk;rw[Sh]
theorem L8 (f:FF) (n:Nat) (B:Int) (k:Nat) (y:List Int):eQ f n B k (aR n y)=Sg f n B k y:=by unfold eQ Sg;rw[Sh]
def WJ (f:FF) (n:Nat) (B:Int):Nat->List Int->List (List Int)
 |0,y=>[y]
 |k+1,y=>(rng (Sk f n B k y) (Sg f n B k y)).flatMap fun c=>WJ f n B k (c::y)
theorem TJ (f:FF) (n:Nat) (B:Int): ∀k y,fm f n B k y=WJ f n B k y
 |0,y=>rfl
 |k+1,y=>by
  unfold fm WJ;rw[Mw,L8]
  congr 1
  funext c;exact TJ f n B k (c::y)
def Wn (f:FF) (n:Nat) (B:Int):Nat->List Int->Nat
 |0,y=>(rng (Sk f n B 0 y) (Sg f n B 0 y)).length
 |k+1,y=>(rng (Sk f n B (k+1) y) (Sg f n B (k+1) y)).length+((rng (Sk f n B (k+1) y) (Sg f n B (k+1) y)).map fun c=>Wn f n B k (c::y)).sum
theorem UO (f:FF) (n:Nat) (B:Int): ∀k y,toL f n B k y=Wn f n B k y
 |0,y=>by unfold toL Wn;rw[Mw,L8]
 |k+1,y=>by
  unfold toL Wn;rw[Mw,L8]
  congr 3
  funext c;exact UO f n B k (c::y)
def Wm (f:FF) (n:Nat) (B:Int):Nat->List Int->Bool->List (List Int)
 |0,y,z=>(rng (if z=true then 0 else Sk f n B 0 y) (Sg f n B 0 y)).flatMap fun c=>if(z&&decide (c=0))=true then[]else[c::y]
 |k+1,y,z=>(rng (if z=true then 0 else Sk f n B (k+1) y) (Sg f n B (k+1) y)).flatMap fun c=>Wm f n B k (c::y) (z&&decide (c=0))
theorem VZ (f:FF) (n:Nat) (B:Int): ∀k y z,wX f n B false k y z=Wm f n B k y z
 |0,y,z=>by
  grind [wX,Wm,Mw,L8]
 |k+1,y,z=>by
  unfold wX Wm;rw[Mw,L8]
  congr 1
  funext c;exact VZ f n B k (c::y) _
abbrev R7:List (List Int):=[[2,1],[1,2]]
abbrev U2:List (List Int):=[[1,0],[0,1]]
theorem VB:Rf R7 2 (ent R7):=Nq (M:=R7) (by decide+kernel)
theorem VA:Rf U2 2 (ent U2):=Nq (M:=U2) (by decide+kernel)
theorem Lk:jO 2 (ent R7)=2:=by rfl
theorem Ti:toL (ent R7) 2 2 1 []=10:=by rw[UO];rfl
theorem Td:(fm (ent R7) 2 2 2 []).length=7:=by rw[TJ];rfl
theorem VD:lB (ent R7) 2 2=[(2,[0,1]),(2,[1,-1]),(2,[1,0])]:=by
 unfold lB Db;rw[VZ];rfl
theorem Tg:toL (ent U2) 2 5 1 []<=100:=by rw[UO];decide+kernel
theorem VC:V7 (ent U2) 2 5=[1,4,4,0,4,8]:=by
 unfold V7;rw[TJ];rfl
theorem Ga {M:List (List Int)} {k:Int} (h:Rf M n b) (j:0<=k) (c:k<=1000000) (e:(toL b n (jO n b) (n-1) []:Int)<=k) (l:(fm b n (jO n b) n []).length<=8194):
  CallC prog 15 [dq M,.raw (.int .i64 k)] ⟨[],WM ((lB b n (jO n b)).getD 0 (0,[])).1 ((DG (lB b n (jO n b))).map Prod.snd) 0⟩:=by
 have g:=vC h;grind [S0,SX]
theorem Te:CallC prog 15 [dq R7,.raw (.int .i64 100)] ⟨[],WM 2 [[0,1],[1,-1],[1,0]] 0⟩:=by
 have h:=Ga VB (k:=100) (by omega) (by omega) (by grind [Lk,Ti]) (by rw[Lk,Td];decide);rw[Lk,VD]at h;exact h
theorem Tf:CallC prog 19 [dq U2,.raw (.int .i64 5),.raw (.int .i64 100)] ⟨[],.tup [(false,[.p (.sl (ls fI [1,4,4,0,4,8]))]),(false,[.p (.raw (.int .i64 0))])]⟩:=by
 have h:=Bi VA 5 (by omega) (k:=100) (by omega) (by omega) (by
  grind [Tg])
 grind [VC]
abbrev pI (z:Int):PV:= .raw (.int .i64 z)
theorem Iw:CallC prog 18 [] ⟨[],.raw (.bool true)⟩:=by
 have c:CallC prog 15 [.one (.p (.sl [[.sl [[pI 2],[pI 1]]],[.sl [[pI 1],[pI 2]]]])),.raw (.int .i64 100)] ⟨[],.tup [(false,[.p (pI 2)]),(false,[.p (.sl [[.sl [[pI 0],[pI 1]]],[.sl [[pI 1],[pI (-1)]]],[.sl [[pI 1],[pI 0]]]])]),(false,[.p (pI 0)])]⟩:=Te;have f:CallC prog 19 [.one (.p (.sl [[.sl [[pI 1],[pI 0]]],[.sl [[pI 0],[pI 1]]]])),.raw (.int .i64 5),.raw (.int .i64 100)] ⟨[],.tup [(false,[.p (.sl [[pI 1],[pI 4],[pI 4],[pI 0],[pI 4],[pI 8]])]),(false,[.p (pI 0)])]⟩:=Tf;have e:CallC prog 17 [.one (.p (.sl [[.sl [[pI 0],[pI 1]]],[.sl [[pI 1],[pI (-1)]]],[.sl [[pI 1],[pI 0]]]])),.one (.p (.sl [[.sl [[pI 0],[pI 1]]],[.sl [[pI 1],[pI (-1)]]],[.sl [[pI 1],[pI 0]]]]))] ⟨[],.raw (.bool true)⟩:=by
  have:=Um [[0,1],[1,-1],[1,0]] [[0,1],[1,-1],[1,0]];rw[decide_eq_true rfl]at this;exact this
 have b:CallC prog 21 [.one (.p (.sl [[pI 1],[pI 4],[pI 4],[pI 0],[pI 4],[pI 8]])),.one (.p (.sl [[pI 1],[pI 4],[pI 4],[pI 0],[pI 4],[pI 8]]))] ⟨[],.raw (.int .i64 0)⟩:=by
  have:=Fg [1,4,4,0,4,8] [1,4,4,0,4,8];rw[jv]at this;exact this
 refine aB func18 rfl ntmps18 (aC (k:=ce [⟨3,_,_,_,c⟩] @pI.eq_1 (k:=ce [⟨3,_,_,_,f⟩] @pI.eq_1 (k:=ce [⟨16,_,_,_,e⟩,⟨21,_,_,_,b⟩] @pI.eq_1 (k:=aF @results18)))))
theorem L2 (nm:List Int->Int) (m:Int): ∀(l:List (List Int)) (g:MapS),(gF nm g l).2 m=g.2 m+((l.filter fun z=>decide (nm z=m)).length:Int)
 |[],g=>by simp[gF]
 |z::l,g=>by
  have:=L2 nm m l (m8 g (nm z) (g.2 (nm z)+1));grind [gF,m8]
section
section
variable {n:Nat} {f:FF} {B:Int}
theorem Sj (b:RedR f n) {c:Int} (j:c<=dk f 1): ∀k,k<n->c*dk f k<=((2^k:Nat):Int)*dk f (k+1)
 |0,h=>by
  grind [co]
 |k+1,h=>by
  have v:=Sj b j k (by omega);obtain⟨s,r⟩:=b.2.2.2 k h;have p:=b.2.1 k (by omega);have q:=b.2.1 (k+1) h;unfold KI at r;have u:=s (k+1) h (by omega);have o:0<dk f k:=gR fun t D=>b.2.1 t (by omega)
  generalize bk f k (k+1) k=l at*
  generalize dk f (k+1+1)=d2 at*
  generalize dk f (k+1)=d1 at*
  generalize dk f k=d0 at*
  by_cases m:c<=0
  ·have w:=Yj (show 0<= -c by omega) (show 0<=d1 by omega);have x:=Yj (abF (2^(k+1))) (show 0<=d2 by omega);grind
  have y:4*(l*l)<=d1*d1:=by
   have e:(2*l.natAbs)*(2*l.natAbs)<=d1.toNat*d1.toNat:=Yn (by omega) (by omega);grind [Int.natAbs_mul_self]
  have g:d1*d1<=2*(d0*d2):=by
   grind
  have z:c*d0*d2<=((2^k:Nat):Int)*d1*d2:=Ys v (by omega);have C:c*(d1*d1)<=c*(2*(d0*d2)):=X5 g (by omega);have A:d1*(c*d1)<=d1*(((2^(k+1):Nat):Int)*d2):=by
   have e:d1*(((2^(k+1):Nat):Int)*d2)=2*(((2^k:Nat):Int)*d1*d2):=by
    grind
   grind
  simp_all
theorem Si (b:mD n f B) {k:Nat} (w:k<n) {x:Nat->Int} (t:fO f n B (k+1) x) {W:Nat} (s:B*dk f k<=(m:Int)*dk f (k+1)) (F:4*m<W*W):(rng (dR f n B k x) (eQ f n B k x)).length<=W:=by
 have h:=b.d (k:=k+1) (by omega);have u:=b.d (k:=k) (by omega);have e:=b.sq w t;have y:=dH e.1;have G:=(gE b.r.pd.1 b.r.pd.2 x (n-(k+1)) (k+1) (by omega)).1;have H:kJ f n B k x<=(m:Int)*(dk f (k+1)*dk f (k+1)):=by
  unfold kJ;have z:dk f k*(B*dk f (k+1)-BF n (bk f (k+1)) x x)<=dk f k*(B*dk f (k+1)):=X5 (by omega) (by omega);have A:B*dk f k*dk f (k+1)<=(m:Int)*dk f (k+1)*dk f (k+1):=Ys s (by omega);grind
 rw[tM];unfold dR eQ;obtain⟨K,L,_⟩:=y;generalize isqF (kJ f n B k x)=r at*
 generalize tc f n k x=l at*
 generalize dk f (k+1)=D at*
 have I:=abi (r-l) (show D≠0 by omega);have J:=abi (r+l) (show D≠0 by omega);generalize(r-l)/D=p at*
 generalize(r+l)/D=q at*
 refine Nat.le_of_not_gt fun v=>?_
 have c:(W:Int)<=p+q:=by omega
 have j:(W:Int)*D<=(p+q)*D:=Ys c (by omega);rw[Int.add_mul]at j;have g:(W:Int)*D<=2*r:=by omega
 have E:(W:Int)*D*((W:Int)*D)<=2*r*(2*r):=YG g g (Yj (by omega) (by omega)) (by omega);have o:((W*W:Nat):Int)*(D*D)<=((4*m:Nat):Int)*(D*D):=by
  grind
 have:=Int.le_of_mul_le_mul_right o (aa1 h.1 h.1);omega
theorem NU {F:Int->Nat} {T:Nat}: ∀l:List Int,(∀c,c∈l->F c<=T)->(l.map F).sum<=l.length*T
 |[],_=>by simp
 |c::l,h=>by
  have:=NU l fun c b=>h c (by simp[b])
  grind [Nat.add_mul]
def Wo:Nat->Nat
 |0=>5
 |1=>7
 |2=>9
 |_=>13
def Wa:Nat->Nat
 |0=>5
 |k+1=>Wo (k+1)*(1+Wa k)
theorem SK {k:Nat} (h:k<=3):4*(5*2^k)<Wo k*Wo k:=by
 match k,h with
 |0,_|1,_|2,_|3,_=>decide
theorem SJ (e:mD n f B) (h: ∀k,k<n->B*dk f k<=((5*2^k:Nat):Int)*dk f (k+1)): ∀(k:Nat) (y:List Int),k<=3->y.length+(k+1)=n->fO f n B (k+1) (aR n y)->toL f n B k y<=Wa k
 |0,y,g,j,b=>Si e (by omega) b (h 0 (by omega)) (SK g)
 |k+1,y,g,j,b=>by
  have o:=Si e (by omega) b (h (k+1) (by omega)) (SK g);have q:=NU (F:=fun c=>toL f n B k (c::y)) (T:=Wa k) (rng (dR f n B (k+1) (aR n y)) (eQ f n B (k+1) (aR n y))) fun c p=>by
   obtain⟨l,m⟩:=l5.1 p;exact SJ e h k (c::y) (by omega) (by grind) (e.step j b l m).1
  show _+_<=Wo (k+1)*(1+Wa k);have r:=XX (1+Wa k) o;grind
theorem SI (b:mD n f B) (e:1<=n) (g:n<=4) (l:x<=dk f 1) (j:B<=5*x):toL f n B (n-1) []<=5044:=by
 have h:=SJ b (fun k m=>by
  have o:=Sj b.r l k m;have q:=b.d (k:=k) (by omega);have p:B*dk f k<=5*x*dk f k:=Ys j (by omega);grind) (n-1) [] (by omega) (by simp;omega) (by rw[show n-1+1=n by omega];exact jl b.r.pd b.b0)
 refine XQ h ?_
 match n,e,g with
 |1,_,_|2,_,_|3,_,_|4,_,_=>decide
/-! Lists without repetitions. -/
theorem vF {e:Type} [DecidableEq e]: ∀{a b:List e},a.Nodup->(∀x,x∈a->x∈b)->a.length<=b.length
 |[],_,_,_=>Yt _
 |x::a,b,h,c=>by
  have j:=c x (by simp);rw[List.nodup_cons]at h;have:=vF (b:=b.erase x) h.2 fun y g=>(List.mem_erase_of_ne (by grind)).2 (c y (by simp[g]))
  grind
theorem E3 {b j:Type} {g:b->j} (c: ∀x y,g x=g y->x=y) {l:List b} (h:l.Nodup):(l.map g).Nodup:=
 List.pairwise_map.2 (List.Pairwise.imp (fun h e=>h (c _ _ e)) h)
theorem Ul (a b:Int):(rng a b).Nodup:=E3 (fun _ _ e=>by omega) List.nodup_range
theorem LS: ∀(k:Nat) (y:List Int),(fm f n B k y).Nodup
 |0,y=>by simp[fm]
 |k+1,y=>by
  refine List.pairwise_flatMap.2 ⟨fun c _=>LS k (c::y),(Ul _ _).imp fun{a b} hab x hx z hz e=>?_⟩;grind [ED,List.append_inj']
theorem GL {b:Type} (p q:b->Bool): ∀l:List b,(l.filter p).length=(l.filter fun x=>p x&&q x).length+(l.filter fun x=>p x&&!q x).length
 |[]=>rfl
 |x::l=>by
  have:=GL p q l;grind
end
section
variable {M:List (List Int)} {n:Nat} {f:FF}
noncomputable def Ho (f:FF) (n b:Nat) (m s:Int):List (List Int):=(fm f n (b:Int) n []).filter fun z=>decide (jh n f z=m)&&decide (eB z=s)
theorem Hp (h:Rf M n f) (c:x<=m) (z:List Int):z∈Ho f n m x y↔z.length=n/\jh n f z=x/\eB z=y:=by
 unfold Ho;rw[aat,zE h.r (by omega)];grind
theorem ND (b:Nat) (m s:Int):(Ho f n b m s).Nodup:=(LS _ _).filter _
theorem Q5 (h:Rf M n f) (j:x<=m):(Ho f n m x y).length<=(Ho f n m x (-y)).length:=by
 have:=vF (a:=(Ho f n m x y).map fun z=>z.map fun a=> -1*a) (b:=Ho f n m x (-y)) (E3 (fun c g e=>by
  have:=congrArg (List.map fun a:Int=> -1*a) e;simpa[Function.comp_def] using this) (ND m x y)) fun c l=>by
  grind [Hp,Ad,qu]
 grind
theorem Q6 (h:Rf M n f) {b:Nat} {m:Int} (g:m<=b) (c:0<m):((fm f n (b:Int) n []).filter fun z=>decide (jh n f z=m)).length=2*(Ho f n b m 1).length:=by
 rw[GL _ fun z=>decide (eB z=1)];have e:((fm f n (b:Int) n []).filter fun z=>decide (jh n f z=m)&&!decide (eB z=1))=Ho f n b m (-1):=by
  refine ZZ fun z j=>?_
  grind [eB,ld,ny]
 grind [Q5,Ho]
theorem Un (h:Rf M n f) {b:Nat} {m B:Int} (s:m<=b) (o:0<=B) (q:B<=65536) (r:m<=B):(Ho f n b m 1).length=((lB f n B).filter fun p=>decide (p.1=m)).length:=by
 have l:((lB f n B).filter fun p=>decide (p.1=m)).Nodup:=List.Pairwise.filter _ (List.Pairwise.imp (fun h e=>by grind [lZ]) (F1 f n B));have g:((Ho f n b m 1).map fun z=>(m,z)).Nodup:=E3 (fun _ _ e=>(ab7 e).2) (ND b m 1);have c: ∀p:Int×List Int,p∈((Ho f n b m 1).map fun z=>(m,z))↔p∈(lB f n B).filter fun p=>decide (p.1=m):=fun p=>by
  grind [AU,Hp]
 have l1:=vF g fun p j=>(c p).1 j
 have t:=vF l fun p j=>(c p).2 j
 grind
theorem N2 (v:Int): ∀b:List (Int×List Int),DB b->(∀p,p∈b->v<=p.1)->(b.takeWhile fun p=>p.1==v)=b.filter fun p=>decide (p.1=v)
 |[],_,_=>rfl
 |q::b,h,j=>by
  obtain⟨l,c⟩:=Zp.1 h;by_cases e:q.1=v
  ·rw[aai (by simp[e]),List.filter_cons_of_pos (by simp[e]),N2 v b c fun p g=>j p (by simp[g])]
  grind [List.takeWhile_cons_of_neg,List.filter_eq_nil_iff,xh]
noncomputable def KA (f:FF) (n:Nat):Int:=((lB f n (jO n f)).getD 0 (0,[])).1
theorem T5 (h:Rf M n f):0<KA f n/\KA f n<=jO n f/\ ∀p,p∈lB f n (jO n f)->KA f n<=p.1:=by
 have o:=vC h;have b:=OG h;have m:=F1 f n (jO n f);have r:=fun p=>(AU h (B:=jO n f) (by omega) o.2 p).1
 unfold KA;generalize lB f n (jO n f)=e at*
 match e,b with
 |q::e,_=>
  obtain⟨g,j,l,s⟩:=r q (by simp);show 0<q.1/\q.1<=_/\ ∀p,p∈q::e->q.1<=p.1;refine⟨?_,l,fun p c=>?_⟩
  ·rw[j];exact MS h g (by omega)
  rcases Yo.1 c with rfl|c
  ·omega
  have:=(Zp.1 m).1 p c;grind [xh]
theorem V8 (h:Rf M n f):0<(DG (lB f n (jO n f))).length/\(DG (lB f n (jO n f))).length<=(lB f n (jO n f)).length:=by
 have b:=OG h;unfold DG;generalize lB f n (jO n f)=c at*
 match c,b with
 |q::c,_=>
  grind [List.takeWhile_prefix,List.takeWhile_cons_of_pos]
noncomputable def A3 (f:FF) (n b:Nat) (m:Nat):Int:=(((fm f n (b:Int) n []).filter fun z=>decide (jh n f z=(m:Int))).length:Int)
theorem UJ (f:FF) (n b:Nat):V7 f n b=aN (b+1) (A3 f n b):=ez fun m _=>by
 rw[L2];exact Int.zero_add _
theorem LC (h:Rf M n f) (b:Nat):A3 f n b 0=1:=by
 have g: ∀z,z∈((fm f n (b:Int) n []).filter fun z=>decide (jh n f z=((0:Nat):Int)))↔z=ae n 0:=fun z=>by
  rw[aat,zE h.r (by omega),decide_eq_true_eq];constructor
  ·rintro⟨⟨c,_⟩,j⟩;by_cases e:eB z=0
   ·grind [List.eq_replicate_iff,rT]
   have:=MS h c e;omega
  grind [ld,ny]
 have l1:=vF (b:=[ae n (0:Int)]) ((LS (f:=f) (n:=n) (B:=(b:Int)) n []).filter fun z=>decide (jh n f z=((0:Nat):Int))) fun z l=>by grind
 have m:=abg ((g _).2 rfl);grind [A3]
theorem LD (h:Rf M n f) {c:Nat} (r:c<=m) (q:0<c):0<=A3 f n m c/\A3 f n m c%2=0/\((c:Int)<KA f n->A3 f n m c=0)/\((c:Int)=KA f n->A3 f n m c=2*((DG (lB f n (jO n f))).length:Int)):=by
 have j:=vC h;obtain⟨s,t,l⟩:=T5 h;have e:=Q6 h (b:=m) (m:=(c:Int)) (by omega) (by omega);have p:A3 f n m c=2*((Ho f n m (c:Int) 1).length:Int):=by grind [A3]
 have ev:=fun(g:(c:Int)<=KA f n)=>Un h (b:=m) (m:=(c:Int)) (B:=jO n f) (by omega) (by omega) j.2 (by omega)
 refine⟨by omega,by omega,fun g=>?_,fun g=>?_⟩
 ·grind [List.filter_eq_nil_iff]
 have:=ev (by omega);have o:DG (lB f n (jO n f))=_:=N2 (KA f n) _ (F1 f n (jO n f)) l;grind
theorem RU {x:Nat->Int}: ∀n,SymF f n->(∀i,i<n->f i i%2=0)->BF n f x x%2=0
 |0,_,_=>rfl
 |n+1,g,b=>by
  have p:=RU (x:=x) n (fun i c j m=>g i (by omega) j (by omega)) fun i c=>b i (by omega)
  have l:=b n (by omega);have e:BF (n+1) f x x=BF n f x x+2*(x n*dP (fun j=>f n j*x j) n)+x n*(f n n*x n):=by
   unfold BF;rw[dP,bJ n (G:=fun i=>x i*dP (fun j=>f i j*x j) n+x n*(f n i*x i)) fun i c=>by rw[dP,Int.mul_add,g i (by omega) n (by omega)];grind,qx,ia,dP];grind
  obtain⟨t,o⟩: ∃t,f n n=2*t:=⟨f n n/2,by omega⟩;have h:x n*(f n n*x n)=2*(x n*(t*x n)):=by grind
  omega
theorem TA (h:Rf M n f) (e: ∀i,i<n->f i i%2=0) {c:Nat} (g:c%2=1):A3 f n m c=0:=by
 unfold A3;rw[Zh.2 fun z _=>by
  have:=RU (x:=fun i=>z.getD i 0) n h.r.1 e;grind [ld]]
 rfl
end
end
theorem QT (c:1<=n) (e:n<=8) (f:RedR b n):Rf (mat n n b) n (ent (mat n n b)):=by
 grind [Nq,jK,KN,aS]
def LV (f:FF):Nat->Bool
 |0=>true
 |i+1=>LV f i&&decide (f i i%2=0)
theorem GJ {f:FF}: ∀n,LV f n=true-> ∀i,i<n->f i i%2=0
 |n+1,h,i,b=>by
  unfold LV at h;rw[Yh,decide_eq_true_eq]at h;by_cases e:i=n
  ·grind
  exact GJ n h.1 i (by omega)
theorem TK {M:List (List Int)} (h:Rf M n b) {i:Nat} (p:i<=m) (g:0<i) (j:A3 b n m i=x) (q:((DG (lB b n (jO n b))).length:Int)=y) {v:Int} (r:KA b n=v) {e:Bool} (o:LV b n=e):
  (((i:Int)<v)=True/\(x=0)=True/\((i:Int)=v)=False\/((i:Int)<v)=False/\((i:Int)=v)=True/\(x=2*y)=True\/((i:Int)<v)=False/\((i:Int)=v)=False)/\(e=false\/e=true/\((i:Int)%2=1)=False\/e=true/\((i:Int)%2=1)=True/\(x=0)=True):=by
 subst j q r o;obtain⟨_,_,s,t⟩:=LD h p g;grind [TA,GJ]
theorem I6 (s p:Nat) (L B:List Int) (q:Nat) (hL:I8 L) (J:s<=255) (x:p<=255) (hq:q<=255):CallC prog 6 [tL s p L B,.raw (.int .u8 (q:Int))] ⟨[],.raw (.bool true)⟩:=by
 have cA:=Iw;obtain⟨n,hn⟩: ∃n,n=1+s%4:=⟨_,rfl⟩;have t:1<=n:=by omega
 have N:n<=4:=by omega
 obtain⟨h,hr,cF⟩:=SR s p L B 4 n hL J x (by omega) (by omega) hn;rw[show((4:Nat):Int)=4 from rfl]at cF;have j:=QT t (by omega) hr;generalize mat n n h=M at*
 clear hr;generalize ent M=f at*
 obtain⟨b,hb⟩: ∃b,b=q%6:=⟨_,rfl⟩;have ab:b<=5:=by omega
 have eb:Int.tmod (q:Int) 6=(b:Int):=by grind
 have u:jO n f<=dk f 1/\1<=dk f 1:=by
  have:=Sn (f:=f) t 0 (by omega);have:=vC j;have e0:dk f 1=f 0 0:=by show bk f 0 0 0=f 0 0;exact cK f 0 0
  omega
 have Y:=vC j;have t1:=SI (j.vs (B:=jO n f) (by omega) Y.2) t N u.1 (by omega);have t2:=SI (j.vs (B:=(b:Int)) (by omega) (by omega)) t N u.2 (by omega);have l1:=u6 (f:=f) (n:=n) (B:=jO n f) (n-1) [];have l2:=u6 (f:=f) (n:=n) (B:=(b:Int)) (n-1) [];rw[show n-1+1=n by omega]at l1 l2;have cM:=Ga (k:=20000) j (by omega) (by omega) (by omega) (by omega);have cT:=Bi (k:=20000) j b (by omega) (by omega) (by omega) (by omega);rw[UJ]at cT;have W: ∀i,A3 f n b i<=5044:=fun i=>by
  grind [A3]
 have I:=LC j b;have H:=fun(i:Nat) (o:i<=b) (z:0<i)=>LD j o z
 have O:=fun(i:Nat) (o:i<=b) (z:0<i) (c:Int) (hc:A3 f n b i=c) (l:Int) (hl:((DG (lB f n (jO n f))).length:Int)=l) (v:Int) (hv:KA f n=v) (e:Bool) (he:LV f n=e)=>TK j o z hc hl hv he
 have ad:0<(DG (lB f n (jO n f))).length/\(DG (lB f n (jO n f))).length<=5044:=by
  grind [OF,V8]
 have ed: ∀i,i<n-> ∃r,M[i]?=some r/\r.length=n/\r[i]?=some (f i i)/\0<f i i/\f i i<=262144:=fun i o=>by
  have A:=j.b i i o o;have R:=j.r.pd.diag o;refine⟨aN n (f i),by rw[j.e];exact bu n f o,aH _ _,az _ o,R,A.2⟩
 have U:=j.l;have F:((DG (lB f n (jO n f))).map Prod.snd).length=(DG (lB f n (jO n f))).length:=YB _;have e6:((lB f n (jO n f)).getD 0 (0,[])).1=KA f n:=rfl;rw[e6]at cM;generalize(DG (lB f n (jO n f))).map Prod.snd=V at*
 generalize(DG (lB f n (jO n f))).length=vl at*
 generalize KA f n=v at*
 have E:=aH (b+1) (A3 f n b);have D:=fun(i:Nat) (o:i<b+1)=>az (A3 f n b) o
 generalize A3 f n b=ct at*
 generalize aN (b+1) ct=Th at*
 have C:=D 0 (by omega);rw[I]at C;clear t1 t2 l1 l2 I Y u j hb hn;have aa:((vl:Int)=0)=False:=eq_false (by omega);refine aB func6 rfl ntmps6 (uz @tL.eq_1 (k:=iH [⟨1,_,_,_,cF⟩] @tL.eq_1 (k:=bQ [⟨1,_,_,_,cM⟩] (k:=ce [⟨4,_,_,_,cT⟩] eb (k:=ai (aK (aE F (aE aa (aE E C))) (k:=ao rfl (ak (bH (k:=ai (f5 U (k:=?_))))))))))));refine aG (G:=jW n) (fun g=>⟨(j4 (jk::dq M::.raw (.int .i64 v)::dq V::jk::rV Th::jk::.raw (.bool (LV f g.i))::j16 (j16 (j4 (j4 (jk::jk::rN n::rN g.i::j16 (j16 (j16 (j16 ([])))))))))),Hm []⟩) (fun g=>n-g.i) ⟨0,by omega⟩ ?_ ?_
 ·refine aj trivial ?_;simp[wk,LV]
 rintro⟨i,o⟩;simp only;by_cases X:i<n
 ·obtain⟨r,r1,r2,r3,r4,r5⟩:=ed i X;have Q:Int.tmod (f i i) 2=f i i%2:=aaU (by omega);have P:LV f (i+1)=(LV f i&&decide (f i i%2=0)):=rfl;refine ar (k:=bA rfl (ai (am (bH (k:=?_)))));cases w:LV f i with
  |false=>
   rw[w,abq]at P;refine bK (k:=bK (k:=?_));refine⟨⟨i+1,by omega⟩,by grind,aj trivial ?_⟩;simp[wk,P]
  |true=>
   rw[w,aa9]at P;refine dU (aE r1 (aE r3 Q)) (k:=bK (k:=?_));refine⟨⟨i+1,by omega⟩,by grind,aj trivial ?_⟩;simp[wk,P]
 obtain rfl:i=n:=by omega
 generalize w:LV f i=ev at*
 refine ar (k:=bG rfl (ai (f5 E (k:=?_))));refine aG (G:=jW (b+1)) (fun g=>⟨(j4 (jk::jk::.raw (.int .i64 v)::dq V::jk::jk::jk::.raw (.bool ev)::j16 (j16 (j16 (j4 (j4 (jk::jk::jk::rV Th::.raw (.int .i64 ((b+1:Nat):Int))::rN g.i::j16 (j16 (j4 (j4 (j4 (jk::jk::[])))))))))))),Hm []⟩) (fun g=>b+1-g.i) ⟨0,by omega⟩ ?_ ?_
 ·refine aj trivial ?_;simp[wk]
 rintro⟨m,Y⟩;simp only;by_cases Z:m<b+1
 ·have hg:=D m Z;have ac:=W m;refine ar (k:=bA rfl (ai (am (aK hg (k:=?_)))));by_cases z:0<m
  ·obtain⟨a1,a2,_,_⟩:=H m (by omega) z;obtain⟨k1,k2⟩:=O m (by omega) z _ rfl _ rfl _ rfl _ rfl;generalize ct m=c at*
   have Q:Int.tmod c 2=0:=by grind
   have eo:Int.tmod (m:Int) 2=(m:Int)%2:=aaU (by omega);have ew:IntKind.i64.wrap (2*(vl:Int))=2*(vl:Int):=aP (by omega) (by omega);have y:(0<(m:Int))=True:=eq_true (by omega);rcases k1 with⟨A,R,S⟩|⟨A,S,h6⟩|⟨A,S⟩<;>rcases k2 with T|⟨T,h8⟩|⟨T,h8,h9⟩<;>subst T
   all_goals
    (first|refine au fun _ K=>?_|refine ai (au fun _ K=>?_)|refine ai (ai (au fun _ K=>?_)));simp(disch:=omega) only[kd,Nat.reduceAdd,y,Q,A,R,S,eo,h8,F,ew,h6,h9];apply K
    first|refine ao rfl (ak ?_)|refine aW rfl (fun h=>by simp at h<;>omega) (fun _=>ak ?_)
    show bs _ _ _ _;refine bK (k:=?_);refine⟨⟨m+1,by omega⟩,by simp only;omega,aj trivial ?_⟩;simp[wk]
  have y:(0<(m:Int))=False:=eq_false (by omega);refine aK y (k:=ao rfl (ak (bK (k:=?_))));refine⟨⟨m+1,by omega⟩,by grind,aj trivial ?_⟩;simp[wk]
 obtain rfl:m=b+1:=by omega
 refine ar (k:=bG rfl (bQ [⟨0,_,_,_,cA⟩] (k:=aF @results6)))
theorem CallC.law {P:Program} {f:FuncId} {args:List TV} {b:Bool} (h:CallC P f args ⟨[],.raw (.bool b)⟩) {w:World} {vs:Array Value} (c:vs.size=args.length)
  (o: ∀(j:Nat) t,args[j]?=some t-> ∃v:Value,vs[j]?=some v/\t.rel (fun _ _=>none) (fun _=>[]) (fun _=>False) w v):Calls P f vs w fun e g=>e= .returned (.bool b)/\Ext w g:=
 (h.calls c o).mono fun e g ⟨v,l,⟨p,H,X,m⟩,n⟩=>⟨by rw[l,nY m],n⟩
end Go.Proofs.YtalmoejhjceflaaGreat
