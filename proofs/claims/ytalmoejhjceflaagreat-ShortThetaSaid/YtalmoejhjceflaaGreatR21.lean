/-
  Part 22 of a proof (walks and plain facts).
-/
import Derived.Test.YtalmoejhjceflaaGreatR20
set_option linter.all false
set_option maxRecDepth 100000
set_option maxHeartbeats 64000000
open Nat renaming reduceAdd → aa
open Nat renaming reduceEqDiff → ab
open List renaming replicate → ae
namespace Go.Proofs.YtalmoejhjceflaaGreat
open Go.RowKit Go.Proofs.Tryz
variable {n m:Nat} {x:Int} {b:List (List Int)} {c:Code} {e:OObj} {f:Array Oper} {h:FF} {s:AS}
section
def gM (m:Nat):List (List AV):=ae m [.junk]
theorem OC (m i:Nat) (y:List Int):(gM m++lc fI y)[m+i]?=(lc fI y)[i]?:=by
 grind [gM]
theorem jP (m:Nat) (y:List Int):(gM m++lc fI y).length=m+y.length:=by simp[gM,kC]
theorem n7 (m:Nat) (c:Int) (y:List Int):(gM (m+1)++lc fI y).set m [.p (.raw (.int .i64 c))]=gM m++lc fI (c::y):=by
 simp_all[gM,acB,lc,fI]
theorem iG (d m:Nat):(gM m).map (List.map (bY d))=gM m:=by simp[gM,bY]
abbrev ss (a:Nat) (B:Int) (n m:Nat) (y b:List Int) (M:List (List Int)):List OObj:=[⟨222,4,[[.p (.raw (.int .i64 B)),.sl a 2 0 (n+1),.sl a 3 0 n,.sl a 1 0 n]]⟩,⟨2,1,gM m++lc fI y⟩,⟨2,1,lc fI b⟩,⟨35,1,lc (fR fI) M⟩]
theorem Cr (a d:Nat) (B:Int) (n m:Nat) (y b:List Int) (M:List (List Int)):(ss a B n m y b M).map (renO d)=ss d B n m y b M:=by
 simp_all[renO,bY,iH,iG]
theorem sE (a:Nat) (B:Int) (n m:Nat) (y g:List Int) (M:List (List Int)): ∀o∈ss a B n m y g M,selfO a o:=fun o f e b x c=>by
 simp only[aaV,abu,or_false]at f;rcases f with rfl|rfl|rfl|rfl
 ·simp only[aam]at b;subst b;simp only[aaV,abu,or_false]at c;rcases c with rfl|rfl|rfl|rfl<;>first|trivial|rfl
 ·simp only[abe]at b;rcases b with b|b
  ·obtain⟨_,rfl⟩:=aca.1 b;simp only[aam]at c;subst c;trivial
  exact cG (bF 2 1 _ e b x c)
 ·exact cG (bF 2 1 _ e b x c)
 exact cG (bF 35 1 _ e b x c)
theorem XY (a:Nat) (B:Int) (n m e:Nat) (y f c:List Int) (M:List (List Int)): ∀r∈[0],∀o,(ss a B n m y c M)[r]?=some o-> ∃b,(ss a B n e f c M)[r]?=some b/\b.es=o.es/\o.elems.length<=b.elems.length:=fun r g o h=>by
 grind
theorem CM {c:Int} {y e:List Int} (f:s.H 0=ss 0 x n m (c::y) e b):bD s ⟨s.tmps,aw s.H 0 (ss 0 x n (m+1) y e b)⟩:=by
 have h:=mu (s:=s) 0 1 (o:=⟨2,1,gM m++lc fI (c::y)⟩) (o':=⟨2,1,gM (m+1)++lc fI y⟩) (by rw[f];rfl) rfl rfl (by simp only[jP,aaG];omega) fun i g j=>by
  rw[<- n7 m c y];grind [gM]
 grind
theorem xq (n:Nat) (f:FF) {k:Nat} (b:k<n):(fo n f n)[k]?=some (nF n f k):=OL f b
structure VsG (γ:Type) (lv:γ->Prop) (lo hi:Int) (b:Int->γ->γ×Bool) (R:γ×Bool) where
 x:Int
 g:γ
 l:lv g
 h1:lo<=x
 h2:x<=hi+1
 e:lpM b (hi-x+1).toNat x g=R
theorem OY {f:Type} {b:Int->f->f×Bool} {c:Int} {g:f} (h:c<=x):lpM b (x-c+1).toNat c g=match b c g with
  |(e,true)=>lpM b (x-(c+1)+1).toNat (c+1) e
  |(e,false)=>(e,false):=by
 rw[show(x-c+1).toNat=(x-(c+1)+1).toNat+1 by omega];rfl
theorem S3 {e:Type} {b:Int->e->e×Bool} {c:Int} {g:e} (h: ¬c<=x):lpM b (x-c+1).toNat c g=(g,true):=by
 rw[show(x-c+1).toNat=0 by omega];rfl
section
variable {γ:Type} {L:iw γ} {l:Nat} {yd:Nat->Int->γ->γ×Bool} {n:Nat} {f:FF} {B:Int} {lv:γ->Prop}
def VS (P:Program) (L:iw γ) (l n:Nat) (yd:Nat->Int->γ->γ×Bool) (lv:γ->Prop):Prop:= ∀(m:Nat) (c:Int) (g:γ),lv g->1<=m->m<=n->0<=c->c<=93823560581121->sW P L l [.int .i64 (m:Int),.int .i64 c] g (yd m c g).1 (yd m c g).2
abbrev XV (l:Nat) (k:Nat) (b:Int):List TV:=[.one (.ptr 0 0 0 0),.raw (.int .i64 (k:Int)),.raw (.int .i64 b),.raw (.func (.yield l) #[] #[])]
theorem J7 (s:pn n f B) (hy:VS prog L l n yd lv) (O: ∀m c g,lv g->(yd m c g).2=true->lv (yd m c g).1) (k:Nat) (y:List Int) (hk:y.length+(k+1)=n) (hT:pA y) (Q:fC f n B (k+1) (aL n y)) (g:γ) (hg:lv g)
  (Z: ∀j,k=j+1-> ∀c,cz f n B k (aL n y)<=c->c<=di f n B k (aL n y)-> ∀g,lv g->lQ prog L [0] 190 (XV l j (qi f n B (j+1) (aL n (c::y)))) (ss 0 B n (j+1) (c::y) (aQ (n+1) (dk f)) (fo n f n)) (ss 0 B n (j+1) (c::y) (aQ (n+1) (dk f)) (fo n f n)) g (jU yd f n B j (c::y) g).1 (.raw (.bool (jU yd f n B j (c::y) g).2))):
  lQ prog L [0] 190 (XV l k (qi f n B (k+1) (aL n y))) (ss 0 B n (k+1) y (aQ (n+1) (dk f)) (fo n f n)) (ss 0 B n (k+1) y (aQ (n+1) (dk f)) (fo n f n)) g (jU yd f n B k y g).1 (.raw (.bool (jU yd f n B k y g).2)):=by
 have bR:=s.n8;have br:=s.d (k:=k) (by omega);have S:=s.d (k:=k+1) (by omega);have an:=aB (dk f) (show k<n+1 by omega);have ap:=aB (dk f) (show k+1<n+1 by omega);have bp:=aI (n+1) (dk f);have hM:=xq n f (show k<n by omega);have bq:=l9 n f n;have a1:(nF n f k).length=n-k-1:=aI _ _;have C: ∀i,i<y.length->(nF n f k)[i]?=some (bk f k k (k+(i+1))):=fun i E=>aB _ (by omega)
 have I:=fun m (hm:m<=y.length)=>s.shP_c hk hT hm
 have z:=pb f hk;have b0:=s.rs0 (k:=k+1) (by omega) Q;have u:=s.sq (k:=k) (by omega) Q;have X:=s.lohi hk hT Q;have bb:=Uf (m:=y.length+1) (by omega);have b1:=n4 u.1 u.2;have cR:=x4 (.inl rfl) _ u.1 u.2;have ag:=fun c=>s.step hk (c:=c) Q
 have af:dk f k*qi f n B (k+1) (aL n y)=gU f n B k (aL n y):=rfl;have Y:cz f n B k (aL n y)=0-(isqF (gU f n B k (aL n y))+uF f k y y.length)/dk f (k+1):=by grind [cz]
 have W:di f n B k (aL n y)=(isqF (gU f n B k (aL n y))-uF f k y y.length)/dk f (k+1):=by rw[z];rfl
 have bn:=I y.length (aaq _);have ah:=oP (.inl rfl) (isqF (gU f n B k (aL n y))+uF f k y y.length) (dk f (k+1)) S.1 (by omega) (by omega) (by omega);have al:=oP (.inl rfl) (isqF (gU f n B k (aL n y))-uF f k y y.length) (dk f (k+1)) S.1 (by omega) (by omega) (by omega);have N:=hy (n-k) (di f n B k (aL n y)-cz f n B k (aL n y)+1) g hg (by omega) (by omega) (by omega) (by omega);have e1:IntKind.i64.wrap ((k:Int)+1)=((k+1:Nat):Int):=aR (by omega) (by omega);have e2:IntKind.i64.wrap ((n:Int)-(k:Int))=((n-k:Nat):Int):=by grind [aR]
 have J:k=0->jU yd f n B k y g=yd (n-k) (di f n B k (aL n y)-cz f n B k (aL n y)+1) g:=fun e=>by subst e;rfl
 have hv1: ∀j,k=j+1->jU yd f n B k y g=match yd (n-k) (di f n B k (aL n y)-cz f n B k (aL n y)+1) g with
  |(g',true)=>lpM (fun c=>jU yd f n B j (c::y)) (di f n B k (aL n y)-cz f n B k (aL n y)+1).toNat (cz f n B k (aL n y)) g'
  |(g',false)=>(g',false):=fun j e=>by subst e;rfl
 have ac:uF f k y 0=0:=rfl;have ad: ∀i,uF f k y i+bk f k k (k+(i+1))*y.getD i 0=uF f k y (i+1):=fun _=>rfl
 rw[<- z]at ag;have ab: ∀c,fC f n B k (aL n (c::y))->0<=qi f n B k (aL n (c::y))/\qi f n B k (aL n (c::y))<=70368744177664:=fun c h=>s.rs0 (by omega) h
 have F:=O (n-k) (di f n B k (aL n y)-cz f n B k (aL n y)+1) g hg;have bc:=fun j c g hg=>Ri yd (lv:=lv) O f n B j (c::y) g hg
 obtain⟨P,b,V⟩: ∃P b,yd (n-k) (di f n B k (aL n y)-cz f n B k (aL n y)+1) g=(P,b):=⟨_,_,rfl⟩;rw[V]at N J hv1 F;simp only at N J hv1 F;clear V hy O s Q hT;generalize jU yd f n B k y g=R at*
 generalize cz f n B k (aL n y)=lo at*
 generalize di f n B k (aL n y)=E at*
 generalize gU f n B k (aL n y)=sq at*
 generalize qi f n B (k+1) (aL n y)=A at*
 generalize isqF sq=rt at*
 generalize aQ (n+1) (dk f)=D at*
 generalize fo n f n=M at*
 generalize nF n f k=r at*
 generalize dk f (k+1)=d1 at*
 generalize dk f k=d0 at*
 generalize uF f k y=w at*
 have bx: -46911780290560<=lo/\lo<=46911780290560:=by omega
 have bt: -46911780290560<=E/\E<=46911780290560:=by omega
 have bl:=X.2.2;clear X bb;have bm:(d1=0)=False:=eq_false (by omega);refine qI func190 rfl (by kernel_rfl) [(0,0)] (by simp) (by simp[selfTV,bs]) (by simp[selfTV,bs]) (sE 0 _ _ _ _ _ _) (sE 0 _ _ _ _ _ _) (XY 0 _ _ _ _ _ _ _ _) ?_;rw[ntmps190];refine eD.weak (aj (tm:=(.one (.ptr 0 0 0 0)::rN k::.raw (.int .i64 A)::.raw (.func (.yield l) #[] #[])::j16 (j16 (j16 (j16 (j16 (j16 (j16 (j4 (j4 ([]))))))))))) (l:=[(0,ss 0 B n (k+1) y D M)]) ⟨rfl,trivial⟩ (by simp[wk,ae])) ?_;refine gD (k:=d6 (aH e1 ap) (k:=bV (d6 (aH hM a1) (k:=?_))));refine ku (G:=jo y.length) (fun q=>⟨(.one (.ptr 0 0 0 0)::rN k::.raw (.int .i64 A)::.raw (.func (.yield l) #[] #[])::j4 (jk::.raw (.int .i64 d1)::.raw (.int .i64 (w q.i))::j16 (j4 (jk::jk::.one (.p (.sl (ls fI r)))::rN y.length::rN q.i::j16 (j16 (j16 (j16 (j16 (j4 (j4 ([]))))))))))),Hm [(0,ss 0 B n (k+1) y D M)]⟩) (fun _=>g) (fun q=>y.length-q.i) ⟨0,by omega⟩ ?_ rfl ?_
 ·refine aj ⟨rfl,trivial⟩ ?_;simp[wk,ac];omega
 rintro⟨i,bw⟩;simp only;by_cases hm:i<y.length
 ·have a0:=C i hm;have s0:=I i (by omega);have s1:=I (i+1) (by omega);have s2:=ad i;have e3:IntKind.i64.wrap (((k+1:Nat):Int)+(i:Int))=((k+1+i:Nat):Int):=by rw[aR (by omega) (by omega)];omega
  have a3:=OC (k+1) i y;have a4:=jP (k+1) y;have bh:y[i]?=some (y.getD i 0):=by grind
  generalize bk f k k (k+(i+1))=q at*
  generalize y.getD i 0=yi at*
  refine gD (k:=FC rfl (bV (gd (d6 a0 (k:=qA (aH e1 (aH e3 (aH a3 (aH bh s2)))) (k:=uL (k:=?_)))))));refine⟨⟨i+1,by omega⟩,by grind,aj ⟨rfl,trivial⟩ ?_,rfl⟩;simp[wk]
 have a7:i=y.length:=by omega
 subst a7;refine gD (k:=FA rfl (d6 (aH an af) (k:=Nl [⟨1,_,_,_,cR⟩] (k:=?_))));refine nQ [⟨4,_,_,_,ah⟩,⟨10,_,_,_,al⟩] [] (by kernel_rfl) fun _ K=>?_;simp(disch:=omega) only[kd,<- W,aa,aR,<- Y,Nat.reduceBEq];apply K
 refine bV (bV ?_);refine CV 12 N [] [] (by kernel_rfl) (by decide) fun K o=>?_
 simp(disch:=omega) only[kd,aa,e2,aR];refine o _ ⟨rfl,?_⟩;clear o K;intro K o;simp only[kd,aa,yS,cwD];apply o;clear o K;show eD _ _ _ _ _ _ _;cases b with
 |false=>
  have C:R=(P,false):=by
   cases k with
   |zero=>grind
   |succ j=>grind
  subst C;refine gV rfl (gD (k:=?_));refine mv ⟨.inr rfl,rfl,_,aj (tm:=(.one (.ptr 0 0 0 0)::j4 (jk::jk::jk::.raw (.bool false)::j16 (j16 (j16 (j16 (j16 (j16 (j16 (jk::jk::jk::[])))))))))) (l:=[(0,ss 0 B n (k+1) y D M)]) ⟨rfl,trivial⟩ (by simp[wk]),⟨eh _,rfl⟩,by simp⟩
 |true=>
  refine gC rfl (dY ?_);show eD _ _ _ _ _ _ _;cases k with
  |zero=>
   have C:R=(P,true):=J rfl;subst C;refine bV (gD (k:=gV rfl (gD (k:=?_))));refine mv ⟨.inr rfl,rfl,_,aj (tm:=(.one (.ptr 0 0 0 0)::j4 (jk::jk::jk::.raw (.bool true)::j16 (j16 (j16 (j16 (j16 (j16 (j16 (jk::jk::jk::[])))))))))) (l:=[(0,ss 0 B n (0+1) y D M)]) ⟨rfl,trivial⟩ (by simp[wk]),⟨eh _,rfl⟩,by simp⟩
  |succ j=>
   have C:=hv1 j rfl;have a8:(((j+1:Nat):Int)=0)=False:=eq_false (by omega);have e4:IntKind.i64.wrap (((j+1:Nat):Int)-1)=(j:Int):=by grind [aR]
   refine bV (d6 a8 (k:=gC rfl (dY (bV (gD (k:=?_))))));refine ku (G:=VsG γ lv lo E (fun c=>jU yd f n B j (c::y)) R) (fun v=>⟨(.one (.ptr 0 0 0 0)::.raw (.int .i64 ((j+1:Nat):Int))::jk::.raw (.func (.yield l) #[] #[])::j4 (jk::.raw (.int .i64 d1)::.raw (.int .i64 (w y.length))::jk::jk::.raw (.int .i64 sq)::jk::jk::.raw (.int .i64 E)::.raw (.int .i64 v.x)::j16 (j16 (j16 (j16 (j16 (j16 (j4 (j4 (jk::jk::[])))))))))),Hm [(0,ss 0 B n (j+1+1) y D M)]⟩) (fun v=>v.g) (fun v=>(E+1-v.x).toNat) ⟨lo,P,F rfl,by omega,by omega,C.symm⟩ ?_ rfl ?_
   ·refine aj ⟨rfl,trivial⟩ ?_;simp[wk]
   rintro⟨x,g2,U,h1,h2,t⟩;simp only;by_cases hx:x<=E
   ·rw[OY hx]at t;obtain⟨av,hq⟩:=ag x h1 hx;have ba:=ab x av;have cV:=Z j rfl x h1 hx g2 U;have H:=bc j x g2 U;obtain⟨g3,b3,a6⟩: ∃g3 b3,jU yd f n B j (x::y) g2=(g3,b3):=⟨_,_,rfl⟩;rw[a6]at cV t H;simp only at cV t H;generalize qi f n B (j+1) (aL n (x::y))=rx at*
    have b4:(d1*x).natAbs<=65535*46911780290560:=by
     rw[abv];exact aaU (by omega) (by omega)
    have a9:0<=d1*rx:=aaZ (by omega) ba.1;have T:Int.tdiv (sq-(d1*x+w y.length)*(d1*x+w y.length)) d1=rx:=by rw[hq];grind [Int.mul_tdiv_cancel_left]
    have b2:0<=(d1*x+w y.length)*(d1*x+w y.length):=by
     rcases acm 0 (d1*x+w y.length)with h|h
     ·exact aaZ h h
     exact aa4 h h
    have a4:=jP (j+1+1) y;have a5:=n7 (j+1) x y;have a2:(gM (j+1+1)++lc fI y)[j+1]?=some [.junk]:=by
     rw[aal (by simp[gM])];simp[gM]
    refine bV (gD (k:=gV rfl (dY (bV (gd (d6 (aH a2 a5) (k:=gD (k:=bV (iX 11 cV 0 [] [] (by kernel_rfl) (by omega) (by decide) fun K o=>?_)))))))));generalize hU:(d1*x+w y.length)*(d1*x+w y.length)=uu at*
    simp(disch:=omega) only[kd,aa,e4,hU,aR,T];refine o _ ⟨⟨rfl,(Cr 0 0 _ _ _ _ _ _).symm⟩,?_⟩;clear o K;intro K o;simp(disch:=omega) only[kd,aa,F3,cwD,qW,nE,Nat.reduceBEq,aba,iG];apply o;clear o K;show eD _ _ _ _ _ _ _;cases b3 with
    |false=>
     simp only at t;subst t;refine gV rfl (gD (k:=?_));refine mv ⟨.inr rfl,rfl,_,(CM rfl).trans (aj (tm:=(.one (.ptr 0 0 0 0)::j4 (jk::jk::jk::.raw (.bool false)::j16 (j16 (j16 (j16 (j16 (j16 (j16 (jk::jk::jk::[])))))))))) (l:=[(0,ss 0 B n (j+1+1) y D M)]) ⟨rfl,trivial⟩ (by simp[wk])),⟨eh _,rfl⟩,by simp⟩
    |true=>
     simp only at t;refine gC rfl (dY (uL (k:=?_)));refine⟨⟨x+1,g3,H rfl,by omega,by omega,t⟩,by simp only;omega,(CM rfl).trans (aj ⟨rfl,trivial⟩ ?_),rfl⟩;simp[wk]
   rw[S3 hx]at t;subst t;refine bV (gD (k:=gC rfl (nO (gD (k:=?_)))));refine mv ⟨.inr rfl,rfl,_,aj (tm:=(.one (.ptr 0 0 0 0)::j4 (jk::jk::jk::.raw (.bool true)::j16 (j16 (j16 (j16 (j16 (j16 (j16 (jk::jk::jk::[])))))))))) (l:=[(0,ss 0 B n (j+1+1) y D M)]) ⟨rfl,trivial⟩ (by simp[wk]),⟨eh _,rfl⟩,by simp⟩
end
end
section
section
variable {γ:Type} {L:iw γ} {l:Nat} {yd:Nat->Int->γ->γ×Bool} {n:Nat} {f:FF} {B:Int} {lv:γ->Prop}
theorem UH (r:pn n f B) (s:VS prog L l n yd lv) (q: ∀m c g,lv g->(yd m c g).2=true->lv (yd m c g).1): ∀(k:Nat) (y:List Int),y.length+(k+1)=n->pA y->fC f n B (k+1) (aL n y)-> ∀g:γ,lv g->
  lQ prog L [0] 190 (XV l k (qi f n B (k+1) (aL n y))) (ss 0 B n (k+1) y (aQ (n+1) (dk f)) (fo n f n)) (ss 0 B n (k+1) y (aQ (n+1) (dk f)) (fo n f n)) g (jU yd f n B k y g).1 (.raw (.bool (jU yd f n B k y g).2)):=by
 intro k
 induction k with
 |zero=>intro y p h b g o;exact J7 r s q 0 y p h b g o fun j e=>by omega
 |succ k w=>
  intro y p h b g o;refine J7 r s q (k+1) y p h b g o fun j e c t u g o=>?_
  obtain rfl:j=k:=by omega
  have v:=r.lohi p h b;exact w (c::y) (by grind) (h.cons (by omega)) (r.step p b t u).1 g o
noncomputable def J3 (yd:Nat->Int->γ->γ×Bool) (f:FF) (n:Nat) (B:Int) (g:γ):γ:=if n=1 then(yd 1 (2*isqF (B/dk f 1)+1) g).1 else(jU yd f n B (n-1) [] g).1
theorem G5 (b:pn n f B):qi f n B n (aL n [])=dk f n*B:=by
 grind [aL,uV,qi]
def ZI (n:Nat) (f:FF) (B:Int):Prop:=(n=1/\0<dk f 1/\dk f 1<=4611686018427387904/\0<=B/\B<=4611686018427387904)\/(2<=n/\pn n f B)
theorem Ue (h:ZI n f B) (y:VS prog L l n yd lv) (G: ∀m c g,lv g->(yd m c g).2=true->lv (yd m c g).1) (g:γ) (I:lv g):
  qt prog L 131 [.one (.ptr 0 0 0 0),.raw (.func (.yield l) #[] #[])] (ss 0 B n n [] (aQ (n+1) (dk f)) (fo n f n)) (ss 0 B n n [] (aQ (n+1) (dk f)) (fo n f n)) g (J3 yd f n B g) (.tup []):=by
 have Q:=aI (n+1) (dk f);have s:=aB (dk f) (show n<n+1 by omega);refine NF func131 rfl (by kernel_rfl) (by simp[selfTV,bs]) (by simp[selfTV]) (sE 0 _ _ _ _ _ _) (sE 0 _ _ _ _ _ _) ?_;rw[ntmps131];refine sO.weak (aj (tm:=(.one (.ptr 0 0 0 0)::.raw (.func (.yield l) #[] #[])::j16 (j16 (j4 (j4 (jk::jk::jk::[])))))) (l:=[(0,ss 0 B n n [] (aQ (n+1) (dk f)) (fo n f n))]) ⟨rfl,trivial⟩ (by simp[wk,ae])) ?_;refine sP fun _ K=>?_;simp only[kd,aa];apply K
 rcases h with⟨rfl,R,S,z,X⟩|⟨T,j⟩
 ·have w:0<=B/dk f 1:=abW z (by omega);have V:B/dk f 1<=B:=acX _ z;have W:=n4 w (by omega);have cR:=x4 (.inl rfl) (B/dk f 1) w (by omega);have o:=y 1 (2*isqF (B/dk f 1)+1) g I (by omega) (by omega) (by omega) (by omega);have u:J3 yd f 1 B g=(yd 1 (2*isqF (B/dk f 1)+1) g).1:=if_pos rfl;rw[u];have P:Int.tdiv B (dk f 1)=B/dk f 1:=abB z;have H:(dk f 1=0)=False:=eq_false (by omega);obtain⟨p,b,e⟩: ∃p b,yd 1 (2*isqF (B/dk f 1)+1) g=(p,b):=⟨_,_,rfl⟩;rw[e]at o⊢;simp only at o⊢;generalize aQ (1+1) (dk f)=D at*
  generalize fo 1 f 1=M at*
  generalize dk f 1=d at*
  generalize B/d=q at*
  generalize isqF q=rt at*
  clear y e u;refine uY (sP fun _ K=>?_);simp(disch:=omega) only[kd];apply K;refine VQ rfl ?_;refine uY ?_;refine CS cf o [⟨12,_,_,_,cR⟩] [] (by kernel_rfl) fun K t=>?_
  simp(disch:=omega) only[kd,abw,aa,Nat.reduceSub,Int.reduceToNat,s,P,aR];refine t _ ⟨rfl,?_⟩;clear t K;simp only[se];refine R6 ⟨.inr rfl,rfl,_,aj (tm:=(.one (.ptr 0 0 0 0)::j16 (j16 (j4 (j4 (j4 ([]))))))) (l:=[(0,ss 0 B 1 1 [] D M)]) ⟨rfl,trivial⟩ ?_,eh _,rfl⟩;simp only[kd,yS,cwD];simp[wk]
 have U:=j.n8;have A:fC f n B n (aL n []):=ji j.r.pd j.b0;have x:=UH j y G (n-1) [] (by simp;omega) pA.nil (by grind) g I;rw[show n-1+1=n by omega,G5 j]at x;have u:J3 yd f n B g=(jU yd f n B (n-1) [] g).1:=if_neg (by omega);rw[u];have Y:=j.d (k:=n) (aaq n);have v:=j.b0;have C:=j.b1;have J:0<=dk f n*B:=aaZ (by omega) v;have N:dk f n*B<=65536*1073741824:=aa9 (by omega) C v (by omega);have E:((n:Int)=1)=False:=eq_false (by omega);have O:IntKind.i64.wrap ((n:Int)-1)=((n-1:Nat):Int):=by grind [aR]
 obtain⟨p,b,e⟩: ∃p b,jU yd f n B (n-1) [] g=(p,b):=⟨_,_,rfl⟩;rw[e]at x⊢;simp only at x⊢;generalize aQ (n+1) (dk f)=D at*
 generalize fo n f n=M at*
 generalize dk f n=d at*
 generalize F:d*B=Z at*
 clear y e u j A;refine uY (sP fun _ K=>?_);simp only[kd,E];apply K;refine VP rfl (M9 ?_);show sO _ _ _ _ _ _;refine Fy cf x.toL 0 [] [] (by omega) (by kernel_rfl) fun K t=>?_
 simp(disch:=omega) only[kd,abw,aa,Nat.reduceSub,O,s,F,aR];refine t _ ⟨⟨rfl,(Cr 0 0 _ _ _ _ _ _).symm⟩,?_⟩;clear t K;refine⟨.inl rfl,rfl,_,aj (tm:=(j16 (j16 (j4 (j4 (j4 (jk::[]))))))) (l:=[(0,ss 0 B n n [] D M)]) ⟨?_,trivial⟩ ?_,eh _,rfl⟩
 ·rw[Rx,fK];grind [aM,Cr]
 simp only[kd,Rx,cwD,abw,aa,Nat.reduceSub];simp_all[Vr]
end
end
def il (g:OObj) (a e:Nat):AV->AV
 | .sl b r c len=>if b=a/\r=e then .p (.sl (((g.elems.take (c+len)).drop c).map (List.map vO)))else .sl b r c len
 | .ptr b r i j=>if b=a/\r=e then .junk else .ptr b r i j
 | .fn f b h=>if b=a then .junk else .fn f b h
 |x=>x
theorem Ld (e:OObj) (a j:Nat):pm (il e a j):=fun f b g=>by
 by_cases h:b=a
 ·exact .inl (if_pos h)
 exact .inr ⟨b,g,if_neg h,rfl,fun n q c=>⟨q,c,if_neg fun k=>h k.1⟩⟩
def I6 (b:OObj) (a c:Nat):TV->TV
 | .one x=> .one (il b a c x)
 | .agg e=> .agg (e.map (il b a c))
 | .fn f e=> .fn f (e.map (il b a c))
 | .tup g=> .tup (g.map fun t=>(t.1,t.2.map (il b a c)))
def qQ (b:OObj) (a c:Nat) (o:OObj):OObj:={o with elems:=o.elems.map (List.map (il b a c))}
theorem Gs {a:Nat} {x:AV} (h:bs a x):bs a (il e a n x):=by
 cases x with
 |sl b r c len=>simp only[il];split<;>first|trivial|exact h
 |ptr b r i j=>simp only[il];split<;>first|trivial|exact h
 |fn f b g=>simp only[il];split<;>first|trivial|exact h
 |_=>exact h
theorem DB {a:Nat} {y:AV} (c:m≠a) (h:bs m y):il e a n y=y:=by
 cases y with
 |sl b r g len=>have h:b=m:=h;subst h;exact if_neg fun k=>c k.1
 |ptr b r i j=>have h:b=m:=h;subst h;exact if_neg fun k=>c k.1
 |fn f b l=>have h:b=m:=h.1;subst h;exact if_neg c
 |_=>rfl
theorem wc (a l:Nat) {o0:OObj} (K:(s.H a)[l]?=some o0) (a2:dS o0):bD s ⟨s.tmps.map (I6 o0 a l),aw s.H a (((s.H a).set l {o0 with elems:=[]}).map (qQ o0 a l))⟩:=by
 rintro w0 O X an w ⟨h1,a4,L,g,ab⟩;have ab:aX X L s an w:=ab;generalize ad:aw s.H a (((s.H a).set l {o0 with elems:=[]}).map (qQ o0 a l))=H1;generalize Y:(fun x y=>if x=a/\y=l then none else L x y:Rho)=ρ1;have W:ρ1 a l=none:=by rw[<- Y];exact if_pos ⟨rfl,rfl⟩
 have J: ∀x y,¬(x=a/\y=l)->ρ1 x y=L x y:=fun x y h=>by rw[<- Y];exact if_neg h
 have af: ∀x,x≠a->H1 x=s.H x:=fun x h=>by rw[<- ad];exact aD h
 have ae: ∀y:Nat,(H1 a)[y]?=if y=l then some {o0 with elems:=[]}else((s.H a)[y]?).map (qQ o0 a l):=fun y=>by
  rw[<- ad,aM,u9,aa7];by_cases I:l=y
  ·subst I;rw[if_pos rfl,if_pos (aaf.1 K).1,if_pos rfl];rfl
  rw[if_neg I,if_neg (abD I)]
 have Q: ∀(x y:Nat) q,(H1 x)[y]?=some q->(x=a/\y=l/\q={o0 with elems:=[]})\/(¬(x=a/\y=l)/\ ∃m,(s.H x)[y]?=some m/\q=qQ o0 a l m):=fun x y q h=>by
  by_cases E:x=a
  ·subst E;rw[ae]at h;by_cases I:y=l
   ·rw[if_pos I]at h;injection h with h
    exact .inl ⟨rfl,I,h.symm⟩
   rw[if_neg I]at h;obtain⟨m,A,M⟩:=u6.1 h;exact .inr ⟨fun k=>I k.2,m,A,M.symm⟩
  rw[af x E]at h;refine .inr ⟨fun k=>E k.1,q,h,?_⟩;have hs:=g.self x y q h;have:q.elems.map (List.map (il o0 a l))=q.elems:=By fun e D z T=>DB E (hs e D z T)
  unfold qQ;rw[this]
 have ah: ∀(x y:Nat) q,(s.H x)[y]?=some q-> ¬(x=a/\y=l)-> ∃q',(H1 x)[y]?=some q'/\q'.es=q.es/\q'.elems.length=q.elems.length:=fun x y q h S=>by
  by_cases E:x=a
  ·subst E;exact⟨qQ o0 x l q,by rw[ae,if_neg fun k=>S ⟨rfl,k⟩,h];rfl,rfl,by simp[qQ]⟩
  exact⟨q,by rw[af x E];exact h,rfl,rfl⟩
 have C: ∀(x y:Nat) q b c,(H1 x)[y]?=some q->ρ1 x y=some (b,c)-> ¬(x=a/\y=l)/\L x y=some (b,c)/\ ∃m,(s.H x)[y]?=some m:=fun x y q b c h e=>by
  rcases Q x y q h with⟨rfl,rfl,_⟩|⟨S,m,A,_⟩
  ·rw[W]at e;cases e
  exact⟨S,by rw[<- J x y S];exact e,m,A⟩
 have ag: ∀b,Xo X ρ1 H1 b->Xo X L s.H b:=fun b B=>by
  rcases B with B|⟨x,y,q,n,A,M⟩
  ·exact .inl B
  obtain⟨_,F,m,R⟩:=C x y q b n A M;exact .inr ⟨x,y,m,n,R,F⟩
 have a1: ∀b c,L a l=some (b,c)-> ¬Xo X ρ1 H1 b:=fun b c hr hX=>by
  rcases hX with hX|⟨x,y,q,n,A,M⟩
  ·exact(g.old a l o0 b c K hr).2 hX
  obtain⟨g0,F,m,R⟩:=C x y q b n A M;exact g0 (g.inj x y a l m o0 b n c R K F hr)
 have aa: ∀x u,isPure x=true->AV.rel L s.H (Xo X L s.H) w x u->bQ (Xo X ρ1 H1) w (vO x) u:=fun x u hp h=>by
  cases x<;>first|exact bQ.weaken (fun b _ B=>ag b B) h|cases hp
 have G: ∀x v,AV.rel L s.H (Xo X L s.H) w x v->AV.rel ρ1 H1 (Xo X ρ1 H1) w (il o0 a l x) v:=gk (Ld o0 a l) fun x v S h=>by
  cases x with
  |fn=>cases S
  |p x=>exact bQ.weaken (fun b _ B=>ag b B) h
  |sl b r a6 len=>
   simp only[il];by_cases B:b=a/\r=l
   ·rw[if_pos B];obtain⟨rfl,rfl⟩:=B;exact oY (g.objs b r o0 K) K (fun e D y I u hu=>aa y u (a2 e D y I) hu) (a1) h
   rw[if_neg B];obtain⟨o,A,M,F⟩:=h;obtain⟨o',k1,k2,k3⟩:=ah b r o A B;exact⟨o',k1,by omega,by rw[J b r B,k2];exact F⟩
  |ptr b r i j=>
   simp only[il];by_cases B:b=a/\r=l
   ·rw[if_pos B];trivial
   rw[if_neg B];obtain⟨o,b',c,A,M,F,R⟩:=h;obtain⟨o',k1,k2,k3⟩:=ah b r o A B;exact⟨o',b',c,k1,by rw[J b r B];exact M,by omega,by rw[k2];exact R⟩
  |junk=>trivial
 have N: ∀V v,bI L s.H (Xo X L s.H) w V v->bI ρ1 H1 (Xo X ρ1 H1) w (V.map (il o0 a l)) v:=fun V v h=>by
  obtain⟨vs,A,M,F⟩:=h;refine⟨vs,A,by simpa using M,fun j x E=>?_⟩;rw[u9]at E;obtain⟨y,I,rfl⟩:=u6.1 E;obtain⟨u,u1,U,u3⟩:=F j y I;exact⟨u,u1,U,G y u u3⟩
 refine⟨h1,by simpa using a4,ρ1,⟨g.keep,fun x y q hq=>?_,fun x y x' y' q q' b c c' hq a3 e Z=>?_,fun x y q b c hq e=>?_,g.bar,fun x y q hq=>?_⟩,fun t x E=>?_⟩
 ·rcases Q x y q hq with⟨rfl,rfl,rfl⟩|⟨S,m,A,rfl⟩
  ·refine⟨fun e D=>(by cases D),(g.objs x y o0 K).2.1,?_⟩;rw[W]
  obtain⟨q1,q2,q3⟩:=g.objs x y m A;refine⟨fun e D=>?_,q2,?_⟩
  ·simp only[qQ,aai]at D;obtain⟨Z,P,rfl⟩:=D;rw[aa0];exact q1 Z P
  rw[J x y S];cases hr:L x y with
  |none=>rw[hr]at q3;simp[qQ,q3]
  |some bc=>
   obtain⟨b,c⟩:=bc;rw[hr]at q3;obtain⟨cells,p1,p2,p3,p4,p5⟩:=q3;refine⟨cells,p1,p2,by simpa[qQ] using p3,p4,fun i e j z D T=>?_⟩;simp only[qQ,u9]at D;obtain⟨Z,P,rfl⟩:=u6.1 D;rw[u9]at T;obtain⟨z',ac,rfl⟩:=u6.1 T;obtain⟨u,u1,U,u3⟩:=p5 i Z j z' P ac;exact⟨u,u1,U,G z' u u3⟩
 ·obtain⟨_,F,m,R⟩:=C x y q b c hq e;obtain⟨_,av,a5,a0⟩:=C x' y' q' b c' a3 Z;exact g.inj x y x' y' m a5 b c c' R a0 F av
 ·obtain⟨_,F,m,R⟩:=C x y q b c hq e;exact g.old x y m b c R F
 ·rcases Q x y q hq with⟨rfl,rfl,rfl⟩|⟨S,m,A,rfl⟩
  ·intro e D;cases D
  intro e D z T;simp only[qQ,aai]at D;obtain⟨Z,P,rfl⟩:=D;simp only[aai]at T;obtain⟨z',ac,rfl⟩:=T;have hs:=g.self x y m A Z P z' ac;by_cases E:x=a
  ·subst E;exact Gs hs
  rw[DB E hs];exact hs
 simp only[u9]at E;obtain⟨y,I,rfl⟩:=u6.1 E;obtain⟨v,v1,v2⟩:=ab t y I;refine⟨v,v1,?_⟩;cases y with
 |one x=>exact G x v v2
 |agg V=>exact N V v v2
 |fn f V=>obtain⟨u,h1,h2⟩:=v2;exact⟨u,N V u h1,h2⟩
 |tup ts=>
  obtain⟨vs,A,M,F⟩:=v2;refine⟨vs,A,by simpa using M,fun j b V hj=>?_⟩;rw[u9]at hj;obtain⟨z,T,al⟩:=u6.1 hj;obtain⟨b',ap⟩:=z;simp at al;obtain⟨rfl,rfl⟩:=al;obtain⟨u,u1,U⟩:=F j b' ap T;refine⟨u,u1,?_⟩;rcases U with⟨U,u3⟩|⟨U,q,rfl,u4⟩
  ·exact .inl ⟨U,N _ _ u3⟩
  exact .inr ⟨U,_,rfl,G q u u4⟩
section
section
variable {P:Program} {w0 w w':World} {O X:Nat->Prop} {s s':AS} {a:Act} {ρ:Rho} {γ:Type} {fn:Func} {r:TV} {Post:World->(Nat->Prop)->Exit->Act->World->Prop}
theorem Ct.weak (h:bD s s') (k:Ct P c Post s'):Ct P c Post s:=fun w0 X a w b e=>k w0 X a w b (h _ _ _ _ _ e)
theorem qz {y:Code} (h:bo P c (MS P fn r (kO P fn r) (Ct P y (kO P fn r))) s):Ct P (.seq c y) (kO P fn r) s:=IB h
theorem Nh (S:AS) {y:Code} (h:bo P c (MS P fn r (kO P fn r) (fun s'=>bD s' S)) s) (k:Ct P y (kO P fn r) S):Ct P (.seq c y) (kO P fn r) s:=IB (h.mono fun e s' h=>by
 cases e with
 |normal=>exact Ct.weak h k
 |_=>exact h)
theorem iY {e:Option Nat} {b:List Deferred} {Q:Exit->AS->Prop} {id:Nat} (h: ∀K:AS->Prop,(∀s',ws P e ρ b c Q s'->K s')->mZ P f.toList (some s) K):ws P e ρ b (.seq (.region id f false) c) Q s:=Ng h
theorem sS {c:Option Nat} {b:List Deferred} {Q:Exit->AS->Prop} {id:Nat} (h: ∀K:AS->Prop,(∀s',Q .normal s'->K s')->mZ P f.toList (some s) K):ws P c ρ b (.region id f false) Q s:=Nd h
theorem FD {id:Nat} {b:Array Oper} {q k:Tmp} {Y:Array Tmp} {asg bd tail:Code} {f:FuncId} {ap:Nat×Nat×Nat} {fa:Nat} {F F':List OObj} {tml:List TV} {H:γ->OH} {jump:γ->Option Code} {hH: ∀g,x9 (H g)} {ht:tml.all rr=true} {g0 g1:γ} {rf:TV} (y:List (ao P)) (ow:List Nat) (hm: ∃o,b[b.size-1]?=some o/\o.guard=none/\o.op= .makeFunc (.func f) #[.tmp k] #[]/\o.dst=some q/\q≠k) (aa:0<b.size) (B: ∀(R:AQ) (ρ:Rho) (S: ∀x r c,ρ x r≠some (R.l,c)),R.ps=Y->R.asg=asg->R.bd=bd->qt P (Fi R ρ tml H jump S hH ht) f [.one (.ptr 0 ap.1 ap.2.1 ap.2.2),.raw (.func (.yield R.l) #[] #[])] F F' g0 g1 rf) (N:fa<=4999) (Q:jump g0=none) (L:tml.all (Nu fa)=true) (h:aT P (y.map ao.a) ow (aJ b (b.toList.take (b.size-1)) 0) (some s) (fun z=>z.ev (.tmp k)=some (.one (.ptr fa ap.1 ap.2.1 ap.2.2))/\q<z.tmps.length/\z.H fa=F.map (renO fa)/\H g0=aw z.H fa []/\tml.length=z.tmps.length/\ ∀(t:Nat) x,tml[t]?=some x->x= .one .junk\/(z.put (some q) (.one .junk)).tmps[t]?=some x)) (hQ: ∀(ρ:Rho) (ds:List Deferred),match jump g1 with
   |none=>ws P none ρ ds tail (fun e s'=>(e= .normal\/e= .ret)/\zg P fn r s') ⟨tml,H g1⟩
   |some c=>c= .ret/\zg P fn r ⟨tml,H g1⟩):Ct P (.seq (.seq (.region m b false) (.block id (.rangeFunc (.tmp q) Y asg bd))) tail) (kO P fn r) s:=fun w0 X a w K hr=>by
 obtain⟨z,h1,k1,k2,k3,k4,k5,k6⟩:=aO P (y.map ao.a) ow b _ 0 s _ h;obtain⟨o,ho,hg,V,C,G⟩:=hm;have U:(b.toList.take (b.size-1)).length=b.size-1:=by rw[abc];simp
 refine wp_seq (wp_seq ((wpIn_wide (n:=0)).1 (wpIn_region (F:=FW none) ?_)));rw[show b.size=(b.toList.take (b.size-1)).length+1 by omega,aax,<- abf,aaO];refine B5 (b.toList.take (b.size-1)) 0 s z a w (fun j o v=>?_) h1 hr fun p w' r'=>?_
 ·rw[aaH]at v;split at v
  ·simpa using v
  cases v
 rw[U,aa1,wpOpsIn_cons];unfold wpOpIn;rw[ho];simp only;rw[if_pos (by simp[Region.wanted,hg])];refine⟨fun _ _=>trivial,?_⟩;rw[show Oper.semAt (FW none).round p.eval o=execOp p.eval o from rfl];have A:(execOp p.eval o).run P w'= .ok (.value (.func (.func f) #[p.eval (.tmp k)] #[])) w':=by
  unfold execOp;rw[V];simp only;refine dD ?_;simp[Instr.makeFunc,aaJ]
 rw[A];show(Code.block id (.rangeFunc (.tmp q) Y asg bd)).wp P (Exit.then (tail.wp P (kO P fn r w0 X)) (kO P fn r w0 X)) (p.put o.dst (.func (.func f) #[p.eval (.tmp k)] #[])) w';rw[C];obtain⟨n1,J,ρ,E,W⟩:=r';have r2:da w0 (fun _=>False) X (z.put (some q) (.one .junk)) (p.put (some q) (.func (.func f) #[p.eval (.tmp k)] #[])) w':=eJ n1 J E W trivial;have T:q<p.tmps.size:=Nat.lt_of_lt_of_eq k2 J.symm;have M:(p.put (some q) (.func (.func f) #[p.eval (.tmp k)] #[])).eval (.tmp k)=p.eval (.tmp k):=by
  show(p.tmps.setIfInBounds q _).getD k undef=p.tmps.getD k undef;rw[abI,abI,ab6 G]
 refine wp_block ?_;refine Rn (fs:= #[p.eval (.tmp k)]) (targs:=[.one (.ptr 0 ap.1 ap.2.1 ap.2.2)]) r2 K (by show(p.tmps.setIfInBounds q _)[q]?=_;rw[acb T]) rfl (fun j t v=>?_) N (by rw[fK];exact k3) (by rw[fK];exact k4) Q ⟨by simpa[AS.put] using k5,k6⟩ L (fun R ρ S e1 e2 e3=>B R ρ S e1 e2 e3) (fun Z D w3 u=>?_)
 ·cases j with
  |succ j=>simp at v
  |zero=>
   simp at v;subst v;refine⟨_,rfl,.tmp k,?_,M⟩;show(z.tmps.set q _)[k]?=_;rw[aaI G];exact k1
 have:=hQ Z [{target:= .collected D,args:= #[]}];cases v:jump g1 with
 |none=>
  rw[v]at this;exact QC K u this
 |some c=>
  rw[v]at this;obtain⟨rfl,I⟩:=this;exact wp_ret (AD K u u.rel I (.inr rfl))
end
end
structure v8 where
 left:Int
 steps:List Int
 stop:Bool
variable {g:v8}
def Cj (n m:Nat) (c:Int) (g:v8):v8×Bool:=if g.left<c\/c<0\/m<1\/n<m then(⟨g.left,g.steps,true⟩,false)else(⟨g.left-c,g.steps.set (m-1) (g.steps.getD (m-1) 0+c),false⟩,true)
def XE (n:Nat) (g:v8):Prop:=g.stop=false/\0<=g.left/\g.left<=1000000/\g.steps.length=n/\ ∀z∈g.steps,0<=z/\z+g.left<=1000000
theorem XG (h:XE n g) (f:(Cj n m x g).2=true):XE n (Cj n m x g).1:=by
 unfold Cj at f⊢;split
 ·grind
 rename_i r;obtain⟨l,o,p,q,b⟩:=h;have s:0<=g.steps.getD (m-1) 0/\g.steps.getD (m-1) 0+g.left<=1000000:=by
  rw[aav];cases e:g.steps[m-1]? with
  |none=>grind
  |some z=>exact b z (u5 e)
 refine⟨rfl,by grind,by grind,by grind,fun z j=>?_⟩;grind
def JW (n:Nat) (g:v8):OH:=Hm [(7,[⟨29,1,[[.p (.raw (.int .i64 (if g.stop=true then 9 else 0)))]]⟩]),(9,[⟨2,1,[[.p (.raw (.int .i64 g.left))]]⟩]),(900,[⟨28,1,[[.sl 900 1 0 n]]⟩,⟨3,1,lc fI g.steps⟩,⟨28,1,[[.p (.raw (.slice none 0 0))]]⟩])]
theorem Qz (n:Nat) (g:v8):x9 (JW n g):=fun a o b e f x c=>by
 unfold JW Hm at b;split at b
 ·simp only[aam]at b;subst b;simp only[aam]at f;subst f;simp only[aam]at c;subst c;rfl
 unfold Hm at b;split at b
 ·simp only[aam]at b;subst b;simp only[aam]at f;subst f;simp only[aam]at c;subst c;rfl
 unfold Hm at b;split at b
 ·simp only[aaV,abu,or_false]at b;rcases b with rfl|rfl|rfl
  ·simp only[aam]at f;subst f;simp only[aam]at c;subst c;rfl
  ·obtain⟨z,_,rfl⟩:=aai.1 f;simp only[fI,aaC,aaR,aam]at c;subst c;rfl
  simp only[aam]at f;subst f;simp only[aam]at c;subst c;rfl
 grind [Hm]
def sxJ (g:v8):Option Code:=if g.stop=true then some .ret else none
def XF (g:v8):TV:=if g.stop=true then .tup [(false,[.p (.raw (.slice none 0 0))]),(false,[.p (.raw (.int .i64 9))])]else .tup [(false,[.p (.sl (ls fI g.steps))]),(false,[.p (.raw (.int .i64 0))])]
abbrev Ub:List TV:=(j4 (jk::jk::.one (.ptr 900 2 0 0)::.one (.ptr 7 0 0 0)::.one (.ptr 900 0 0 0)::.one (.ptr 9 0 0 0)::j16 (j16 (j16 (jk::jk::[])))))
theorem L9 {c:v8} (h:c.steps.length=g.steps.length): ∀(x r:Nat) (o:OObj),(JW n g x)[r]?=some o-> ∃b:OObj,(JW n c x)[r]?=some b/\b.es=o.es/\b.elems.length=o.elems.length:=fun x r o e=>by
 simp only[JW,Hm]at e⊢;grind [kC]
theorem Ji {e:Type} {J:e->Prop} {b:Int->e->e×Bool} (h: ∀c g,J g->J (b c g).1): ∀(m:Nat) (x:Int) (g:e),J g->J (lpM b m x g).1
 |0,_,_,f=>f
 |m+1,x,g,f=>by
  have k:=h x g f;unfold lpM;generalize b x g=r at*
  obtain⟨j,t⟩:=r;cases t with
  |true=>exact Ji h m _ _ k
  |false=>exact k
theorem J5 {e:Type} {J:e->Prop} {j:Nat->Int->e->e×Bool} (h: ∀m c g,J g->J (j m c g).1) (f:FF) (n:Nat) (B:Int): ∀(k:Nat) (y:List Int) (g:e),J g->J (jU j f n B k y g).1
 |0,y,g,b=>h _ _ g b
 |k+1,y,g,b=>by
  have q:=h (n-(k+1)) (di f n B (k+1) (aL n y)-cz f n B (k+1) (aL n y)+1) g b;unfold jU;generalize j (n-(k+1)) (di f n B (k+1) (aL n y)-cz f n B (k+1) (aL n y)+1) g=r at*
  obtain⟨l,t⟩:=r;cases t with
  |true=>exact Ji (fun c g b=>J5 h f n B k (c::y) g b) _ _ _ q
  |false=>exact q
theorem XI {b:Type} {J:b->Prop} {j:Nat->Int->b->b×Bool} (h: ∀m c g,J g->J (j m c g).1) (f:FF) (n:Nat) (B:Int) (g:b) (e:J g):J (J3 j f n B g):=by
 unfold J3;split
 ·exact h _ _ g e
 exact J5 h f n B _ _ g e
theorem JX (h:g.steps.length=n):(Cj n m x g).1.steps.length=n:=by
 grind [Cj]
theorem MZ {a:Nat} {c:List Int} (e:s.H a=XX a x n (n+1) n (ae n 0) c b):bD s ⟨s.tmps,aw s.H a (ss a x n n [] c b)⟩:=by
 have h:=mu (s:=s) a 1 (o:=⟨2,1,lc fI (ae n 0)⟩) (o':=⟨2,1,gM n++lc fI []⟩) (by rw[e];rfl) rfl rfl (by simp only[jP,kC,aaX,ab3];omega) fun i f g=>by
  grind [gM,lc,fI]
 grind
theorem Vh (n:Nat):ae n [AV.p (.raw (.int .i64 0))]=lc fI (ae n 0):=by simp[lc,fI]
theorem RY {k:Int} (u:X3 n h) (O:isReducedM (mat n n h)=true) (P:ZI n h x) (h0:0<=x) (X:x<=4611686018427387904) (hc:n=1\/x<1073741824) (y:0<=k) (A:k<=1000000):
  CallC prog 87 [dn (mat n n h),.raw (.int .i64 x),.raw (.int .i64 k)] ⟨[],XF (J3 (Cj n) h n x ⟨k,ae n 0,false⟩)⟩:=by
 have ac:=u.n1;have T:=u.n16;have r:=aU n n h;have v:=ff (mat n n h);rw[O]at v;have N:=Lp u x;refine Da func87 rfl (by kernel_rfl) ?_;rw[ntmps87];refine qz ?_;refine UR (k:=?_);show Ct _ _ _ _;refine Nh ⟨(dn (mat n n h)::.raw (.int .i64 x)::.raw (.int .i64 k)::jk::jk::jk::.one (.ptr 6 0 0 0)::.one (.ptr 7 0 0 0)::j16 (j16 (j16 (j4 ([]))))),Hm [(6,[⟨28,1,[[.p (.raw (.slice none 0 0))]]⟩]),(7,[⟨29,1,[[.p (.raw (.int .i64 0))]]⟩])]⟩ (am ?_) ?_
 ·refine bM [⟨1,_,_,_,v⟩] (k:=aq rfl (ai (ar (k:=aq rfl (ar (k:=aq rfl (ar (k:=aq rfl (bL (k:=aq rfl ?_))))))))));by_cases S:n=1
  ·subst S;refine aK r (k:=aq rfl (ak ?_));refine aj ⟨rfl,rfl,trivial⟩ ?_;simp[wk]
  have hB:=hc.resolve_left S;refine aK r (k:=aq rfl (ak ?_));refine aj ⟨rfl,rfl,trivial⟩ ?_;simp[wk]
 refine qz ?_;refine Km 4 [] [] (by simp[wk]) (by decide) fun _ K=>?_;simp(disch:=omega) only[kd,aa,dn,r,ab];apply K
 refine⟨_,lU 8 36 900 rfl rfl rfl (by simp[dS,isPure]) (fun e Q j C=>by rw[Vh]at Q;exact bF 3 1 _ e Q j C) (by omega) (by omega) (by omega),by simp[wk],?_⟩;simp only[aaC,aaR,ST,adn,mW,fY,pG];intro _ K;simp(disch:=omega) only[kd,ab];apply K;show Ct _ _ _ _;refine Ct.weak ((MV 6 900 rfl (by simp[dS,isPure]) (by omega) (by omega)).trans (aj (tm:=(dn (mat n n h)::.raw (.int .i64 x)::.raw (.int .i64 k)::jk::jk::jk::.one (.ptr 900 2 0 0)::.one (.ptr 7 0 0 0)::.one (.ptr 900 0 0 0)::j16 (j16 (j16 (jk::jk::jk::[]))))) (l:=[(7,[⟨29,1,[[.p (.raw (.int .i64 0))]]⟩]),(900,[⟨28,1,[[.sl 900 1 0 n]]⟩,⟨3,1,lc fI (ae n 0)⟩,⟨28,1,[[.p (.raw (.slice none 0 0))]]⟩])]) ⟨rfl,?_,trivial⟩ ?_)) ?_
 ·rw[<- Vh];rfl
 ·simp[wk,mW,fY,pG,aw,Hm]
 refine qz ?_;refine bL (k:=?_);show Ct _ _ _ _;refine qz ?_;refine Yx [⟨2,_,_,_,N⟩] (k:=?_);show Ct _ _ _ _;refine Ct.weak ((MZ (a:=40) rfl).trans (aj (tm:=(j4 (jk::jk::.one (.ptr 900 2 0 0)::.one (.ptr 7 0 0 0)::.one (.ptr 900 0 0 0)::.one (.ptr 9 0 0 0)::.one (.ptr 40 0 0 0)::j16 (j16 (j16 (jk::[])))))) (l:=[(7,[⟨29,1,[[.p (.raw (.int .i64 0))]]⟩]),(9,[⟨2,1,[[.p (.raw (.int .i64 k))]]⟩]),(40,ss 40 x n n [] (aQ (n+1) (dk h)) (fo n h n)),(900,[⟨28,1,[[.sl 900 1 0 n]]⟩,⟨3,1,lc fI (ae n 0)⟩,⟨28,1,[[.p (.raw (.slice none 0 0))]]⟩])]) ⟨rfl,rfl,rfl,rfl,trivial⟩ ?_)) ?_
 ·simp[wk]
 have s:XE n ⟨k,ae n 0,false⟩:=⟨rfl,y,A,by simp,fun z D=>by
  grind⟩
 have q:(v8.steps (J3 (Cj n) h n x ⟨k,ae n 0,false⟩)).length=n:=XI (J:=fun g:v8=>g.steps.length=n) (fun m c g b=>JX b) h n x _ (by simp);refine FD (tml:=Ub) (H:=JW n) (jump:=sxJ) (hH:=Qz n) (ht:=rfl) (g0:=⟨k,ae n 0,false⟩) (g1:=J3 (Cj n) h n x ⟨k,ae n 0,false⟩) (ap:=(0,0,0)) (fa:=40) (F:=ss 0 x n n [] (aQ (n+1) (dk h)) (fo n h n)) (F':=ss 0 x n n [] (aQ (n+1) (dk h)) (fo n h n)) (rf:= .tup []) (f:=131) (k:=41) [] [] ?_ ?_ ?_ (by omega) rfl rfl ?_ ?_
 ·simp
 ·decide
 ·intro R ρ hl I L M;refine Ue P (fun m c g hg X h2 h3 h4=>?_) (fun m c g b=>XG b) _ s;obtain⟨E,q2,q3,G,U⟩:=hg;refine Ij I rfl rfl (by simp[sxJ,E]) (L9 ((JX G).trans G.symm)) ?_;rw[L,M];clear I L M hl N v P q s u O;obtain⟨left,steps,stop⟩:=g;simp only at E q2 q3 G U;subst E;obtain⟨z,D⟩: ∃z,steps[m-1]?=some z:=⟨_,aau (by omega)⟩;have ad:=U z (u5 D);have V:IntKind.i64.wrap ((m:Int)-1)=((m-1:Nat):Int):=by grind [aR]
  by_cases w:left<c
  ·have e:Cj n m c ⟨left,steps,false⟩=(⟨left,steps,true⟩,false):=if_pos (.inl w);rw[e];refine iY fun _ K=>?_;simp(disch:=omega) only[kd,mZ,abz,qB,nH,Ub,JW,yD];apply K
   refine sS fun _ K=>?_;simp(disch:=omega) only[kd,mZ,abz,qB,nH,yD];apply K
   refine⟨rfl,zp ?_⟩;refine AU (iY fun _ K=>?_);simp(disch:=omega) only[kd,mZ,abz,qB,nH,yD,ab];apply K;refine CW rfl (fun _=>?_) (fun b=>by cases b);refine iY fun _ K=>?_;simp(disch:=omega) only[kd,mZ,abz,qB,nH,yD,ab];apply K
   refine IA ?_;refine⟨?_,.inr ⟨rfl,rfl,rfl⟩⟩;funext j;by_cases Y:j=7
   ·subst Y;rfl
   by_cases o:j=900
   ·subst o;rfl
   simp_all[JW,Hm,aw]
  have e:Cj n m c ⟨left,steps,false⟩=(⟨left-c,steps.set (m-1) (steps.getD (m-1) 0+c),false⟩,true):=if_neg (by grind);have W:steps.getD (m-1) 0=z:=by grind
  rw[e,W];refine iY fun _ K=>?_;simp(disch:=omega) only[kd,mZ,abz,qB,nH,Ub,JW,yD];apply K
  refine sS fun _ K=>?_;simp(disch:=omega) only[kd,mZ,abz,qB,nH,yD];apply K
  refine⟨rfl,zp ?_⟩;refine AU (iY fun _ K=>?_);simp(disch:=omega) only[kd,mZ,abz,qB,nH,yD,ab];apply K;refine CW rfl (fun b=>by cases b) (fun _=>Nf ?_);show ws _ _ _ _ _ _ _;refine iY fun _ K=>?_;simp(disch:=omega) only[kd,mZ,abz,qB,nH,yD,ab,aR];apply K
  refine sS fun _ K=>?_;simp(disch:=omega) only[kd,mZ,abz,qB,nH,yD,ab,V,D,aR];apply K
  refine⟨?_,.inl ⟨rfl,rfl,rfl⟩⟩;funext j;by_cases Z:j=9
  ·subst Z;rfl
  by_cases o:j=900
  ·simp_all[JW,Hm,aw,lc,fI]
  simp_all[JW,Hm,aw]
 ·simp(disch:=omega) only[kd,abw,aa,Nat.reduceSub,JW,Ub,ab];refine⟨by decide,by rw[iG];simp[lc],?_,?_⟩
  ·grind [aw]
  have hq: ∀l:List TV,Vr [7,9,900] l Ub-> ∀(t:Nat) j,Ub[t]?=some j->j=jk\/l[t]?=some j:=fun l b t j C=>((Cq b).2 t j C).imp_right fun b=>b.1
  exact hq _ (by unfold Ub;simp[wk])
 intro ρ ds;generalize J3 (Cj n) h n x ⟨k,ae n 0,false⟩=g at*
 obtain⟨left,steps,stop⟩:=g;cases stop with
 |true=>
  refine⟨rfl,_,bD.refl _,?_,rfl⟩;simp(disch:=omega) only[kd,results87,Ub,JW,ab,XF]
 |false=>
  show ws _ _ _ _ _ _ _;simp only at q;refine iY fun _ K=>?_;simp(disch:=omega) only[kd,mZ,abz,qB,nH,Ub,JW,yD,ab];apply K
  refine IA ⟨.inr rfl,_,wc 900 1 (o0:=⟨3,1,lc fI steps⟩) rfl (bF _ _ _),?_,rfl⟩;simp only[aaC,aaR,I6,il,qQ];simp(disch:=omega) only[kd,results87,ab,reduceCtorEq,qQ,il,XF];grind
abbrev L8 (e:Int):TV:= .tup [(false,[.p (.raw (.slice none 0 0))]),(false,[.p (.raw (.int .i64 e))])]
theorem RV (M:List (List Int)) (B k:Int) (h:isReducedM M=false):CallC prog 87 [dn M,.raw (.int .i64 B),.raw (.int .i64 k)] ⟨[],L8 6⟩:=by
 have b:=ff M;rw[h]at b;refine ay func87 rfl ntmps87 (aA (k:=ai (am (bM [⟨1,_,_,_,b⟩] (k:=aC rfl (ar (k:=aG @results87)))))))
theorem RW (M:List (List Int)) (B k:Int) (h:isReducedM M=true) (g:B<0\/4611686018427387904<B\/k<0\/1000000<k):CallC prog 87 [dn M,.raw (.int .i64 B),.raw (.int .i64 k)] ⟨[],L8 1⟩:=by
 have b:=ff M;rw[h]at b;refine ay func87 rfl ntmps87 (aA (k:=ai (am (bM [⟨1,_,_,_,b⟩] (k:=aq rfl (ai ?_))))));by_cases c:B<0
 ·refine ar (k:=aC rfl (ak (aC rfl (ar (k:=aG @results87)))))
 refine ar (k:=aq rfl ?_);by_cases e:4611686018427387904<B
 ·refine ar (k:=aC rfl (ak (aC rfl (ar (k:=aG @results87)))))
 refine ar (k:=aq rfl ?_);by_cases f:k<0
 ·refine ar (k:=aC rfl (ak (aC rfl (ar (k:=aG @results87)))))
 refine ar (k:=aq rfl (bL (k:=aC rfl (ar (k:=aG @results87)))))
theorem RX (M:List (List Int)) (B k:Int) (h:isReducedM M=true) (g:0<=B) (j:B<=4611686018427387904) (c:0<=k) (e:k<=1000000) (m:1<M.length) (f:M.length<=1000) (l:1073741824<=B):CallC prog 87 [dn M,.raw (.int .i64 B),.raw (.int .i64 k)] ⟨[],L8 9⟩:=by
 have b:=ff M;rw[h]at b;refine ay func87 rfl ntmps87 (aA (k:=ai (am (bM [⟨1,_,_,_,b⟩] (k:=aq rfl (ai (ar (k:=aq rfl (ar (k:=aq rfl (ar (k:=aq rfl (bL (k:=aq rfl (ar (k:=aC rfl (ar (k:=aG @results87))))))))))))))))))
abbrev Y0 (b:Nat):PV:= .raw (.pointer (some ⟨b,0,none⟩))
abbrev Vd:List PV:=[.raw (.bool true)]
theorem XK (b:Nat) {i j:Nat} (q:i<n) (r:j<m) (u:n<=16) (t:m<=16) (g:I64 (h i j)):
  CallT prog b 4 241 [.raw (.int .i64 (i:Int)),.raw (.int .i64 (j:Int)),.one (.p (.ptr (lG (mat n m h)))),.one (.p (Y0 b))] Vd ⟨[],.raw (.int .i64 (h i j))⟩ Vd:=by
 have s:=bE m h q;have o:=aB (h i) r;have e:=DD (h i j) g.bg;rw[YQ g]at e;refine kA func241 rfl (by kernel_rfl) ?_;rw[ntmps241];refine CZ 3 900 rfl rfl ?_;refine eY.weak (aj (tm:=(.raw (.int .i64 (i:Int))::rN j::.one (.p (.ptr (lG (mat n m h))))::.one (.ptr 900 0 0 0)::j16 (j4 (jk::[])))) (l:=[(900,[⟨4,1,[[.p (.raw (.bool true))]]⟩])]) ⟨rfl,trivial⟩ (by simp[wk,FR,wE,ae])) ?_;refine eF (k:=VU [⟨7,_,_,_,e⟩] (aH s o) (k:=eF (k:=eF (k:=?_))));refine iB ⟨Vd,rfl,rfl,.inr rfl,rfl,cd rfl ?_ rfl⟩;simp(disch:=omega) only[kd,results241,tj,jR]
theorem NB (b:Nat) (n c:Nat) (f:FF) (A:1<=n) (z:n<=16) (v:1<=c) (u:c<=16) (w: ∀i j,i<n->j<c->I64 (f i j)):
  CallT prog b 4 240 [.raw (.int .i64 (n:Int)),.raw (.int .i64 (c:Int)),.fn 241 [.p (.ptr (lG (mat n c f))),.p (Y0 b)]] Vd ⟨[],dn (mat n c f)⟩ Vd:=by
 refine kA func240 rfl (by kernel_rfl) ?_;rw[ntmps240];refine US (k:=db (k:=b8 (db (k:=?_))));refine kv (G:=jo n) (fun g=>⟨(jk::rN c::.fn 241 [.p (.ptr (lG (mat n c f))),.p (Y0 b)]::j4 (.one (.sl 11 0 0 n)::j4 (jk::rN n::rN g.i::j16 (j4 (j4 (j4 ([]))))))),Hm [(11,kI 11 n c g.i (part f g.i 0))]⟩) (fun _=>Vd) (fun g=>n-g.i) ⟨0,by omega⟩ ?_ rfl ?_
 ·refine aj ⟨?_,trivial⟩ ?_
  ·rfl
  simp[wk]
 rintro⟨i,x⟩;simp only;by_cases m:i<n
 ·have B:=Bp (i:=i) (n:=n) 11 c m;have I:=n9 (i:=i) (n:=n) 11 c x;have C:=aU i c (part f i 0);have D:=vm (i:=i) (n:=n) (c:=c) 11 (part f i 0) m (fun j y=>by grind [part]);have r:=xo (i:=i+1) (k:=i) (n:=n) 11 c (by omega);have J:=n9 (i:=i+1) (n:=n) 11 c (by omega);have L:=ee (n:=i+1) c (part f i 0) (i:=i) (by omega);refine db (k:=sU rfl (b8 (cY (db (k:=kP (aH B (aH @aaX (aH @acr C))) (k:=?_))))));refine dW.weak (aj (tm:=(jk::rN c::.fn 241 [.p (.ptr (lG (mat n c f))),.p (Y0 b)]::j4 (.one (.sl 11 0 0 n)::rN i::j4 (.raw (.int .i64 (n:Int))::rN i::j16 (j4 (j4 (j4 ([])))))))) (l:=[(11,kI 11 n c (i+1) (part f i 0))]) ⟨?_,trivial⟩ (by simp[wk])) ?_
  ·first|exact D|rfl
  refine kP r (k:=?_);refine kv (G:=jo c) (fun g=>⟨(jk::rN c::.fn 241 [.p (.ptr (lG (mat n c f))),.p (Y0 b)]::j4 (.one (.sl 11 0 0 n)::rN i::j4 (.raw (.int .i64 (n:Int))::rN i::j4 (j4 (jk::jk::jk::rN c::rN g.i::j4 (j4 (j4 (jk::jk::jk::[])))))))),Hm [(11,kI 11 n c (i+1) (part f i g.i))]⟩) (fun _=>Vd) (fun g=>c-g.i) ⟨0,by omega⟩ ?_ rfl ?_
  ·refine aj ⟨rfl,trivial⟩ ?_;simp[wk]
  rintro⟨j,y⟩;simp only;by_cases h:j<c
  ·have s:=XK b m h z u (w i j m h);have E:=ee (n:=i+1) c (part f i j) (i:=i) (by omega);have F:=aB (part f i j i) h;refine db (k:=sU rfl (b8 (cY (db (k:=?_)))));refine kw cf 8 s [] [] (by kernel_rfl) (by kernel_rfl) (by rfl) (by rfl) fun _ K=>?_;simp(disch:=omega) only[kd,aa,r,E,F,iJ];apply K
   show dW _ _ _ _ _ _ _;refine uM (k:=?_);refine⟨⟨j+1,by omega⟩,by grind,aj ⟨?_,trivial⟩ ?_,rfl⟩
   ·show _::_=_::_;rw[gY fun a b _ _=>io f i j a b]
   simp[wk]
  have q:j=c:=by omega
  subst q;refine db (k:=sT rfl (uM (k:=?_)));refine⟨⟨i+1,by omega⟩,by grind,aj ⟨?_,trivial⟩ ?_,rfl⟩
  ·grind [gY,jK]
  simp[wk]
 have o:i=n:=by omega
 subst o;refine db (k:=sT rfl (db (k:=?_)));refine dW.weak ((bH 11 (fQ (n:=i) (c:=c) (f:=part f i 0) (GC 11 i c (part f i 0)))).trans (aj (tm:=(j4 (jk::jk::dn (mat i c f)::j16 (j16 (j4 ([])))))) (l:=[]) trivial ?_)) ?_
 ·have e:=xg (H:=Hm [(11,kI 11 i c i (part f i 0))]) (d:=11) (n:=i) (c:=c) (f:=part f i 0) (GC 11 i c (part f i 0));rw[gu fun a b t _=>jJ f a b t]at e;simp[wk];exact e.symm
 (refine mw ⟨.inr rfl,rfl,cd rfl ?_ rfl⟩;simp(disch:=omega) only[kd,results240,dn])
theorem LE (n c:Nat) (f:FF) (e:1<=n) (o:n<=16) (g:1<=c) (m:c<=16) (r: ∀i j,i<n->j<c->I64 (f i j)):
  CallC prog 203 [dF (mat n c f)] ⟨[],.tup [(false,[.p (.sl (ls (fR fI) (mat n c f)))]),(false,[.p (.raw (.bool true))])]⟩:=by
 have h:=Ex (mat n c f);rw[iN (mQ f e o g m),aU,iI f e]at h;refine ay func203 rfl ntmps203 (aA (k:=bK [⟨1,_,_,_,h⟩] (k:=ai (ar (k:=aq rfl (ak ?_))))));refine bo.weak ((qx 1 1 (cs:=lG (mat n c f)) rfl rfl).trans (aj (tm:=(jk::.one (.p (.ptr (lG (mat n c f))))::jk::jk::rN n::rN c::.one (.ptr 6 0 0 0)::j16 ([]))) (l:=[(6,[⟨4,1,[[.p (.raw (.bool true))]]⟩])]) ⟨rfl,trivial⟩ (by simp[wk,fc,dN]))) ?_;refine ai (wg 6 (cs:=Vd) rfl fun b=>?_);refine dW.weak (aj (tm:=(jk::.one (.p (.ptr (lG (mat n c f))))::jk::jk::rN n::rN c::df b::j16 ([]))) (l:=[]) trivial (by simp[wk,tj,jR])) ?_;have q:=NB b n c f e o g m r;refine ij 3 q [] [] (by kernel_rfl) (by rfl) (by rfl) fun _ K=>?_;simp only[kd,lG,dn,aa,df,jv];apply K
 refine⟨rfl,?_⟩;show bo _ _ _ _;refine bo.weak (aj (tm:=(j4 (jk::jk::.one (.ptr 6 0 0 0)::dn (mat n c f)::j4 (j4 (j4 (jk::jk::jk::[])))))) (l:=[(6,[⟨4,1,[[.p (.raw (.bool true))]]⟩])]) ⟨rfl,trivial⟩ (by simp[wk,FR,wE])) ?_;refine ai (bz (k:=aq rfl (ak (bz (k:=aG @results203)))))
theorem Oj {H:OH} {a:Nat} {l m:OObj} (h:H a=[e,l,m]) (q: ∀b∈e.elems,∀x∈b,isPure x=true\/(∃f len,x= .sl a 1 f len)\/ ∃f len,x= .sl a 2 f len) (n:dS l) (p:dS m):uQ H a:=fun r o c b g x j=>by
 rw[h]at c
 match r with
 |0=>
  grind
 |1=>
  injection c with c
  subst c;exact .inl (n b g x j)
 |2=>
  injection c with c
  subst c;exact .inl (p b g x j)
 |r+3=>simp at c
def Zn (n:Nat) (f:FF):Prop:= ∀k i j,k<n->k<=i->i<n->k<=j->j<n->I64 (bk f k i j)
theorem OM (n:Nat) (f:FF) (k:Nat):List.drop 1 (List.take (n-k) (aQ (n-k) (elF f k 0)))=nF n f k:=by
 rw[aar (by rw[aI];omega)];show _=aQ _ _;apply aay;intro b;rw[aaN];by_cases c:b<n-k-1
 ·rw[aB _ (by omega),aB _ c,abX 1 b];rfl
 grind [aI]
abbrev ZR (n:Nat) (f:FF):TV:= .agg [.p (.sl (ls fI (aQ (n+1) (dk f)))),.p (.sl (ls (fR fI) (fo n f n)))]
theorem Jt {s:FuncId} (w:s=138\/s=145) (o:X3 n h) (I:Zn n h):CallC prog s [dn (mat n n h)] ⟨[],ZR n h⟩:=by
 have g:=o.n1;have A:=o.n16;have u:=uz n n h g A g A o.i;have r:=CI n h g A fun i j E L=>(o.i i j E L).sz (by omega)
 rw[yu o.nz]at r;have z:=rW n h n;have B: ∀k,k<n->(uH n h n)[k]?=some (KW n h k):=fun k M=>by simp[uH,M]
 have N:[[AV.p (.raw (.int .i64 1))]]=lc fI (aQ 1 (dk h)):=by
  rfl
 rcases w with rfl|rfl
 all_goals
  first
  |(refine fk func138 rfl (by kernel_rfl) ?_;rw[ntmps138];let D:TypeId:=180)
  |(refine fk func145 rfl (by kernel_rfl) ?_;rw[ntmps145];let D:TypeId:=188)
  (first|refine ax fun _ K=>?_|refine ai (ax fun _ K=>?_)|refine ai (ai (ax fun _ K=>?_)));simp(disch:=omega) only[kd,dn,ae,aa];apply K
  (first|refine bC [⟨1,_,_,_,u⟩] [] fun _ K=>?_|refine ai (bC [⟨1,_,_,_,u⟩] [] fun _ K=>?_)|refine ai (ai (bC [⟨1,_,_,_,u⟩] [] fun _ K=>?_)));simp only[kd,dn,Ry,aa];apply K
  (first|refine bC [⟨1,_,_,_,r⟩] [] fun _ K=>?_|refine ai (bC [⟨1,_,_,_,r⟩] [] fun _ K=>?_)|refine ai (ai (bC [⟨1,_,_,_,r⟩] [] fun _ K=>?_)));simp only[kd,dF,aa];apply K
  (first|refine ii 3 [] [22] (by simp[wk]) (by decide) fun _ K=>?_|refine ai (ii 3 [] [22] (by simp[wk]) (by decide) fun _ K=>?_));simp(disch:=omega) only[kd,aa,Nat.reduceMul,Nat.reduceLeDiff,ab];apply K
  refine⟨_,(lU 7 22 900 rfl rfl rfl (by simp[dS,isPure]) (by simp[dS,isPure]) (by omega) (by omega) (by omega)),by simp[wk],?_⟩;simp only[aaC,aaR,ST,adn,mW,fY,pG];intro _ K;simp(disch:=omega) only[kd,ab,aa];apply K;refine bo.weak (lV 900 0 0 1 35 1 (by omega) rfl rfl rfl) ?_
  (first|refine ax fun _ K=>?_|refine ai (ax fun _ K=>?_)|refine ai (ai (ax fun _ K=>?_)));simp(disch:=omega) only[kd,aa,ab,z];apply K
  refine aF (G:=jo n) (fun q=>⟨(jk::jk::.one (.ptr 2 0 0 0)::j4 (.one (.ptr 900 0 0 0)::j16 (.one (.p (.sl (ls fM (uH n h n))))::rN n::rN q.i::j16 (j4 (j4 (j4 (jk::[]))))))),Hm [(2,[⟨D,2,[[.p (.raw (.slice none 0 0)),.p (.raw (.slice none 0 0))]]⟩]),(900,[⟨D,2,[[.sl 900 1 0 (q.i+1),.sl 900 2 0 q.i]]⟩,⟨2,1,lc fI (aQ (q.i+1) (dk h))⟩,⟨35,1,lc (fR fI) (fo n h q.i)⟩])]⟩) (fun q=>n-q.i) ⟨0,by omega⟩ ?_ ?_
  ·refine aj ⟨rfl,?_,trivial⟩ ?_
   ·rfl
   simp[wk]
  rintro⟨i,E⟩;simp only;by_cases F:i<n
  ·have O:=B i F;have v:=LE (n-i) (n-i) (elF h i) (by omega) (by omega) (by omega) (by omega) (fun a b R J=>I i (i+a) (i+b) F (by omega) (by omega) (by omega) (by omega));have H:=bE (n-i) (elF h i) (show 0<n-i by omega);have P:=aB (elF h i 0) (show 0<n-i by omega);have U:=aU (n-i) (n-i) (elF h i);have Q:=aI (n-i) (elF h i 0);have m:=aI (i+1) (dk h);have l:=l9 n h i;have C:=OM n h i;have t:1<=n-i:=by omega
   (first|refine ax fun _ K=>?_|refine ai (ax fun _ K=>?_)|refine ai (ai (ax fun _ K=>?_)));simp(disch:=omega) only[kd];apply K
   first|refine bi rfl ?_|refine ai (aZ rfl (fun _=>ak ?_) (fun c=>by simp at c<;>omega))
   refine ai (am ?_)
   (first|refine ax fun _ K=>?_|refine ai (ax fun _ K=>?_)|refine ai (ai (ax fun _ K=>?_)));simp(disch:=omega) only[kd,aa,O,fM];apply K
   (first|refine bC [⟨1,_,_,_,v⟩] [] fun _ K=>?_|refine ai (bC [⟨1,_,_,_,v⟩] [] fun _ K=>?_)|refine ai (ai (bC [⟨1,_,_,_,v⟩] [] fun _ K=>?_)));simp only[kd,dF,aa];apply K
   (first|refine kp cf (by kernel_rfl) fun _ K=>?_|refine ai (kp cf (by kernel_rfl) fun _ K=>?_)|refine ai (ai (kp cf (by kernel_rfl) fun _ K=>?_)));simp(disch:=omega) only[kd,aa,ab,Int.reduceToNat,H,fR,P,l6,Nat.reduceMul,Nat.reduceLeDiff,m,Nat.reduceBEq,xt];apply K
   refine sX (aH H (aH Q (aH t (aH (kD Gn) (aH C (aH l @tf)))))) (k:=bL (k:=?_));refine⟨⟨i+1,by omega⟩,by grind,aj ⟨rfl,?_,trivial⟩ ?_⟩
   ·rw[jd (i+1),<- zQ n h i];rfl
   simp[wk]
  have y:i=n:=by omega
  subst y;have m:=aI (i+1) (dk h);have l:=l9 i h i
  (first|refine ax fun _ K=>?_|refine ai (ax fun _ K=>?_)|refine ai (ai (ax fun _ K=>?_)));simp(disch:=omega) only[kd];apply K
  first|refine bv rfl ?_|refine ai (aZ rfl (fun c=>by simp at c<;>omega) (fun _=>aY ?_))
  show bo _ _ _ _
  (first|refine ii 1 [] [] (by simp[wk]) (by decide) fun _ K=>?_|refine ai (ii 1 [] [] (by simp[wk]) (by decide) fun _ K=>?_));simp only[kd,ab,aa];apply K
  refine⟨_,bH 900 (Oj rfl (fun e S x T=>?_) (bF _ _ _) (bF _ _ _)),by simp[wk],?_⟩
  ·grind
  simp only[aaC,aaR,fc,dN];intro _ K;simp(disch:=omega) only[kd,ab,aa];apply K
  (refine aW ⟨.inr rfl,cd rfl ?_ rfl⟩;simp(disch:=omega) only[kd,results138,ab,aa,results145])
  grind
def fV (p:Int×Int):List PV:=[.raw (.int .i64 p.1),.raw (.int .i64 p.2)]
abbrev Yb (l:List (Int×Int)):TV:= .one (.p (.sl (ls fV l)))
theorem SO (f:FF) (B:Int) (o:0<f 0 0) (s:f 0 0<=4611686018427387904) (c:0<=B) (x:B<=4611686018427387904):CallC prog 94 [dn (mat 1 1 f),.raw (.int .i64 B)] ⟨[],Yb [(-isqF (B/f 0 0),isqF (B/f 0 0))]⟩:=by
 have b:0<=B/f 0 0:=abW c (by omega);have t:B/f 0 0<=B:=acX _ c;have w:=n4 b (by omega);have cR:=x4 (.inr (.inr rfl)) (B/f 0 0) b (by omega);have h:Int.tdiv B (f 0 0)=B/f 0 0:=abB c;have g:(f 0 0=0)=False:=eq_false (by omega);have e:=aU 1 1 f;have u:=bE (n:=1) 1 f (i:=0) (by omega);have l:=aB (m:=1) (f 0) (j:=0) (by omega);have v:=aI 1 (f 0);show CallC _ _ _ ⟨[],.one (.p (.sl [[.raw (.int .i64 (-isqF (B/f 0 0))),.raw (.int .i64 (isqF (B/f 0 0)))]]))⟩;rw[show -isqF (B/f 0 0)=0-isqF (B/f 0 0) by omega];generalize B/f 0 0=q at*
 generalize isqF q=r at*
 generalize f 0 0=d at*
 refine ay func94 rfl ntmps94 (aA (k:=fL e (k:=ai (ar (k:=aC rfl (cn [⟨7,_,_,_,cR⟩] (aH u (aH l h)) (k:=ar (k:=aG @results94))))))))
theorem RF (M:List (List Int)) (B k e:Int) (f:e≠0) (c:CallC prog 87 [dn M,.raw (.int .i64 B),.raw (.int .i64 k)] ⟨[],L8 e⟩):CallC prog 44 [dn M,.raw (.int .i64 B),.raw (.int .i64 k)] ⟨[],L8 e⟩:=by
 have b:(e=0)=False:=eq_false f;refine ay func44 rfl ntmps44 (aA (k:=ai (bM [⟨3,_,_,_,c⟩] (k:=fL b (k:=aC rfl (bz (k:=aG @results44)))))))
theorem RG (M:List (List Int)) (B k:Int) (L:List Int) (l:List (Int×Int)) (c:CallC prog 87 [dn M,.raw (.int .i64 B),.raw (.int .i64 k)] ⟨[],.tup [(false,[.p (.sl (ls fI L))]),(false,[.p (.raw (.int .i64 0))])]⟩) (b:CallC prog 94 [dn M,.raw (.int .i64 B)] ⟨[],Yb l⟩):
  CallC prog 44 [dn M,.raw (.int .i64 B),.raw (.int .i64 k)] ⟨[],.tup [(false,[.p (.sl (ls fV l))]),(false,[.p (.raw (.int .i64 0))])]⟩:=by
 refine ay func44 rfl ntmps44 (aA (k:=ai (bM [⟨3,_,_,_,c⟩] (k:=ar (k:=aq rfl (ak (bM [⟨2,_,_,_,b⟩] (k:=aG @results44))))))))
section
variable {n:Nat} {f:FF}
theorem qh (b:RedR f n) (l:n<=8) (m: ∀i j,i<n->j<n-> -262144<=f i j/\f i j<=262144):Zn n f:=fun k i j o g c h e=>by
 have:=kQ l b.1 (fun i c j e=>m i j c e) o (fun t p=>⟨b.2.1 t (by omega),fP (by omega) l b t (by omega),(b.2.2.2 t (by omega)).1⟩) g c h e;constructor<;>omega
theorem G0 (c:RedR f n) (o:1<=n) (l:n<=8) (m: ∀i j,i<n->j<n-> -262144<=f i j/\f i j<=262144):X3 n f:=by
 have h:=qh c l m;have p: ∀k,k<=n->0<dk f k/\dk f k<65536:=fun k b=>by
  cases k with
  |zero=>rw[cu];omega
  |succ k=>exact⟨c.2.1 k (by omega),fP (by omega) l c k (by omega)⟩
 refine⟨o,by omega,fun t r=>?_,fun i j q e=>?_,fun k b=>?_,fun k j b e=>?_⟩
 ·grind
 ·have:=m i j q e;constructor<;>omega
 ·have:=p k b;constructor<;>omega
 by_cases g:j<k
 ·rw[A2 c.pd (by omega) b g];constructor<;>omega
 exact h k k j b (aaq k) b (by omega) e
theorem W9 (g:RedR f n) (e:n<=8) (b:0<=x) (c:x<=1073741824):pn n f x:=⟨g,e,b,c⟩
theorem W8 (b:RedR f n) (l:1<=n) (e:n<=8) (c:0<=x) (h:x<=4611686018427387904) (j:n=1\/x<1073741824):ZI n f x:=by
 by_cases g:n=1
 ·subst g;have m:dk f 1<65536:=fP (by omega) e b 0 (by omega);exact .inl ⟨rfl,b.2.1 0 (by omega),by omega,c,h⟩
 have:=j.resolve_left g;exact .inr ⟨by omega,b,e,c,by omega⟩
end
theorem Ei (c:isReducedM b=true):b=mat b.length b.length (ent b)/\1<=b.length/\b.length<=8/\RedR (ent b) b.length/\ ∀i j,i<b.length->j<b.length-> -262144<=ent b i j/\ent b i j<=262144:=by
 obtain⟨f,g,e,h⟩:=(fS b).1 c;obtain⟨_,_,_,l⟩:=i9 c;grind [Jl,List.mem_iff_getElem?,lE]
noncomputable def Ye (M:List (List Int)) (B k:Int):TV:=
 if isReducedM M=true then
  if B<0\/4611686018427387904<B\/k<0\/1000000<k then L8 1
  else if 1<M.length/\1073741824<=B then L8 9
  else XF (J3 (Cj M.length) (ent M) M.length B ⟨k,ae M.length 0,false⟩)
 else L8 6
theorem D9 (M:List (List Int)) (B k:Int):CallC prog 87 [dn M,.raw (.int .i64 B),.raw (.int .i64 k)] ⟨[],Ye M B k⟩:=by
 unfold Ye;by_cases b:isReducedM M=true
 ·rw[if_pos b];by_cases f:B<0\/4611686018427387904<B\/k<0\/1000000<k
  ·rw[if_pos f];exact RW M B k b f
  rw[if_neg f];obtain⟨e,g,h,m,j⟩:=Ei b;by_cases c:1<M.length/\1073741824<=B
  ·rw[if_pos c];exact RX M B k b (by omega) (by omega) (by omega) (by omega) c.1 (by omega) c.2
  rw[if_neg c];have l:M.length=1\/B<1073741824:=by omega
  grind [RY,G0,W8]
 rw[if_neg b];exact RV M B k (by grind)
theorem TY (u:pn n h x) (k:Nat) (y:List Int) (l:List (List PV)) (z:y.length+(k+1)=n) (w:pA y) (L:l.length=n) (K: ∀i,i<y.length->l[k+1+i]?=some [.raw (.int .i64 (y.getD i 0))]):
  CallC prog 147 [.one (.p (.ptr [.sl (ls fI (aQ (n+1) (dk h))),.sl (ls (fR fI) (fo n h n))])),.raw (.int .i64 (k:Int)),.one (.p (.sl l))] ⟨[],.raw (.int .i64 (lA h n k (aL n y)))⟩:=by
 have J:=u.n8;have E:=xq n h (show k<n by omega);have F:=l9 n h n;have s:(nF n h k).length=y.length:=(aI _ _).trans (by omega);have H: ∀i,i<y.length->(nF n h k)[i]?=some (bk h k k (k+(i+1))):=fun i P=>aB _ (by omega)
 have c:=fun m (j:m<=y.length)=>u.shP_c z w j
 have b:=pb h z;have e:uF h k y 0=0:=rfl;have g: ∀i,uF h k y i+bk h k k (k+(i+1))*y.getD i 0=uF h k y (i+1):=fun _=>rfl
 have A:IntKind.i64.wrap ((k:Int)+1)=((k+1:Nat):Int):=aR (by omega) (by omega);rw[<- b];clear u w b;generalize aQ (n+1) (dk h)=D at*
 generalize fo n h n=M at*
 generalize nF n h k=r at*
 generalize uF h k y=O at*
 refine ay func147 rfl ntmps147 (aA (k:=bz (k:=ai (aK (aH E s) (k:=?_)))));refine aF (G:=jo y.length) (fun q=>⟨(jk::rN k::.one (.p (.sl l))::j4 (.raw (.int .i64 (O q.i))::j4 (j4 (kE r::rN y.length::rN q.i::j16 (jk::[]))))),Hm []⟩) (fun q=>y.length-q.i) ⟨0,by omega⟩ ?_ ?_
 ·refine aj trivial ?_;simp[wk,e]
 rintro⟨i,I⟩;simp only;by_cases j:i<y.length
 ·have o:=H i j;have Q:=c i (by omega);have R:=c (i+1) (by omega);have N:=g i;have C:IntKind.i64.wrap (((k+1:Nat):Int)+(i:Int))=((k+1+i:Nat):Int):=by grind [aR]
  have v:=K i j;generalize bk h k k (k+(i+1))=q at*
  generalize y.getD i 0=S at*
  refine ar (k:=bi rfl (ai (am (aK o (k:=dZ (aH A (aH C (aH v N))) (k:=bL (k:=?_)))))));refine⟨⟨i+1,by omega⟩,by grind,aj trivial ?_⟩;simp[wk]
 have t:i=y.length:=by omega
 subst t;refine ar (k:=bv rfl (bz (k:=aG @results147)))
end Go.Proofs.YtalmoejhjceflaaGreat
