/-
  Part 42 of a proof (walks and plain facts).
-/
import Derived.Test.YtalmoejhjceflaaGreatQ40
set_option linter.all false
set_option maxRecDepth 100000
set_option maxHeartbeats 64000000
open Nat renaming reduceAdd → aa
open List renaming replicate → ae
namespace Go.Proofs.YtalmoejhjceflaaGreat
open Go.RowKit Go.Proofs.Tryz
variable {n:Nat} {b:Code} {c:Array Oper} {x:Int} {e:OObj}
section
def iE (m:Nat):List (List AV):=ae m [.junk]
theorem RY (m i:Nat) (y:List Int):(iE m++lc fI y)[m+i]?=(lc fI y)[i]?:=by
 grind [iE]
theorem kS (m:Nat) (y:List Int):(iE m++lc fI y).length=m+y.length:=by simp[iE,jY]
theorem p9 (m:Nat) (c:Int) (y:List Int):(iE (m+1)++lc fI y).set m [.p (.raw (.int .i64 c))]=iE m++lc fI (c::y):=by
 simp_all[iE,aeI,lc,fI]
theorem jp (d m:Nat):(iE m).map (List.map (b6 d))=iE m:=by simp[iE,b6]
abbrev vu (a:Nat) (B:Int) (n m:Nat) (y b:List Int) (M:List (List Int)):List OObj:=[⟨222,4,[[.p (.raw (.int .i64 B)),.sl a 2 0 (n+1),.sl a 3 0 n,.sl a 1 0 n]]⟩,⟨2,1,iE m++lc fI y⟩,⟨2,1,lc fI b⟩,⟨35,1,lc (fR fI) M⟩]
theorem Ff (a d:Nat) (B:Int) (n m:Nat) (y b:List Int) (M:List (List Int)):(vu a B n m y b M).map (renO d)=vu d B n m y b M:=by
 simp_all[renO,b6,gT,jp]
theorem vw (a:Nat) (B:Int) (n m:Nat) (y g:List Int) (M:List (List Int)): ∀o∈vu a B n m y g M,selfO a o:=fun o f e b x c=>by
 simp only[acR,ado,or_false]at f;rcases f with rfl|rfl|rfl|rfl
 ·simp only[aco]at b;subst b;simp only[acR,ado,or_false]at c;rcases c with rfl|rfl|rfl|rfl<;>first|trivial|rfl
 ·simp only[adh]at b;rcases b with b|b
  ·obtain⟨_,rfl⟩:=aev.1 b;simp only[aco]at c;subst c;trivial
  exact df (bL 2 1 _ e b x c)
 ·exact df (bL 2 1 _ e b x c)
 exact df (bL 35 1 _ e b x c)
theorem aa4 (a:Nat) (B:Int) (n m e:Nat) (y f c:List Int) (M:List (List Int)): ∀r∈[0],∀o,(vu a B n m y c M)[r]?=some o-> ∃b,(vu a B n e f c M)[r]?=some b/\b.es=o.es/\o.elems.length<=b.elems.length:=fun r g o h=>by
 grind
theorem FB {s:AS} {m:Nat} {c:Int} {y b:List Int} {M:List (List Int)} (e:s.H 0=vu 0 x n m (c::y) b M):bJ s ⟨s.tmps,aF s.H 0 (vu 0 x n (m+1) y b M)⟩:=by
 have h:=n4 (s:=s) 0 1 (o:=⟨2,1,iE m++lc fI (c::y)⟩) (o':=⟨2,1,iE (m+1)++lc fI y⟩) (by rw[e];rfl) rfl rfl (by simp only[kS,acC];omega) fun i f g=>by
  rw[<- p9 m c y];grind [iE]
 grind
theorem zX (n:Nat) (f:FF) {k:Nat} (b:k<n):(gy n f n)[k]?=some (pC n f k):=Sa f b
structure VsG (γ:Type) (lv:γ->Prop) (lo hi:Int) (b:Int->γ->γ×Bool) (R:γ×Bool) where
 x:Int
 g:γ
 l:lv g
 h1:lo<=x
 h2:x<=hi+1
 e:lpM b (hi-x+1).toNat x g=R
theorem Sl {f:Type} {b:Int->f->f×Bool} {c:Int} {g:f} (h:c<=x):lpM b (x-c+1).toNat c g=match b c g with
  |(e,true)=>lpM b (x-(c+1)+1).toNat (c+1) e
  |(e,false)=>(e,false):=by
 rw[show(x-c+1).toNat=(x-(c+1)+1).toNat+1 by omega];rfl
theorem Wa {e:Type} {b:Int->e->e×Bool} {c:Int} {g:e} (h: ¬c<=x):lpM b (x-c+1).toNat c g=(g,true):=by
 rw[show(x-c+1).toNat=0 by omega];rfl
section
variable {γ:Type} {L:jd γ} {l:Nat} {yd:Nat->Int->γ->γ×Bool} {n:Nat} {f:FF} {B:Int} {lv:γ->Prop}
def Zg (P:Program) (L:jd γ) (l n:Nat) (yd:Nat->Int->γ->γ×Bool) (lv:γ->Prop):Prop:= ∀(m:Nat) (c:Int) (g:γ),lv g->1<=m->m<=n->0<=c->c<=93823560581121->vT P L l [.int .i64 (m:Int),.int .i64 c] g (yd m c g).1 (yd m c g).2
abbrev aa3 (l:Nat) (k:Nat) (b:Int):List TV:=[.one (.ptr 0 0 0 0),.raw (.int .i64 (k:Int)),.raw (.int .i64 b),.raw (.func (.yield l) #[] #[])]
theorem Ni (s:pJ n f B) (hy:Zg prog L l n yd lv) (O: ∀m c g,lv g->(yd m c g).2=true->lv (yd m c g).1) (k:Nat) (y:List Int) (hk:y.length+(k+1)=n) (hT:rQ y) (Q:fj f n B (k+1) (aJ n y)) (g:γ) (hg:lv g)
  (Z: ∀j,k=j+1-> ∀c,b9 f n B k (aJ n y)<=c->c<=cq f n B k (aJ n y)-> ∀g,lv g->mY prog L [0] 190 (aa3 l j (sV f n B (j+1) (aJ n (c::y)))) (vu 0 B n (j+1) (c::y) (aN (n+1) (dk f)) (gy n f n)) (vu 0 B n (j+1) (c::y) (aN (n+1) (dk f)) (gy n f n)) g (kX yd f n B j (c::y) g).1 (.raw (.bool (kX yd f n B j (c::y) g).2))):
  mY prog L [0] 190 (aa3 l k (sV f n B (k+1) (aJ n y))) (vu 0 B n (k+1) y (aN (n+1) (dk f)) (gy n f n)) (vu 0 B n (k+1) y (aN (n+1) (dk f)) (gy n f n)) g (kX yd f n B k y g).1 (.raw (.bool (kX yd f n B k y g).2)):=by
 have bR:=s.n8;have br:=s.d (k:=k) (by omega);have S:=s.d (k:=k+1) (by omega);have an:=aB (dk f) (show k<n+1 by omega);have ap:=aB (dk f) (show k+1<n+1 by omega);have bp:=aD (n+1) (dk f);have hM:=zX n f (show k<n by omega);have bq:=nt n f n;have a1:(pC n f k).length=n-k-1:=aD _ _;have C: ∀i,i<y.length->(pC n f k)[i]?=some (bk f k k (k+(i+1))):=fun i E=>aB _ (by omega)
 have I:=fun m (hm:m<=y.length)=>s.shP_c hk hT hm
 have z:=rk f hk;have b0:=s.rs0 (k:=k+1) (by omega) Q;have u:=s.sq (k:=k) (by omega) Q;have X:=s.lohi hk hT Q;have bb:=Xw (m:=y.length+1) (by omega);have b1:=pZ u.1 u.2;have cR:=AL (.inl rfl) _ u.1 u.2;have ag:=fun c=>s.step hk (c:=c) Q
 have af:dk f k*sV f n B (k+1) (aJ n y)=fH f n B k (aJ n y):=rfl;have Y:b9 f n B k (aJ n y)=0-(isqF (fH f n B k (aJ n y))+xq f k y y.length)/dk f (k+1):=by grind [b9]
 have W:cq f n B k (aJ n y)=(isqF (fH f n B k (aJ n y))-xq f k y y.length)/dk f (k+1):=by rw[z];rfl
 have bn:=I y.length (acs _);have ah:=qL (.inl rfl) (isqF (fH f n B k (aJ n y))+xq f k y y.length) (dk f (k+1)) S.1 (by omega) (by omega) (by omega);have al:=qL (.inl rfl) (isqF (fH f n B k (aJ n y))-xq f k y y.length) (dk f (k+1)) S.1 (by omega) (by omega) (by omega);have N:=hy (n-k) (cq f n B k (aJ n y)-b9 f n B k (aJ n y)+1) g hg (by omega) (by omega) (by omega) (by omega);have e1:IntKind.i64.wrap ((k:Int)+1)=((k+1:Nat):Int):=aL (by omega) (by omega);have e2:IntKind.i64.wrap ((n:Int)-(k:Int))=((n-k:Nat):Int):=by grind [aL]
 have J:k=0->kX yd f n B k y g=yd (n-k) (cq f n B k (aJ n y)-b9 f n B k (aJ n y)+1) g:=fun e=>by subst e;rfl
 have hv1: ∀j,k=j+1->kX yd f n B k y g=match yd (n-k) (cq f n B k (aJ n y)-b9 f n B k (aJ n y)+1) g with
  |(g',true)=>lpM (fun c=>kX yd f n B j (c::y)) (cq f n B k (aJ n y)-b9 f n B k (aJ n y)+1).toNat (b9 f n B k (aJ n y)) g'
  |(g',false)=>(g',false):=fun j e=>by subst e;rfl
 have ac:xq f k y 0=0:=rfl;have ad: ∀i,xq f k y i+bk f k k (k+(i+1))*y.getD i 0=xq f k y (i+1):=fun _=>rfl
 rw[<- z]at ag;have ab: ∀c,fj f n B k (aJ n (c::y))->0<=sV f n B k (aJ n (c::y))/\sV f n B k (aJ n (c::y))<=70368744177664:=fun c h=>s.rs0 (by omega) h
 have F:=O (n-k) (cq f n B k (aJ n y)-b9 f n B k (aJ n y)+1) g hg;have bc:=fun j c g hg=>Uz yd (lv:=lv) O f n B j (c::y) g hg
 obtain⟨P,b,V⟩: ∃P b,yd (n-k) (cq f n B k (aJ n y)-b9 f n B k (aJ n y)+1) g=(P,b):=⟨_,_,rfl⟩;rw[V]at N J hv1 F;simp only at N J hv1 F;clear V hy O s Q hT;generalize kX yd f n B k y g=R at*
 generalize b9 f n B k (aJ n y)=lo at*
 generalize cq f n B k (aJ n y)=E at*
 generalize fH f n B k (aJ n y)=sq at*
 generalize sV f n B (k+1) (aJ n y)=A at*
 generalize isqF sq=rt at*
 generalize aN (n+1) (dk f)=D at*
 generalize gy n f n=M at*
 generalize pC n f k=r at*
 generalize dk f (k+1)=d1 at*
 generalize dk f k=d0 at*
 generalize xq f k y=w at*
 have bx: -46911780290560<=lo/\lo<=46911780290560:=by omega
 have bt: -46911780290560<=E/\E<=46911780290560:=by omega
 have bl:=X.2.2;clear X bb;have bm:(d1=0)=False:=eq_false (by omega);refine tP func190 rfl (by kernel_rfl) [(0,0)] (by simp) (by simp[selfTV,bH]) (by simp[selfTV,bH]) (vw 0 _ _ _ _ _ _) (vw 0 _ _ _ _ _ _) (aa4 0 _ _ _ _ _ _ _ _) ?_;rw[ntmps190];refine fw.weak (aj (tm:=(.one (.ptr 0 0 0 0)::rN k::.raw (.int .i64 A)::.raw (.func (.yield l) #[] #[])::j16 (j16 (j16 (j16 (j16 (j16 (j16 (j4 (j4 ([]))))))))))) (l:=[(0,vu 0 B n (k+1) y D M)]) ⟨rfl,trivial⟩ (by simp[wk,ae])) ?_;refine iu (k:=eR (aC e1 ap) (k:=bX (eR (aC hM a1) (k:=?_))));refine lQ (G:=fY y.length) (fun q=>⟨(.one (.ptr 0 0 0 0)::rN k::.raw (.int .i64 A)::.raw (.func (.yield l) #[] #[])::j4 (jk::.raw (.int .i64 d1)::.raw (.int .i64 (w q.i))::j16 (j4 (jk::jk::.one (.p (.sl (ls fI r)))::rN y.length::rN q.i::j16 (j16 (j16 (j16 (j16 (j4 (j4 ([]))))))))))),Hm [(0,vu 0 B n (k+1) y D M)]⟩) (fun _=>g) (fun q=>y.length-q.i) ⟨0,by omega⟩ ?_ rfl ?_
 ·refine aj ⟨rfl,trivial⟩ ?_;simp[wk,ac];omega
 rintro⟨i,bw⟩;simp only;by_cases hm:i<y.length
 ·have a0:=C i hm;have s0:=I i (by omega);have s1:=I (i+1) (by omega);have s2:=ad i;have e3:IntKind.i64.wrap (((k+1:Nat):Int)+(i:Int))=((k+1+i:Nat):Int):=by rw[aL (by omega) (by omega)];omega
  have a3:=RY (k+1) i y;have a4:=kS (k+1) y;have bh:y[i]?=some (y.getD i 0):=by grind
  generalize bk f k k (k+(i+1))=q at*
  generalize y.getD i 0=yi at*
  refine iu (k:=IX rfl (bX (ib (eR a0 (k:=tC (aC e1 (aC e3 (aC a3 (aC bh s2)))) (k:=xA (k:=?_)))))));refine⟨⟨i+1,by omega⟩,by grind,aj ⟨rfl,trivial⟩ ?_,rfl⟩;simp[wk]
 have a7:i=y.length:=by omega
 subst a7;refine iu (k:=IV rfl (eR (aC an af) (k:=QF [⟨1,_,_,_,cR⟩] (k:=?_))));refine pP [⟨4,_,_,_,ah⟩,⟨10,_,_,_,al⟩] [] (by kernel_rfl) fun _ K=>?_;simp(disch:=omega) only[kd,<- W,aa,aL,<- Y,Nat.reduceBEq];apply K
 refine bX (bX ?_);refine FK 12 N [] [] (by kernel_rfl) (by decide) fun K o=>?_
 simp(disch:=omega) only[kd,aa,e2,aL];refine o _ ⟨rfl,?_⟩;clear o K;intro K o;simp only[kd,aa,yS,cwD];apply o;clear o K;show fw _ _ _ _ _ _ _;cases b with
 |false=>
  have C:R=(P,false):=by
   cases k with
   |zero=>grind
   |succ j=>grind
  subst C;refine iN rfl (iu (k:=?_));refine n5 ⟨.inr rfl,rfl,_,aj (tm:=(.one (.ptr 0 0 0 0)::j4 (jk::jk::jk::.raw (.bool false)::j16 (j16 (j16 (j16 (j16 (j16 (j16 (jk::jk::jk::[])))))))))) (l:=[(0,vu 0 B n (k+1) y D M)]) ⟨rfl,trivial⟩ (by simp[wk]),⟨dA _,rfl⟩,by simp⟩
 |true=>
  refine ir rfl (eP ?_);show fw _ _ _ _ _ _ _;cases k with
  |zero=>
   have C:R=(P,true):=J rfl;subst C;refine bX (iu (k:=iN rfl (iu (k:=?_))));refine n5 ⟨.inr rfl,rfl,_,aj (tm:=(.one (.ptr 0 0 0 0)::j4 (jk::jk::jk::.raw (.bool true)::j16 (j16 (j16 (j16 (j16 (j16 (j16 (jk::jk::jk::[])))))))))) (l:=[(0,vu 0 B n (0+1) y D M)]) ⟨rfl,trivial⟩ (by simp[wk]),⟨dA _,rfl⟩,by simp⟩
  |succ j=>
   have C:=hv1 j rfl;have a8:(((j+1:Nat):Int)=0)=False:=eq_false (by omega);have e4:IntKind.i64.wrap (((j+1:Nat):Int)-1)=(j:Int):=by grind [aL]
   refine bX (eR a8 (k:=ir rfl (eP (bX (iu (k:=?_))))));refine lQ (G:=VsG γ lv lo E (fun c=>kX yd f n B j (c::y)) R) (fun v=>⟨(.one (.ptr 0 0 0 0)::.raw (.int .i64 ((j+1:Nat):Int))::jk::.raw (.func (.yield l) #[] #[])::j4 (jk::.raw (.int .i64 d1)::.raw (.int .i64 (w y.length))::jk::jk::.raw (.int .i64 sq)::jk::jk::.raw (.int .i64 E)::.raw (.int .i64 v.x)::j16 (j16 (j16 (j16 (j16 (j16 (j4 (j4 (jk::jk::[])))))))))),Hm [(0,vu 0 B n (j+1+1) y D M)]⟩) (fun v=>v.g) (fun v=>(E+1-v.x).toNat) ⟨lo,P,F rfl,by omega,by omega,C.symm⟩ ?_ rfl ?_
   ·refine aj ⟨rfl,trivial⟩ ?_;simp[wk]
   rintro⟨x,g2,U,h1,h2,t⟩;simp only;by_cases hx:x<=E
   ·rw[Sl hx]at t;obtain⟨av,hq⟩:=ag x h1 hx;have ba:=ab x av;have cV:=Z j rfl x h1 hx g2 U;have H:=bc j x g2 U;obtain⟨g3,b3,a6⟩: ∃g3 b3,kX yd f n B j (x::y) g2=(g3,b3):=⟨_,_,rfl⟩;rw[a6]at cV t H;simp only at cV t H;generalize sV f n B (j+1) (aJ n (x::y))=rx at*
    have b4:(d1*x).natAbs<=65535*46911780290560:=by
     rw[adt];exact acU (by omega) (by omega)
    have a9:0<=d1*rx:=acP (by omega) ba.1;have T:Int.tdiv (sq-(d1*x+w y.length)*(d1*x+w y.length)) d1=rx:=by rw[hq];grind [Int.mul_tdiv_cancel_left]
    have b2:0<=(d1*x+w y.length)*(d1*x+w y.length):=by
     rcases aec 0 (d1*x+w y.length)with h|h
     ·exact acP h h
     exact ac3 h h
    have a4:=kS (j+1+1) y;have a5:=p9 (j+1) x y;have a2:(iE (j+1+1)++lc fI y)[j+1]?=some [.junk]:=by
     rw[acx (by simp[iE])];simp[iE]
    refine bX (iu (k:=iN rfl (eP (bX (ib (eR (aC a2 a5) (k:=iu (k:=bX (jQ 11 cV 0 [] [] (by kernel_rfl) (by omega) (by decide) fun K o=>?_)))))))));generalize hU:(d1*x+w y.length)*(d1*x+w y.length)=uu at*
    simp(disch:=omega) only[kd,aa,e4,hU,aL,T];refine o _ ⟨⟨rfl,(Ff 0 0 _ _ _ _ _ _).symm⟩,?_⟩;clear o K;intro K o;simp(disch:=omega) only[kd,aa,Jo,cwD,uh,pB,Nat.reduceBEq,ac1,jp];apply o;clear o K;show fw _ _ _ _ _ _ _;cases b3 with
    |false=>
     simp only at t;subst t;refine iN rfl (iu (k:=?_));refine n5 ⟨.inr rfl,rfl,_,(FB rfl).trans (aj (tm:=(.one (.ptr 0 0 0 0)::j4 (jk::jk::jk::.raw (.bool false)::j16 (j16 (j16 (j16 (j16 (j16 (j16 (jk::jk::jk::[])))))))))) (l:=[(0,vu 0 B n (j+1+1) y D M)]) ⟨rfl,trivial⟩ (by simp[wk])),⟨dA _,rfl⟩,by simp⟩
    |true=>
     simp only at t;refine ir rfl (eP (xA (k:=?_)));refine⟨⟨x+1,g3,H rfl,by omega,by omega,t⟩,by simp only;omega,(FB rfl).trans (aj ⟨rfl,trivial⟩ ?_),rfl⟩;simp[wk]
   rw[Wa hx]at t;subst t;refine bX (iu (k:=ir rfl (pN (iu (k:=?_)))));refine n5 ⟨.inr rfl,rfl,_,aj (tm:=(.one (.ptr 0 0 0 0)::j4 (jk::jk::jk::.raw (.bool true)::j16 (j16 (j16 (j16 (j16 (j16 (j16 (jk::jk::jk::[])))))))))) (l:=[(0,vu 0 B n (j+1+1) y D M)]) ⟨rfl,trivial⟩ (by simp[wk]),⟨dA _,rfl⟩,by simp⟩
end
end
section
section
variable {γ:Type} {L:jd γ} {l:Nat} {yd:Nat->Int->γ->γ×Bool} {n:Nat} {f:FF} {B:Int} {lv:γ->Prop}
theorem XY (r:pJ n f B) (s:Zg prog L l n yd lv) (q: ∀m c g,lv g->(yd m c g).2=true->lv (yd m c g).1): ∀(k:Nat) (y:List Int),y.length+(k+1)=n->rQ y->fj f n B (k+1) (aJ n y)-> ∀g:γ,lv g->
  mY prog L [0] 190 (aa3 l k (sV f n B (k+1) (aJ n y))) (vu 0 B n (k+1) y (aN (n+1) (dk f)) (gy n f n)) (vu 0 B n (k+1) y (aN (n+1) (dk f)) (gy n f n)) g (kX yd f n B k y g).1 (.raw (.bool (kX yd f n B k y g).2)):=by
 intro k
 induction k with
 |zero=>intro y p h b g o;exact Ni r s q 0 y p h b g o fun j e=>by omega
 |succ k w=>
  intro y p h b g o;refine Ni r s q (k+1) y p h b g o fun j e c t u g o=>?_
  obtain rfl:j=k:=by omega
  have v:=r.lohi p h b;exact w (c::y) (by grind) (h.cons (by omega)) (r.step p b t u).1 g o
noncomputable def Nd (yd:Nat->Int->γ->γ×Bool) (f:FF) (n:Nat) (B:Int) (g:γ):γ:=if n=1 then(yd 1 (2*isqF (B/dk f 1)+1) g).1 else(kX yd f n B (n-1) [] g).1
theorem Ko (b:pJ n f B):sV f n B n (aJ n [])=dk f n*B:=by
 grind [aJ,jc,sV]
def TlH (n:Nat) (f:FF) (B:Int):Prop:=(n=1/\0<dk f 1/\dk f 1<=4611686018427387904/\0<=B/\B<=4611686018427387904)\/(2<=n/\pJ n f B)
theorem Xv (h:TlH n f B) (y:Zg prog L l n yd lv) (G: ∀m c g,lv g->(yd m c g).2=true->lv (yd m c g).1) (g:γ) (I:lv g):
  tg prog L 131 [.one (.ptr 0 0 0 0),.raw (.func (.yield l) #[] #[])] (vu 0 B n n [] (aN (n+1) (dk f)) (gy n f n)) (vu 0 B n n [] (aN (n+1) (dk f)) (gy n f n)) g (Nd yd f n B g) (.tup []):=by
 have Q:=aD (n+1) (dk f);have s:=aB (dk f) (show n<n+1 by omega);refine QX func131 rfl (by kernel_rfl) (by simp[selfTV,bH]) (by simp[selfTV]) (vw 0 _ _ _ _ _ _) (vw 0 _ _ _ _ _ _) ?_;rw[ntmps131];refine vN.weak (aj (tm:=(.one (.ptr 0 0 0 0)::.raw (.func (.yield l) #[] #[])::j16 (j16 (j4 (j4 (jk::jk::jk::[])))))) (l:=[(0,vu 0 B n n [] (aN (n+1) (dk f)) (gy n f n))]) ⟨rfl,trivial⟩ (by simp[wk,ae])) ?_;refine vO fun _ K=>?_;simp only[kd,aa];apply K
 rcases h with⟨rfl,R,S,z,X⟩|⟨T,j⟩
 ·have w:0<=B/dk f 1:=adW z (by omega);have V:B/dk f 1<=B:=ae3 _ z;have W:=pZ w (by omega);have cR:=AL (.inl rfl) (B/dk f 1) w (by omega);have o:=y 1 (2*isqF (B/dk f 1)+1) g I (by omega) (by omega) (by omega) (by omega);have u:Nd yd f 1 B g=(yd 1 (2*isqF (B/dk f 1)+1) g).1:=if_pos rfl;rw[u];have P:Int.tdiv B (dk f 1)=B/dk f 1:=adi z;have H:(dk f 1=0)=False:=eq_false (by omega);obtain⟨p,b,e⟩: ∃p b,yd 1 (2*isqF (B/dk f 1)+1) g=(p,b):=⟨_,_,rfl⟩;rw[e]at o⊢;simp only at o⊢;generalize aN (1+1) (dk f)=D at*
  generalize gy 1 f 1=M at*
  generalize dk f 1=d at*
  generalize B/d=q at*
  generalize isqF q=rt at*
  clear y e u;refine xR (vO fun _ K=>?_);simp(disch:=omega) only[kd];apply K;refine Ze rfl ?_;refine xR ?_;refine FH cu o [⟨12,_,_,_,cR⟩] [] (by kernel_rfl) fun K t=>?_
  simp(disch:=omega) only[kd,adD,aa,Nat.reduceSub,Int.reduceToNat,s,P,aL];refine t _ ⟨rfl,?_⟩;clear t K;simp only[vo];refine Vd ⟨.inr rfl,rfl,_,aj (tm:=(.one (.ptr 0 0 0 0)::j16 (j16 (j4 (j4 (j4 ([]))))))) (l:=[(0,vu 0 B 1 1 [] D M)]) ⟨rfl,trivial⟩ ?_,dA _,rfl⟩;simp only[kd,yS,cwD];simp[wk]
 have U:=j.n8;have A:fj f n B n (aJ n []):=gZ j.r.pd j.b0;have x:=XY j y G (n-1) [] (by simp;omega) rQ.nil (by grind) g I;rw[show n-1+1=n by omega,Ko j]at x;have u:Nd yd f n B g=(kX yd f n B (n-1) [] g).1:=if_neg (by omega);rw[u];have Y:=j.d (k:=n) (acs n);have v:=j.b0;have C:=j.b1;have J:0<=dk f n*B:=acP (by omega) v;have N:dk f n*B<=65536*1073741824:=acZ (by omega) C v (by omega);have E:((n:Int)=1)=False:=eq_false (by omega);have O:IntKind.i64.wrap ((n:Int)-1)=((n-1:Nat):Int):=by grind [aL]
 obtain⟨p,b,e⟩: ∃p b,kX yd f n B (n-1) [] g=(p,b):=⟨_,_,rfl⟩;rw[e]at x⊢;simp only at x⊢;generalize aN (n+1) (dk f)=D at*
 generalize gy n f n=M at*
 generalize dk f n=d at*
 generalize F:d*B=Z at*
 clear y e u j A;refine xR (vO fun _ K=>?_);simp only[kd,E];apply K;refine Zd rfl (Qt ?_);show vN _ _ _ _ _ _;refine IT cu x.toL 0 [] [] (by omega) (by kernel_rfl) fun K t=>?_
 simp(disch:=omega) only[kd,adD,aa,Nat.reduceSub,O,s,F,aL];refine t _ ⟨⟨rfl,(Ff 0 0 _ _ _ _ _ _).symm⟩,?_⟩;clear t K;refine⟨.inl rfl,rfl,_,aj (tm:=(j16 (j16 (j4 (j4 (j4 (jk::[]))))))) (l:=[(0,vu 0 B n n [] D M)]) ⟨?_,trivial⟩ ?_,dA _,rfl⟩
 ·rw[Q2,gP];grind [aS,Ff]
 simp only[kd,Q2,cwD,adD,aa,Nat.reduceSub];simp[wk]
end
end
def iZ (g:OObj) (a e:Nat):AV->AV
 | .sl b r c len=>if b=a/\r=e then .p (.sl (((g.elems.take (c+len)).drop c).map (List.map yu)))else .sl b r c len
 | .ptr b r i j=>if b=a/\r=e then .junk else .ptr b r i j
 | .fn f b h=>if b=a then .junk else .fn f b h
 |x=>x
theorem Ot (e:OObj) (a j:Nat):rE (iZ e a j):=fun f b g=>by
 by_cases h:b=a
 ·exact .inl (if_pos h)
 exact .inr ⟨b,g,if_neg h,rfl,fun n q c=>⟨q,c,if_neg fun k=>h k.1⟩⟩
def Me (b:OObj) (a c:Nat):TV->TV
 | .one x=> .one (iZ b a c x)
 | .agg e=> .agg (e.map (iZ b a c))
 | .fn f e=> .fn f (e.map (iZ b a c))
 | .tup g=> .tup (g.map fun t=>(t.1,t.2.map (iZ b a c)))
def t8 (b:OObj) (a c:Nat) (o:OObj):OObj:={o with elems:=o.elems.map (List.map (iZ b a c))}
theorem JM {a:Nat} {x:AV} (h:bH a x):bH a (iZ e a n x):=by
 cases x with
 |sl b r c len=>simp only[iZ];split<;>first|trivial|exact h
 |ptr b r i j=>simp only[iZ];split<;>first|trivial|exact h
 |fn f b g=>simp only[iZ];split<;>first|trivial|exact h
 |_=>exact h
theorem GD {a x:Nat} {y:AV} (c:x≠a) (h:bH x y):iZ e a n y=y:=by
 cases y with
 |sl b r g len=>have h:b=x:=h;subst h;exact if_neg fun k=>c k.1
 |ptr b r i j=>have h:b=x:=h;subst h;exact if_neg fun k=>c k.1
 |fn f b l=>have h:b=x:=h.1;subst h;exact if_neg c
 |_=>rfl
theorem yI {s:AS} (a l:Nat) {o0:OObj} (K:(s.H a)[l]?=some o0) (a2:eB o0):bJ s ⟨s.tmps.map (Me o0 a l),aF s.H a (((s.H a).set l {o0 with elems:=[]}).map (t8 o0 a l))⟩:=by
 rintro w0 O X an w ⟨h1,a4,L,g,ab⟩;have ab:bo X L s an w:=ab;generalize ad:aF s.H a (((s.H a).set l {o0 with elems:=[]}).map (t8 o0 a l))=H1;generalize Y:(fun x y=>if x=a/\y=l then none else L x y:Rho)=ρ1;have W:ρ1 a l=none:=by rw[<- Y];exact if_pos ⟨rfl,rfl⟩
 have J: ∀x y,¬(x=a/\y=l)->ρ1 x y=L x y:=fun x y h=>by rw[<- Y];exact if_neg h
 have af: ∀x,x≠a->H1 x=s.H x:=fun x h=>by rw[<- ad];exact aM h
 have ae: ∀y:Nat,(H1 a)[y]?=if y=l then some {o0 with elems:=[]}else((s.H a)[y]?).map (t8 o0 a l):=fun y=>by
  rw[<- ad,aS,ach,adj];by_cases I:l=y
  ·subst I;rw[if_pos rfl,if_pos (aci.1 K).1,if_pos rfl];rfl
  rw[if_neg I,if_neg (aed I)]
 have Q: ∀(x y:Nat) q,(H1 x)[y]?=some q->(x=a/\y=l/\q={o0 with elems:=[]})\/(¬(x=a/\y=l)/\ ∃m,(s.H x)[y]?=some m/\q=t8 o0 a l m):=fun x y q h=>by
  by_cases E:x=a
  ·subst E;rw[ae]at h;by_cases I:y=l
   ·rw[if_pos I]at h;injection h with h
    exact .inl ⟨rfl,I,h.symm⟩
   rw[if_neg I]at h;obtain⟨m,A,M⟩:=acf.1 h;exact .inr ⟨fun k=>I k.2,m,A,M.symm⟩
  rw[af x E]at h;refine .inr ⟨fun k=>E k.1,q,h,?_⟩;have hs:=g.self x y q h;have:q.elems.map (List.map (iZ o0 a l))=q.elems:=Eb fun e D z T=>GD E (hs e D z T)
  unfold t8;rw[this]
 have ah: ∀(x y:Nat) q,(s.H x)[y]?=some q-> ¬(x=a/\y=l)-> ∃q',(H1 x)[y]?=some q'/\q'.es=q.es/\q'.elems.length=q.elems.length:=fun x y q h S=>by
  by_cases E:x=a
  ·subst E;exact⟨t8 o0 x l q,by rw[ae,if_neg fun k=>S ⟨rfl,k⟩,h];rfl,rfl,by simp[t8]⟩
  exact⟨q,by rw[af x E];exact h,rfl,rfl⟩
 have C: ∀(x y:Nat) q b c,(H1 x)[y]?=some q->ρ1 x y=some (b,c)-> ¬(x=a/\y=l)/\L x y=some (b,c)/\ ∃m,(s.H x)[y]?=some m:=fun x y q b c h e=>by
  rcases Q x y q h with⟨rfl,rfl,_⟩|⟨S,m,A,_⟩
  ·rw[W]at e;cases e
  exact⟨S,by rw[<- J x y S];exact e,m,A⟩
 have ag: ∀b,Xo X ρ1 H1 b->Xo X L s.H b:=fun b B=>by
  rcases B with B|⟨x,y,q,n,A,M⟩
  ·exact .inl B
  obtain⟨_,F,m,R⟩:=C x y q b n A M;exact .inr ⟨x,y,m,n,R,F⟩
 have a1: ∀b c,L a l=some (b,c)-> ¬Xo X ρ1 H1 b:=fun b c hr hX=>by
  rcases hX with hX|⟨x,y,q,n,A,M⟩
  ·exact(g.old a l o0 b c K hr).2 hX
  obtain⟨g0,F,m,R⟩:=C x y q b n A M;exact g0 (g.inj x y a l m o0 b n c R K F hr)
 have aa: ∀x u,isPure x=true->AV.rel L s.H (Xo X L s.H) w x u->bS (Xo X ρ1 H1) w (yu x) u:=fun x u hp h=>by
  cases x<;>first|exact bS.weaken (fun b _ B=>ag b B) h|cases hp
 have G: ∀x v,AV.rel L s.H (Xo X L s.H) w x v->AV.rel ρ1 H1 (Xo X ρ1 H1) w (iZ o0 a l x) v:=ic (Ot o0 a l) fun x v S h=>by
  cases x with
  |fn=>cases S
  |p x=>exact bS.weaken (fun b _ B=>ag b B) h
  |sl b r a6 len=>
   simp only[iZ];by_cases B:b=a/\r=l
   ·rw[if_pos B];obtain⟨rfl,rfl⟩:=B;exact qU (g.objs b r o0 K) K (fun e D y I u hu=>aa y u (a2 e D y I) hu) (a1) h
   rw[if_neg B];obtain⟨o,A,M,F⟩:=h;obtain⟨o',k1,k2,k3⟩:=ah b r o A B;exact⟨o',k1,by omega,by rw[J b r B,k2];exact F⟩
  |ptr b r i j=>
   simp only[iZ];by_cases B:b=a/\r=l
   ·rw[if_pos B];trivial
   rw[if_neg B];obtain⟨o,b',c,A,M,F,R⟩:=h;obtain⟨o',k1,k2,k3⟩:=ah b r o A B;exact⟨o',b',c,k1,by rw[J b r B];exact M,by omega,by rw[k2];exact R⟩
  |junk=>trivial
 have N: ∀V v,bM L s.H (Xo X L s.H) w V v->bM ρ1 H1 (Xo X ρ1 H1) w (V.map (iZ o0 a l)) v:=fun V v h=>by
  obtain⟨vs,A,M,F⟩:=h;refine⟨vs,A,by simpa using M,fun j x E=>?_⟩;rw[ach]at E;obtain⟨y,I,rfl⟩:=acf.1 E;obtain⟨u,u1,U,u3⟩:=F j y I;exact⟨u,u1,U,G y u u3⟩
 refine⟨h1,by simpa using a4,ρ1,⟨g.keep,fun x y q hq=>?_,fun x y x' y' q q' b c c' hq a3 e Z=>?_,fun x y q b c hq e=>?_,g.bar,fun x y q hq=>?_⟩,fun t x E=>?_⟩
 ·rcases Q x y q hq with⟨rfl,rfl,rfl⟩|⟨S,m,A,rfl⟩
  ·refine⟨fun e D=>(by cases D),(g.objs x y o0 K).2.1,?_⟩;rw[W]
  obtain⟨q1,q2,q3⟩:=g.objs x y m A;refine⟨fun e D=>?_,q2,?_⟩
  ·simp only[t8,acn]at D;obtain⟨Z,P,rfl⟩:=D;rw[ac0];exact q1 Z P
  rw[J x y S];cases hr:L x y with
  |none=>rw[hr]at q3;simp[t8,q3]
  |some bc=>
   obtain⟨b,c⟩:=bc;rw[hr]at q3;obtain⟨cells,p1,p2,p3,p4,p5⟩:=q3;refine⟨cells,p1,p2,by simpa[t8] using p3,p4,fun i e j z D T=>?_⟩;simp only[t8,ach]at D;obtain⟨Z,P,rfl⟩:=acf.1 D;rw[ach]at T;obtain⟨z',ac,rfl⟩:=acf.1 T;obtain⟨u,u1,U,u3⟩:=p5 i Z j z' P ac;exact⟨u,u1,U,G z' u u3⟩
 ·obtain⟨_,F,m,R⟩:=C x y q b c hq e;obtain⟨_,av,a5,a0⟩:=C x' y' q' b c' a3 Z;exact g.inj x y x' y' m a5 b c c' R a0 F av
 ·obtain⟨_,F,m,R⟩:=C x y q b c hq e;exact g.old x y m b c R F
 ·rcases Q x y q hq with⟨rfl,rfl,rfl⟩|⟨S,m,A,rfl⟩
  ·intro e D;cases D
  intro e D z T;simp only[t8,acn]at D;obtain⟨Z,P,rfl⟩:=D;simp only[acn]at T;obtain⟨z',ac,rfl⟩:=T;have hs:=g.self x y m A Z P z' ac;by_cases E:x=a
  ·subst E;exact JM hs
  rw[GD E hs];exact hs
 simp only[ach]at E;obtain⟨y,I,rfl⟩:=acf.1 E;obtain⟨v,v1,v2⟩:=ab t y I;refine⟨v,v1,?_⟩;cases y with
 |one x=>exact G x v v2
 |agg V=>exact N V v v2
 |fn f V=>obtain⟨u,h1,h2⟩:=v2;exact⟨u,N V u h1,h2⟩
 |tup ts=>
  obtain⟨vs,A,M,F⟩:=v2;refine⟨vs,A,by simpa using M,fun j b V hj=>?_⟩;rw[ach]at hj;obtain⟨z,T,al⟩:=acf.1 hj;obtain⟨b',ap⟩:=z;simp at al;obtain⟨rfl,rfl⟩:=al;obtain⟨u,u1,U⟩:=F j b' ap T;refine⟨u,u1,?_⟩;rcases U with⟨U,u3⟩|⟨U,q,rfl,u4⟩
  ·exact .inl ⟨U,N _ _ u3⟩
  exact .inr ⟨U,_,rfl,G q u u4⟩
section
section
variable {P:Program} {w0 w w':World} {O X:Nat->Prop} {s s':AS} {a:Act} {ρ:Rho} {γ:Type} {fn:Func} {r:TV} {Post:World->(Nat->Prop)->Exit->Act->World->Prop}
theorem Fi.weak (h:bJ s s') (k:Fi P b Post s'):Fi P b Post s:=fun w0 X a w e f=>k w0 X a w e (h _ _ _ _ _ f)
theorem tB {y:Code} (h:bA P b (Qf P fn r (mj P fn r) (Fi P y (mj P fn r))) s):Fi P (.seq b y) (mj P fn r) s:=LF h
theorem QB (S:AS) {y:Code} (h:bA P b (Qf P fn r (mj P fn r) (fun s'=>bJ s' S)) s) (k:Fi P y (mj P fn r) S):Fi P (.seq b y) (mj P fn r) s:=LF (h.mono fun e s' h=>by
 cases e with
 |normal=>exact Fi.weak h k
 |_=>exact h)
theorem jR {f:Option Nat} {e:List Deferred} {Q:Exit->AS->Prop} {id:Nat} (h: ∀K:AS->Prop,(∀s',yU P f ρ e b Q s'->K s')->o9 P c.toList (some s) K):yU P f ρ e (.seq (.region id c false) b) Q s:=Qz h
theorem vP {e:Option Nat} {b:List Deferred} {Q:Exit->AS->Prop} {id:Nat} (h: ∀K:AS->Prop,(∀s',Q .normal s'->K s')->o9 P c.toList (some s) K):yU P e ρ b (.region id c false) Q s:=Qx h
theorem IY {W id:Nat} {p k:Tmp} {Y:Array Tmp} {asg bd tail:Code} {f:FuncId} {ap:Nat×Nat×Nat} {fa:Nat} {F F':List OObj} {tml:List TV} {H:γ->OH} {jump:γ->Option Code} {hH: ∀g,AU (H g)} {ht:tml.all uy=true} {g0 g1:γ} {rf:TV} (v:List (aq P)) (ow:List Nat) (hm: ∃o,c[c.size-1]?=some o/\o.guard=none/\o.op= .makeFunc (.func f) #[.tmp k] #[]/\o.dst=some p/\p≠k) (aa:0<c.size) (A: ∀(R:Ds) (ρ:Rho) (Q: ∀x r b,ρ x r≠some (R.l,b)),R.ps=Y->R.asg=asg->R.bd=bd->tg P (IG R ρ tml H jump Q hH ht) f [.one (.ptr 0 ap.1 ap.2.1 ap.2.2),.raw (.func (.yield R.l) #[] #[])] F F' g0 g1 rf) (M:fa<=4999) (N:jump g0=none) (K:tml.all (QO fa)=true) (h:aY P (v.map aq.a) ow (aK c (c.toList.take (c.size-1)) 0) (some s) (fun y=>y.ev (.tmp k)=some (.one (.ptr fa ap.1 ap.2.1 ap.2.2))/\p<y.tmps.length/\y.H fa=F.map (renO fa)/\H g0=aF y.H fa []/\tml.length=y.tmps.length/\ ∀(t:Nat) x,tml[t]?=some x->x= .one .junk\/(y.put (some p) (.one .junk)).tmps[t]?=some x)) (hQ: ∀(ρ:Rho) (ds:List Deferred),match jump g1 with
   |none=>yU P none ρ ds tail (fun e s'=>(e= .normal\/e= .ret)/\B4 P fn r s') ⟨tml,H g1⟩
   |some b=>b= .ret/\B4 P fn r ⟨tml,H g1⟩):Fi P (.seq (.seq (.region W c false) (.block id (.rangeFunc (.tmp p) Y asg bd))) tail) (mj P fn r) s:=fun w0 X a w J hr=>by
 obtain⟨y,h1,k1,k2,k3,k4,k5,k6⟩:=aP P (v.map aq.a) ow c _ 0 s _ h;obtain⟨o,ho,hg,U,B,E⟩:=hm;have T:(c.toList.take (c.size-1)).length=c.size-1:=by rw[acY];simp
 refine wp_seq (wp_seq ((wpIn_wide (n:=0)).1 (wpIn_region (F:=FW none) ?_)));rw[show c.size=(c.toList.take (c.size-1)).length+1 by omega,acK,<- ac7,acQ];refine EL (c.toList.take (c.size-1)) 0 s y a w (fun j o u=>?_) h1 hr fun m w' r'=>?_
 ·rw[adm]at u;split at u
  ·simpa using u
  cases u
 rw[T,acW,wpOpsIn_cons];unfold wpOpIn;rw[ho];simp only;rw[if_pos (by simp[Region.wanted,hg])];refine⟨fun _ _=>trivial,?_⟩;rw[show Oper.semAt (FW none).round m.eval o=execOp m.eval o from rfl];have z:(execOp m.eval o).run P w'= .ok (.value (.func (.func f) #[m.eval (.tmp k)] #[])) w':=by
  unfold execOp;rw[U];simp only;refine fD ?_;simp[Instr.makeFunc,adl]
 rw[z];show(Code.block id (.rangeFunc (.tmp p) Y asg bd)).wp P (Exit.then (tail.wp P (mj P fn r w0 X)) (mj P fn r w0 X)) (m.put o.dst (.func (.func f) #[m.eval (.tmp k)] #[])) w';rw[B];obtain⟨n1,I,ρ,C,V⟩:=r';have r2:dq w0 (fun _=>False) X (y.put (some p) (.one .junk)) (m.put (some p) (.func (.func f) #[m.eval (.tmp k)] #[])) w':=fG n1 I C V trivial;have S:p<m.tmps.size:=Nat.lt_of_lt_of_eq k2 I.symm;have L:(m.put (some p) (.func (.func f) #[m.eval (.tmp k)] #[])).eval (.tmp k)=m.eval (.tmp k):=by
  show(m.tmps.setIfInBounds p _).getD k undef=m.tmps.getD k undef;rw[aeV,aeV,afm E]
 refine wp_block ?_;refine UD (fs:= #[m.eval (.tmp k)]) (targs:=[.one (.ptr 0 ap.1 ap.2.1 ap.2.2)]) r2 J (by show(m.tmps.setIfInBounds p _)[p]?=_;rw[Array.getElem?_setIfInBounds_self_of_lt S]) rfl (fun j t u=>?_) M (by rw[gP];exact k3) (by rw[gP];exact k4) N ⟨by simpa[AS.put] using k5,k6⟩ K (fun R ρ Q e1 e2 e3=>A R ρ Q e1 e2 e3) (fun Z D w3 q=>?_)
 ·cases j with
  |succ j=>simp at u
  |zero=>
   simp at u;subst u;refine⟨_,rfl,.tmp k,?_,L⟩;show(y.tmps.set p _)[k]?=_;rw[ac4 E];exact k1
 have:=hQ Z [{target:= .collected D,args:= #[]}];cases u:jump g1 with
 |none=>
  rw[u]at this;exact TT J q this
 |some b=>
  rw[u]at this;obtain⟨rfl,G⟩:=this;exact wp_ret (Dg J q q.rel G (.inr rfl))
end
end
end Go.Proofs.YtalmoejhjceflaaGreat
