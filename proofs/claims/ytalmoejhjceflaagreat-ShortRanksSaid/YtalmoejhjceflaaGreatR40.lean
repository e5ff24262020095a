/-
  Part 41 of a proof (walks and plain facts).
-/
import Derived.Test.YtalmoejhjceflaaGreatR39
set_option linter.all false
set_option maxRecDepth 100000
set_option maxHeartbeats 64000000
open Nat renaming reduceAdd → aa
open List renaming replicate → ae
namespace Go.Proofs.YtalmoejhjceflaaGreat
open Go.RowKit Go.Proofs.Tryz
variable {b:Code} {n:Nat} {c:Array Oper} {x:Int} {e:OObj}
section
def gh (m:Nat):List (List AV):=ae m [.junk]
theorem Ow (m i:Nat) (y:List Int):(gh m++lc fI y)[m+i]?=(lc fI y)[i]?:=by
 grind [gh]
theorem jq (m:Nat) (y:List Int):(gh m++lc fI y).length=m+y.length:=by simp[gh,my]
theorem nG (m:Nat) (c:Int) (y:List Int):(gh (m+1)++lc fI y).set m [.p (.raw (.int .i64 c))]=gh m++lc fI (c::y):=by
 simp_all[gh,acu,lc,fI]
theorem gY (d m:Nat):(gh m).map (List.map (cb d))=gh m:=by simp[gh,cb]
abbrev rW (a:Nat) (B:Int) (n m:Nat) (y b:List Int) (M:List (List Int)):List OObj:=[⟨222,4,[[.p (.raw (.int .i64 B)),.sl a 2 0 (n+1),.sl a 3 0 n,.sl a 1 0 n]]⟩,⟨2,1,gh m++lc fI y⟩,⟨2,1,lc fI b⟩,⟨35,1,lc (fR fI) M⟩]
theorem Ck (a d:Nat) (B:Int) (n m:Nat) (y b:List Int) (M:List (List Int)):(rW a B n m y b M).map (renO d)=rW d B n m y b M:=by
 simp_all[renO,cb,iC,gY]
theorem rX (a:Nat) (B:Int) (n m:Nat) (y g:List Int) (M:List (List Int)): ∀o∈rW a B n m y g M,selfO a o:=fun o f e b x c=>by
 simp only[aaR,abj,or_false]at f;rcases f with rfl|rfl|rfl|rfl
 ·simp only[aaq]at b;subst b;simp only[aaR,abj,or_false]at c;rcases c with rfl|rfl|rfl|rfl<;>first|trivial|rfl
 ·simp only[abf]at b;rcases b with b|b
  ·obtain⟨_,rfl⟩:=ach.1 b;simp only[aaq]at c;subst c;trivial
  exact cf (bo 2 1 _ e b x c)
 ·exact cf (bo 2 1 _ e b x c)
 exact cf (bo 35 1 _ e b x c)
theorem XS (a:Nat) (B:Int) (n m e:Nat) (y f c:List Int) (M:List (List Int)): ∀r∈[0],∀o,(rW a B n m y c M)[r]?=some o-> ∃b,(rW a B n e f c M)[r]?=some b/\b.es=o.es/\o.elems.length<=b.elems.length:=fun r g o h=>by
 grind
theorem CI {s:AS} {m:Nat} {c:Int} {y b:List Int} {M:List (List Int)} (e:s.H 0=rW 0 x n m (c::y) b M):bG s ⟨s.tmps,ax s.H 0 (rW 0 x n (m+1) y b M)⟩:=by
 have h:=l8 (s:=s) 0 1 (o:=⟨2,1,gh m++lc fI (c::y)⟩) (o':=⟨2,1,gh (m+1)++lc fI y⟩) (by rw[e];rfl) rfl rfl (by simp only[jq,aaP];omega) fun i f g=>by
  rw[<- nG m c y];grind [gh]
 grind
theorem wH (n:Nat) (f:FF) {k:Nat} (b:k<n):(fd n f n)[k]?=some (mW n f k):=OD f b
structure VsG (γ:Type) (lv:γ->Prop) (lo hi:Int) (b:Int->γ->γ×Bool) (R:γ×Bool) where
 x:Int
 g:γ
 l:lv g
 h1:lo<=x
 h2:x<=hi+1
 e:lpM b (hi-x+1).toNat x g=R
theorem OP {f:Type} {b:Int->f->f×Bool} {c:Int} {g:f} (h:c<=x):lpM b (x-c+1).toNat c g=match b c g with
  |(e,true)=>lpM b (x-(c+1)+1).toNat (c+1) e
  |(e,false)=>(e,false):=by
 rw[show(x-c+1).toNat=(x-(c+1)+1).toNat+1 by omega];rfl
theorem S5 {e:Type} {b:Int->e->e×Bool} {c:Int} {g:e} (h: ¬c<=x):lpM b (x-c+1).toNat c g=(g,true):=by
 rw[show(x-c+1).toNat=0 by omega];rfl
section
variable {γ:Type} {L:f5 γ} {l:Nat} {yd:Nat->Int->γ->γ×Bool} {n:Nat} {f:FF} {B:Int} {lv:γ->Prop}
def VT (P:Program) (L:f5 γ) (l n:Nat) (yd:Nat->Int->γ->γ×Bool) (lv:γ->Prop):Prop:= ∀(m:Nat) (c:Int) (g:γ),lv g->1<=m->m<=n->0<=c->c<=93823560581121->sj P L l [.int .i64 (m:Int),.int .i64 c] g (yd m c g).1 (yd m c g).2
abbrev XO (l:Nat) (k:Nat) (b:Int):List TV:=[.one (.ptr 0 0 0 0),.raw (.int .i64 (k:Int)),.raw (.int .i64 b),.raw (.func (.yield l) #[] #[])]
theorem J7 (s:oS n f B) (hy:VT prog L l n yd lv) (O: ∀m c g,lv g->(yd m c g).2=true->lv (yd m c g).1) (k:Nat) (y:List Int) (hk:y.length+(k+1)=n) (hT:o8 y) (Q:gM f n B (k+1) (aY n y)) (g:γ) (hg:lv g)
  (Z: ∀j,k=j+1-> ∀c,eB f n B k (aY n y)<=c->c<=fC f n B k (aY n y)-> ∀g,lv g->ku prog L [0] 190 (XO l j (pT f n B (j+1) (aY n (c::y)))) (rW 0 B n (j+1) (c::y) (aN (n+1) (dk f)) (fd n f n)) (rW 0 B n (j+1) (c::y) (aN (n+1) (dk f)) (fd n f n)) g (jw yd f n B j (c::y) g).1 (.raw (.bool (jw yd f n B j (c::y) g).2))):
  ku prog L [0] 190 (XO l k (pT f n B (k+1) (aY n y))) (rW 0 B n (k+1) y (aN (n+1) (dk f)) (fd n f n)) (rW 0 B n (k+1) y (aN (n+1) (dk f)) (fd n f n)) g (jw yd f n B k y g).1 (.raw (.bool (jw yd f n B k y g).2)):=by
 have bR:=s.n8;have br:=s.d (k:=k) (by omega);have S:=s.d (k:=k+1) (by omega);have ap:=aw (dk f) (show k<n+1 by omega);have av:=aw (dk f) (show k+1<n+1 by omega);have bp:=aI (n+1) (dk f);have hM:=wH n f (show k<n by omega);have bq:=lN n f n;have a2:(mW n f k).length=n-k-1:=aI _ _;have C: ∀i,i<y.length->(mW n f k)[i]?=some (bk f k k (k+(i+1))):=fun i E=>aw _ (by omega)
 have I:=fun m (hm:m<=y.length)=>s.shP_c hk hT hm
 have z:=oN f hk;have b0:=s.rs0 (k:=k+1) (by omega) Q;have u:=s.sq (k:=k) (by omega) Q;have X:=s.lohi hk hT Q;have bc:=Ui (m:=y.length+1) (by omega);have b1:=nE u.1 u.2;have cR:=xz (.inl rfl) _ u.1 u.2;have ag:=fun c=>s.step hk (c:=c) Q
 have af:dk f k*pT f n B (k+1) (aY n y)=mK f n B k (aY n y):=rfl;have Y:eB f n B k (aY n y)=0-(isqF (mK f n B k (aY n y))+tX f k y y.length)/dk f (k+1):=by grind [eB]
 have W:fC f n B k (aY n y)=(isqF (mK f n B k (aY n y))-tX f k y y.length)/dk f (k+1):=by rw[z];rfl
 have bn:=I y.length (aar _);have ah:=ov (.inl rfl) (isqF (mK f n B k (aY n y))+tX f k y y.length) (dk f (k+1)) S.1 (by omega) (by omega) (by omega);have al:=ov (.inl rfl) (isqF (mK f n B k (aY n y))-tX f k y y.length) (dk f (k+1)) S.1 (by omega) (by omega) (by omega);have N:=hy (n-k) (fC f n B k (aY n y)-eB f n B k (aY n y)+1) g hg (by omega) (by omega) (by omega) (by omega);have e1:IntKind.i64.wrap ((k:Int)+1)=((k+1:Nat):Int):=aK (by omega) (by omega);have e2:IntKind.i64.wrap ((n:Int)-(k:Int))=((n-k:Nat):Int):=by grind [aK]
 have J:k=0->jw yd f n B k y g=yd (n-k) (fC f n B k (aY n y)-eB f n B k (aY n y)+1) g:=fun e=>by subst e;rfl
 have hv1: ∀j,k=j+1->jw yd f n B k y g=match yd (n-k) (fC f n B k (aY n y)-eB f n B k (aY n y)+1) g with
  |(g',true)=>lpM (fun c=>jw yd f n B j (c::y)) (fC f n B k (aY n y)-eB f n B k (aY n y)+1).toNat (eB f n B k (aY n y)) g'
  |(g',false)=>(g',false):=fun j e=>by subst e;rfl
 have ac:tX f k y 0=0:=rfl;have ad: ∀i,tX f k y i+bk f k k (k+(i+1))*y.getD i 0=tX f k y (i+1):=fun _=>rfl
 rw[<- z]at ag;have ab: ∀c,gM f n B k (aY n (c::y))->0<=pT f n B k (aY n (c::y))/\pT f n B k (aY n (c::y))<=70368744177664:=fun c h=>s.rs0 (by omega) h
 have F:=O (n-k) (fC f n B k (aY n y)-eB f n B k (aY n y)+1) g hg;have bd:=fun j c g hg=>Re yd (lv:=lv) O f n B j (c::y) g hg
 obtain⟨P,b,V⟩: ∃P b,yd (n-k) (fC f n B k (aY n y)-eB f n B k (aY n y)+1) g=(P,b):=⟨_,_,rfl⟩;rw[V]at N J hv1 F;simp only at N J hv1 F;clear V hy O s Q hT;generalize jw yd f n B k y g=R at*
 generalize eB f n B k (aY n y)=lo at*
 generalize fC f n B k (aY n y)=E at*
 generalize mK f n B k (aY n y)=sq at*
 generalize pT f n B (k+1) (aY n y)=A at*
 generalize isqF sq=rt at*
 generalize aN (n+1) (dk f)=D at*
 generalize fd n f n=M at*
 generalize mW n f k=r at*
 generalize dk f (k+1)=d1 at*
 generalize dk f k=d0 at*
 generalize tX f k y=w at*
 have bx: -46911780290560<=lo/\lo<=46911780290560:=by omega
 have bt: -46911780290560<=E/\E<=46911780290560:=by omega
 have bl:=X.2.2;clear X bc;have bm:(d1=0)=False:=eq_false (by omega);refine nt func190 rfl (by kernel_rfl) [(0,0)] (by simp) (by simp[selfTV,bs]) (by simp[selfTV,bs]) (rX 0 _ _ _ _ _ _) (rX 0 _ _ _ _ _ _) (XS 0 _ _ _ _ _ _ _ _) ?_;rw[ntmps190];refine dW.weak (aj (tm:=(.one (.ptr 0 0 0 0)::rN k::.raw (.int .i64 A)::.raw (.func (.yield l) #[] #[])::j16 (j16 (j16 (j16 (j16 (j16 (j16 (j4 (j4 ([]))))))))))) (l:=[(0,rW 0 B n (k+1) y D M)]) ⟨rfl,trivial⟩ (by simp[wk,ae])) ?_;refine dE (k:=de (aH e1 av) (k:=bA (de (aH hM a2) (k:=?_))));refine fw (G:=jx y.length) (fun q=>⟨(.one (.ptr 0 0 0 0)::rN k::.raw (.int .i64 A)::.raw (.func (.yield l) #[] #[])::j4 (jk::.raw (.int .i64 d1)::.raw (.int .i64 (w q.i))::j16 (j4 (jk::jk::.one (.p (.sl (ls fI r)))::rN y.length::rN q.i::j16 (j16 (j16 (j16 (j16 (j4 (j4 ([]))))))))))),Hm [(0,rW 0 B n (k+1) y D M)]⟩) (fun _=>g) (fun q=>y.length-q.i) ⟨0,by omega⟩ ?_ rfl ?_
 ·refine aj ⟨rfl,trivial⟩ ?_;simp[wk,ac];omega
 rintro⟨i,bw⟩;simp only;by_cases hm:i<y.length
 ·have a1:=C i hm;have s0:=I i (by omega);have s1:=I (i+1) (by omega);have s2:=ad i;have e3:IntKind.i64.wrap (((k+1:Nat):Int)+(i:Int))=((k+1+i:Nat):Int):=by rw[aK (by omega) (by omega)];omega
  have a4:=Ow (k+1) i y;have a5:=jq (k+1) y;have bh:y[i]?=some (y.getD i 0):=by grind
  generalize bk f k k (k+(i+1))=q at*
  generalize y.getD i 0=yi at*
  refine dE (k:=nk rfl (bA (dz (de a1 (k:=lB (aH e1 (aH e3 (aH a4 (aH bh s2)))) (k:=sn (k:=?_)))))));refine⟨⟨i+1,by omega⟩,by grind,aj ⟨rfl,trivial⟩ ?_,rfl⟩;simp[wk]
 have a8:i=y.length:=by omega
 subst a8;refine dE (k:=pa rfl (de (aH ap af) (k:=CY [⟨1,_,_,_,cR⟩] (k:=?_))));refine lA [⟨4,_,_,_,ah⟩,⟨10,_,_,_,al⟩] [] (by kernel_rfl) fun _ K=>?_;simp(disch:=omega) only[kd,<- W,aa,aK,<- Y,Nat.reduceBEq];apply K
 refine bA (bA ?_);refine CT 12 N [] [] (by kernel_rfl) (by decide) fun K o=>?_
 simp(disch:=omega) only[kd,aa,e2,aK];refine o _ ⟨rfl,?_⟩;clear o K;intro K o;simp only[kd,aa,yS,cwD];apply o;clear o K;show dW _ _ _ _ _ _ _;cases b with
 |false=>
  have C:R=(P,false):=by
   cases k with
   |zero=>grind
   |succ j=>grind
  subst C;refine fO rfl (dE (k:=?_));refine jB ⟨.inr rfl,rfl,_,aj (tm:=(.one (.ptr 0 0 0 0)::j4 (jk::jk::jk::.raw (.bool false)::j16 (j16 (j16 (j16 (j16 (j16 (j16 (jk::jk::jk::[])))))))))) (l:=[(0,rW 0 B n (k+1) y D M)]) ⟨rfl,trivial⟩ (by simp[wk]),⟨fQ _,rfl⟩,by simp⟩
 |true=>
  refine fq rfl (dM ?_);show dW _ _ _ _ _ _ _;cases k with
  |zero=>
   have C:R=(P,true):=J rfl;subst C;refine bA (dE (k:=fO rfl (dE (k:=?_))));refine jB ⟨.inr rfl,rfl,_,aj (tm:=(.one (.ptr 0 0 0 0)::j4 (jk::jk::jk::.raw (.bool true)::j16 (j16 (j16 (j16 (j16 (j16 (j16 (jk::jk::jk::[])))))))))) (l:=[(0,rW 0 B n (0+1) y D M)]) ⟨rfl,trivial⟩ (by simp[wk]),⟨fQ _,rfl⟩,by simp⟩
  |succ j=>
   have C:=hv1 j rfl;have a9:(((j+1:Nat):Int)=0)=False:=eq_false (by omega);have e4:IntKind.i64.wrap (((j+1:Nat):Int)-1)=(j:Int):=by grind [aK]
   refine bA (de a9 (k:=fq rfl (dM (bA (dE (k:=?_))))));refine fw (G:=VsG γ lv lo E (fun c=>jw yd f n B j (c::y)) R) (fun v=>⟨(.one (.ptr 0 0 0 0)::.raw (.int .i64 ((j+1:Nat):Int))::jk::.raw (.func (.yield l) #[] #[])::j4 (jk::.raw (.int .i64 d1)::.raw (.int .i64 (w y.length))::jk::jk::.raw (.int .i64 sq)::jk::jk::.raw (.int .i64 E)::.raw (.int .i64 v.x)::j16 (j16 (j16 (j16 (j16 (j16 (j4 (j4 (jk::jk::[])))))))))),Hm [(0,rW 0 B n (j+1+1) y D M)]⟩) (fun v=>v.g) (fun v=>(E+1-v.x).toNat) ⟨lo,P,F rfl,by omega,by omega,C.symm⟩ ?_ rfl ?_
   ·refine aj ⟨rfl,trivial⟩ ?_;simp[wk]
   rintro⟨x,g2,U,h1,h2,t⟩;simp only;by_cases hx:x<=E
   ·rw[OP hx]at t;obtain⟨a0,hq⟩:=ag x h1 hx;have bb:=ab x a0;have cV:=Z j rfl x h1 hx g2 U;have H:=bd j x g2 U;obtain⟨g3,b3,a7⟩: ∃g3 b3,jw yd f n B j (x::y) g2=(g3,b3):=⟨_,_,rfl⟩;rw[a7]at cV t H;simp only at cV t H;generalize pT f n B (j+1) (aY n (x::y))=rx at*
    have b4:(d1*x).natAbs<=65535*46911780290560:=by
     rw[abk];exact aaT (by omega) (by omega)
    have ba:0<=d1*rx:=aaS (by omega) bb.1;have T:Int.tdiv (sq-(d1*x+w y.length)*(d1*x+w y.length)) d1=rx:=by rw[hq];grind [Int.mul_tdiv_cancel_left]
    have b2:0<=(d1*x+w y.length)*(d1*x+w y.length):=by
     rcases abU 0 (d1*x+w y.length)with h|h
     ·exact aaS h h
     exact aaU h h
    have a5:=jq (j+1+1) y;have a6:=nG (j+1) x y;have a3:(gh (j+1+1)++lc fI y)[j+1]?=some [.junk]:=by
     rw[aaB (by simp[gh])];simp[gh]
    refine bA (dE (k:=fO rfl (dM (bA (dz (de (aH a3 a6) (k:=dE (k:=bA (gC 11 cV 0 [] [] (by kernel_rfl) (by omega) (by decide) fun K o=>?_)))))))));generalize hU:(d1*x+w y.length)*(d1*x+w y.length)=uu at*
    simp(disch:=omega) only[kd,aa,e4,hU,aK,T];refine o _ ⟨⟨rfl,(Ck 0 0 _ _ _ _ _ _).symm⟩,?_⟩;clear o K;intro K o;simp(disch:=omega) only[kd,aa,Fd,cwD,pB,mu,Nat.reduceBEq,abe,gY];apply o;clear o K;show dW _ _ _ _ _ _ _;cases b3 with
    |false=>
     simp only at t;subst t;refine fO rfl (dE (k:=?_));refine jB ⟨.inr rfl,rfl,_,(CI rfl).trans (aj (tm:=(.one (.ptr 0 0 0 0)::j4 (jk::jk::jk::.raw (.bool false)::j16 (j16 (j16 (j16 (j16 (j16 (j16 (jk::jk::jk::[])))))))))) (l:=[(0,rW 0 B n (j+1+1) y D M)]) ⟨rfl,trivial⟩ (by simp[wk])),⟨fQ _,rfl⟩,by simp⟩
    |true=>
     simp only at t;refine fq rfl (dM (sn (k:=?_)));refine⟨⟨x+1,g3,H rfl,by omega,by omega,t⟩,by simp only;omega,(CI rfl).trans (aj ⟨rfl,trivial⟩ ?_),rfl⟩;simp[wk]
   rw[S5 hx]at t;subst t;refine bA (dE (k:=fq rfl (ni (dE (k:=?_)))));refine jB ⟨.inr rfl,rfl,_,aj (tm:=(.one (.ptr 0 0 0 0)::j4 (jk::jk::jk::.raw (.bool true)::j16 (j16 (j16 (j16 (j16 (j16 (j16 (jk::jk::jk::[])))))))))) (l:=[(0,rW 0 B n (j+1+1) y D M)]) ⟨rfl,trivial⟩ (by simp[wk]),⟨fQ _,rfl⟩,by simp⟩
end
end
section
section
variable {γ:Type} {L:f5 γ} {l:Nat} {yd:Nat->Int->γ->γ×Bool} {n:Nat} {f:FF} {B:Int} {lv:γ->Prop}
theorem UD (r:oS n f B) (s:VT prog L l n yd lv) (q: ∀m c g,lv g->(yd m c g).2=true->lv (yd m c g).1): ∀(k:Nat) (y:List Int),y.length+(k+1)=n->o8 y->gM f n B (k+1) (aY n y)-> ∀g:γ,lv g->
  ku prog L [0] 190 (XO l k (pT f n B (k+1) (aY n y))) (rW 0 B n (k+1) y (aN (n+1) (dk f)) (fd n f n)) (rW 0 B n (k+1) y (aN (n+1) (dk f)) (fd n f n)) g (jw yd f n B k y g).1 (.raw (.bool (jw yd f n B k y g).2)):=by
 intro k
 induction k with
 |zero=>intro y p h b g o;exact J7 r s q 0 y p h b g o fun j e=>by omega
 |succ k w=>
  intro y p h b g o;refine J7 r s q (k+1) y p h b g o fun j e c t u g o=>?_
  obtain rfl:j=k:=by omega
  have v:=r.lohi p h b;exact w (c::y) (by grind) (h.cons (by omega)) (r.step p b t u).1 g o
noncomputable def JV (yd:Nat->Int->γ->γ×Bool) (f:FF) (n:Nat) (B:Int) (g:γ):γ:=if n=1 then(yd 1 (2*isqF (B/dk f 1)+1) g).1 else(jw yd f n B (n-1) [] g).1
theorem G6 (b:oS n f B):pT f n B n (aY n [])=dk f n*B:=by
 grind [aY,uv,pT]
def ZF (n:Nat) (f:FF) (B:Int):Prop:=(n=1/\0<dk f 1/\dk f 1<=4611686018427387904/\0<=B/\B<=4611686018427387904)\/(2<=n/\oS n f B)
theorem Uh (h:ZF n f B) (y:VT prog L l n yd lv) (G: ∀m c g,lv g->(yd m c g).2=true->lv (yd m c g).1) (g:γ) (I:lv g):
  qa prog L 131 [.one (.ptr 0 0 0 0),.raw (.func (.yield l) #[] #[])] (rW 0 B n n [] (aN (n+1) (dk f)) (fd n f n)) (rW 0 B n n [] (aN (n+1) (dk f)) (fd n f n)) g (JV yd f n B g) (.tup []):=by
 have Q:=aI (n+1) (dk f);have s:=aw (dk f) (show n<n+1 by omega);refine NC func131 rfl (by kernel_rfl) (by simp[selfTV,bs]) (by simp[selfTV]) (rX 0 _ _ _ _ _ _) (rX 0 _ _ _ _ _ _) ?_;rw[ntmps131];refine r9.weak (aj (tm:=(.one (.ptr 0 0 0 0)::.raw (.func (.yield l) #[] #[])::j16 (j16 (j4 (j4 (jk::jk::jk::[])))))) (l:=[(0,rW 0 B n n [] (aN (n+1) (dk f)) (fd n f n))]) ⟨rfl,trivial⟩ (by simp[wk,ae])) ?_;refine se fun _ K=>?_;simp only[kd,aa];apply K
 rcases h with⟨rfl,R,S,z,X⟩|⟨T,j⟩
 ·have w:0<=B/dk f 1:=abH z (by omega);have V:B/dk f 1<=B:=acK _ z;have W:=nE w (by omega);have cR:=xz (.inl rfl) (B/dk f 1) w (by omega);have o:=y 1 (2*isqF (B/dk f 1)+1) g I (by omega) (by omega) (by omega) (by omega);have u:JV yd f 1 B g=(yd 1 (2*isqF (B/dk f 1)+1) g).1:=if_pos rfl;rw[u];have P:Int.tdiv B (dk f 1)=B/dk f 1:=abK z;have H:(dk f 1=0)=False:=eq_false (by omega);obtain⟨p,b,e⟩: ∃p b,yd 1 (2*isqF (B/dk f 1)+1) g=(p,b):=⟨_,_,rfl⟩;rw[e]at o⊢;simp only at o⊢;generalize aN (1+1) (dk f)=D at*
  generalize fd 1 f 1=M at*
  generalize dk f 1=d at*
  generalize B/d=q at*
  generalize isqF q=rt at*
  clear y e u;refine ux (se fun _ K=>?_);simp(disch:=omega) only[kd];apply K;refine VR rfl ?_;refine ux ?_;refine CP b8 o [⟨12,_,_,_,cR⟩] [] (by kernel_rfl) fun K t=>?_
  simp(disch:=omega) only[kd,abp,aa,Nat.reduceSub,Int.reduceToNat,s,P,aK];refine t _ ⟨rfl,?_⟩;clear t K;simp only[rP];refine R3 ⟨.inr rfl,rfl,_,aj (tm:=(.one (.ptr 0 0 0 0)::j16 (j16 (j4 (j4 (j4 ([]))))))) (l:=[(0,rW 0 B 1 1 [] D M)]) ⟨rfl,trivial⟩ ?_,fQ _,rfl⟩;simp only[kd,yS,cwD];simp[wk]
 have U:=j.n8;have A:gM f n B n (aY n []):=kv j.r.pd j.b0;have x:=UD j y G (n-1) [] (by simp;omega) o8.nil (by grind) g I;rw[show n-1+1=n by omega,G6 j]at x;have u:JV yd f n B g=(jw yd f n B (n-1) [] g).1:=if_neg (by omega);rw[u];have Y:=j.d (k:=n) (aar n);have v:=j.b0;have C:=j.b1;have J:0<=dk f n*B:=aaS (by omega) v;have N:dk f n*B<=65536*1073741824:=aa7 (by omega) C v (by omega);have E:((n:Int)=1)=False:=eq_false (by omega);have O:IntKind.i64.wrap ((n:Int)-1)=((n-1:Nat):Int):=by grind [aK]
 obtain⟨p,b,e⟩: ∃p b,jw yd f n B (n-1) [] g=(p,b):=⟨_,_,rfl⟩;rw[e]at x⊢;simp only at x⊢;generalize aN (n+1) (dk f)=D at*
 generalize fd n f n=M at*
 generalize dk f n=d at*
 generalize F:d*B=Z at*
 clear y e u j A;refine ux (se fun _ K=>?_);simp only[kd,E];apply K;refine VQ rfl (M9 ?_);show r9 _ _ _ _ _ _;refine Fz b8 x.toL 0 [] [] (by omega) (by kernel_rfl) fun K t=>?_
 simp(disch:=omega) only[kd,abp,aa,Nat.reduceSub,O,s,F,aK];refine t _ ⟨⟨rfl,(Ck 0 0 _ _ _ _ _ _).symm⟩,?_⟩;clear t K;refine⟨.inl rfl,rfl,_,aj (tm:=(j16 (j16 (j4 (j4 (j4 (jk::[]))))))) (l:=[(0,rW 0 B n n [] D M)]) ⟨?_,trivial⟩ ?_,fQ _,rfl⟩
 ·rw[X0,fE];grind [aM,Ck]
 simp only[kd,X0,cwD,abp,aa,Nat.reduceSub];simp[wk]
end
end
def gO (g:OObj) (a e:Nat):AV->AV
 | .sl b r c len=>if b=a/\r=e then .p (.sl (((g.elems.take (c+len)).drop c).map (List.map uq)))else .sl b r c len
 | .ptr b r i j=>if b=a/\r=e then .junk else .ptr b r i j
 | .fn f b h=>if b=a then .junk else .fn f b h
 |x=>x
theorem Ld (e:OObj) (a j:Nat):oR (gO e a j):=fun f b g=>by
 by_cases h:b=a
 ·exact .inl (if_pos h)
 exact .inr ⟨b,g,if_neg h,rfl,fun n q c=>⟨q,c,if_neg fun k=>h k.1⟩⟩
def IX (b:OObj) (a c:Nat):TV->TV
 | .one x=> .one (gO b a c x)
 | .agg e=> .agg (e.map (gO b a c))
 | .fn f e=> .fn f (e.map (gO b a c))
 | .tup g=> .tup (g.map fun t=>(t.1,t.2.map (gO b a c)))
def qC (b:OObj) (a c:Nat) (o:OObj):OObj:={o with elems:=o.elems.map (List.map (gO b a c))}
theorem Gq {a:Nat} {x:AV} (h:bs a x):bs a (gO e a n x):=by
 cases x with
 |sl b r c len=>simp only[gO];split<;>first|trivial|exact h
 |ptr b r i j=>simp only[gO];split<;>first|trivial|exact h
 |fn f b g=>simp only[gO];split<;>first|trivial|exact h
 |_=>exact h
theorem DB {a x:Nat} {y:AV} (c:x≠a) (h:bs x y):gO e a n y=y:=by
 cases y with
 |sl b r g len=>have h:b=x:=h;subst h;exact if_neg fun k=>c k.1
 |ptr b r i j=>have h:b=x:=h;subst h;exact if_neg fun k=>c k.1
 |fn f b l=>have h:b=x:=h.1;subst h;exact if_neg c
 |_=>rfl
theorem vr {s:AS} (a l:Nat) {o0:OObj} (K:(s.H a)[l]?=some o0) (a3:dT o0):bG s ⟨s.tmps.map (IX o0 a l),ax s.H a (((s.H a).set l {o0 with elems:=[]}).map (qC o0 a l))⟩:=by
 rintro w0 O X ap w ⟨h1,a5,L,g,ab⟩;have ab:aV X L s ap w:=ab;generalize ad:ax s.H a (((s.H a).set l {o0 with elems:=[]}).map (qC o0 a l))=H1;generalize Y:(fun x y=>if x=a/\y=l then none else L x y:Rho)=ρ1;have W:ρ1 a l=none:=by rw[<- Y];exact if_pos ⟨rfl,rfl⟩
 have J: ∀x y,¬(x=a/\y=l)->ρ1 x y=L x y:=fun x y h=>by rw[<- Y];exact if_neg h
 have af: ∀x,x≠a->H1 x=s.H x:=fun x h=>by rw[<- ad];exact aG h
 have ae: ∀y:Nat,(H1 a)[y]?=if y=l then some {o0 with elems:=[]}else((s.H a)[y]?).map (qC o0 a l):=fun y=>by
  rw[<- ad,aM,aam,aa3];by_cases I:l=y
  ·subst I;rw[if_pos rfl,if_pos (aao.1 K).1,if_pos rfl];rfl
  rw[if_neg I,if_neg (acE I)]
 have Q: ∀(x y:Nat) q,(H1 x)[y]?=some q->(x=a/\y=l/\q={o0 with elems:=[]})\/(¬(x=a/\y=l)/\ ∃m,(s.H x)[y]?=some m/\q=qC o0 a l m):=fun x y q h=>by
  by_cases E:x=a
  ·subst E;rw[ae]at h;by_cases I:y=l
   ·rw[if_pos I]at h;injection h with h
    exact .inl ⟨rfl,I,h.symm⟩
   rw[if_neg I]at h;obtain⟨m,A,M⟩:=aak.1 h;exact .inr ⟨fun k=>I k.2,m,A,M.symm⟩
  rw[af x E]at h;refine .inr ⟨fun k=>E k.1,q,h,?_⟩;have hs:=g.self x y q h;have:q.elems.map (List.map (gO o0 a l))=q.elems:=Bl fun e D z T=>DB E (hs e D z T)
  unfold qC;rw[this]
 have ah: ∀(x y:Nat) q,(s.H x)[y]?=some q-> ¬(x=a/\y=l)-> ∃q',(H1 x)[y]?=some q'/\q'.es=q.es/\q'.elems.length=q.elems.length:=fun x y q h S=>by
  by_cases E:x=a
  ·subst E;exact⟨qC o0 x l q,by rw[ae,if_neg fun k=>S ⟨rfl,k⟩,h];rfl,rfl,by simp[qC]⟩
  exact⟨q,by rw[af x E];exact h,rfl,rfl⟩
 have C: ∀(x y:Nat) q b c,(H1 x)[y]?=some q->ρ1 x y=some (b,c)-> ¬(x=a/\y=l)/\L x y=some (b,c)/\ ∃m,(s.H x)[y]?=some m:=fun x y q b c h e=>by
  rcases Q x y q h with⟨rfl,rfl,_⟩|⟨S,m,A,_⟩
  ·rw[W]at e;cases e
  exact⟨S,by rw[<- J x y S];exact e,m,A⟩
 have ag: ∀b,Xo X ρ1 H1 b->Xo X L s.H b:=fun b B=>by
  rcases B with B|⟨x,y,q,n,A,M⟩
  ·exact .inl B
  obtain⟨_,F,m,R⟩:=C x y q b n A M;exact .inr ⟨x,y,m,n,R,F⟩
 have a2: ∀b c,L a l=some (b,c)-> ¬Xo X ρ1 H1 b:=fun b c hr hX=>by
  rcases hX with hX|⟨x,y,q,n,A,M⟩
  ·exact(g.old a l o0 b c K hr).2 hX
  obtain⟨g0,F,m,R⟩:=C x y q b n A M;exact g0 (g.inj x y a l m o0 b n c R K F hr)
 have aa: ∀x u,isPure x=true->AV.rel L s.H (Xo X L s.H) w x u->bM (Xo X ρ1 H1) w (uq x) u:=fun x u hp h=>by
  cases x<;>first|exact bM.weaken (fun b _ B=>ag b B) h|cases hp
 have G: ∀x v,AV.rel L s.H (Xo X L s.H) w x v->AV.rel ρ1 H1 (Xo X ρ1 H1) w (gO o0 a l x) v:=gp (Ld o0 a l) fun x v S h=>by
  cases x with
  |fn=>cases S
  |p x=>exact bM.weaken (fun b _ B=>ag b B) h
  |sl b r a7 len=>
   simp only[gO];by_cases B:b=a/\r=l
   ·rw[if_pos B];obtain⟨rfl,rfl⟩:=B;exact kN (g.objs b r o0 K) K (fun e D y I u hu=>aa y u (a3 e D y I) hu) (a2) h
   rw[if_neg B];obtain⟨o,A,M,F⟩:=h;obtain⟨o',k1,k2,k3⟩:=ah b r o A B;exact⟨o',k1,by omega,by rw[J b r B,k2];exact F⟩
  |ptr b r i j=>
   simp only[gO];by_cases B:b=a/\r=l
   ·rw[if_pos B];trivial
   rw[if_neg B];obtain⟨o,b',c,A,M,F,R⟩:=h;obtain⟨o',k1,k2,k3⟩:=ah b r o A B;exact⟨o',b',c,k1,by rw[J b r B];exact M,by omega,by rw[k2];exact R⟩
  |junk=>trivial
 have N: ∀V v,bH L s.H (Xo X L s.H) w V v->bH ρ1 H1 (Xo X ρ1 H1) w (V.map (gO o0 a l)) v:=fun V v h=>by
  obtain⟨vs,A,M,F⟩:=h;refine⟨vs,A,by simpa using M,fun j x E=>?_⟩;rw[aam]at E;obtain⟨y,I,rfl⟩:=aak.1 E;obtain⟨u,u1,U,u3⟩:=F j y I;exact⟨u,u1,U,G y u u3⟩
 refine⟨h1,by simpa using a5,ρ1,⟨g.keep,fun x y q hq=>?_,fun x y x' y' q q' b c c' hq a4 e Z=>?_,fun x y q b c hq e=>?_,g.bar,fun x y q hq=>?_⟩,fun t x E=>?_⟩
 ·rcases Q x y q hq with⟨rfl,rfl,rfl⟩|⟨S,m,A,rfl⟩
  ·refine⟨fun e D=>(by cases D),(g.objs x y o0 K).2.1,?_⟩;rw[W]
  obtain⟨q1,q2,q3⟩:=g.objs x y m A;refine⟨fun e D=>?_,q2,?_⟩
  ·simp only[qC,aau]at D;obtain⟨Z,P,rfl⟩:=D;rw[ab0];exact q1 Z P
  rw[J x y S];cases hr:L x y with
  |none=>rw[hr]at q3;simp[qC,q3]
  |some bc=>
   obtain⟨b,c⟩:=bc;rw[hr]at q3;obtain⟨cells,p1,p2,p3,p4,p5⟩:=q3;refine⟨cells,p1,p2,by simpa[qC] using p3,p4,fun i e j z D T=>?_⟩;simp only[qC,aam]at D;obtain⟨Z,P,rfl⟩:=aak.1 D;rw[aam]at T;obtain⟨z',ac,rfl⟩:=aak.1 T;obtain⟨u,u1,U,u3⟩:=p5 i Z j z' P ac;exact⟨u,u1,U,G z' u u3⟩
 ·obtain⟨_,F,m,R⟩:=C x y q b c hq e;obtain⟨_,a0,a6,a1⟩:=C x' y' q' b c' a4 Z;exact g.inj x y x' y' m a6 b c c' R a1 F a0
 ·obtain⟨_,F,m,R⟩:=C x y q b c hq e;exact g.old x y m b c R F
 ·rcases Q x y q hq with⟨rfl,rfl,rfl⟩|⟨S,m,A,rfl⟩
  ·intro e D;cases D
  intro e D z T;simp only[qC,aau]at D;obtain⟨Z,P,rfl⟩:=D;simp only[aau]at T;obtain⟨z',ac,rfl⟩:=T;have hs:=g.self x y m A Z P z' ac;by_cases E:x=a
  ·subst E;exact Gq hs
  rw[DB E hs];exact hs
 simp only[aam]at E;obtain⟨y,I,rfl⟩:=aak.1 E;obtain⟨v,v1,v2⟩:=ab t y I;refine⟨v,v1,?_⟩;cases y with
 |one x=>exact G x v v2
 |agg V=>exact N V v v2
 |fn f V=>obtain⟨u,h1,h2⟩:=v2;exact⟨u,N V u h1,h2⟩
 |tup ts=>
  obtain⟨vs,A,M,F⟩:=v2;refine⟨vs,A,by simpa using M,fun j b V hj=>?_⟩;rw[aam]at hj;obtain⟨z,T,al⟩:=aak.1 hj;obtain⟨b',av⟩:=z;simp at al;obtain⟨rfl,rfl⟩:=al;obtain⟨u,u1,U⟩:=F j b' av T;refine⟨u,u1,?_⟩;rcases U with⟨U,u3⟩|⟨U,q,rfl,u4⟩
  ·exact .inl ⟨U,N _ _ u3⟩
  exact .inr ⟨U,_,rfl,G q u u4⟩
section
section
variable {P:Program} {w0 w w':World} {O X:Nat->Prop} {s s':AS} {a:Act} {ρ:Rho} {γ:Type} {fn:Func} {r:TV} {Post:World->(Nat->Prop)->Exit->Act->World->Prop}
theorem Co.weak (h:bG s s') (k:Co P b Post s'):Co P b Post s:=fun w0 X a w e f=>k w0 X a w e (h _ _ _ _ _ f)
theorem qj {y:Code} (h:bf P b (MQ P fn r (kw P fn r) (Co P y (kw P fn r))) s):Co P (.seq b y) (kw P fn r) s:=Ix h
theorem Ng (S:AS) {y:Code} (h:bf P b (MQ P fn r (kw P fn r) (fun s'=>bG s' S)) s) (k:Co P y (kw P fn r) S):Co P (.seq b y) (kw P fn r) s:=Ix (h.mono fun e s' h=>by
 cases e with
 |normal=>exact Co.weak h k
 |_=>exact h)
theorem ir {f:Option Nat} {e:List Deferred} {Q:Exit->AS->Prop} {id:Nat} (h: ∀K:AS->Prop,(∀s',vE P f ρ e b Q s'->K s')->mG P c.toList (some s) K):vE P f ρ e (.seq (.region id c false) b) Q s:=Nf h
theorem sf {e:Option Nat} {b:List Deferred} {Q:Exit->AS->Prop} {id:Nat} (h: ∀K:AS->Prop,(∀s',Q .normal s'->K s')->mG P c.toList (some s) K):vE P e ρ b (.region id c false) Q s:=Nc h
theorem FC {Y id:Nat} {q k:Tmp} {Z:Array Tmp} {asg tail:Code} {f:FuncId} {ap:Nat×Nat×Nat} {fa:Nat} {F F':List OObj} {tml:List TV} {H:γ->OH} {jump:γ->Option Code} {hH: ∀g,xF (H g)} {ht:tml.all qW=true} {g0 g1:γ} {rf:TV} (y:List (ao P)) (ow:List Nat) (hm: ∃o,c[c.size-1]?=some o/\o.guard=none/\o.op= .makeFunc (.func f) #[.tmp k] #[]/\o.dst=some q/\q≠k) (ab:0<c.size) (B: ∀(R:Az) (ρ:Rho) (S: ∀x r m,ρ x r≠some (R.l,m)),R.ps=Z->R.asg=asg->R.bd=b->qa P (Fo R ρ tml H jump S hH ht) f [.one (.ptr 0 ap.1 ap.2.1 ap.2.2),.raw (.func (.yield R.l) #[] #[])] F F' g0 g1 rf) (N:fa<=4999) (Q:jump g0=none) (L:tml.all (Nu fa)=true) (h:aS P (y.map ao.a) ow (aJ c (c.toList.take (c.size-1)) 0) (some s) (fun z=>z.ev (.tmp k)=some (.one (.ptr fa ap.1 ap.2.1 ap.2.2))/\q<z.tmps.length/\z.H fa=F.map (renO fa)/\H g0=ax z.H fa []/\tml.length=z.tmps.length/\ ∀(t:Nat) x,tml[t]?=some x->x= .one .junk\/(z.put (some q) (.one .junk)).tmps[t]?=some x)) (hQ: ∀(ρ:Rho) (ds:List Deferred),match jump g1 with
   |none=>vE P none ρ ds tail (fun e s'=>(e= .normal\/e= .ret)/\yE P fn r s') ⟨tml,H g1⟩
   |some m=>m= .ret/\yE P fn r ⟨tml,H g1⟩):Co P (.seq (.seq (.region Y c false) (.block id (.rangeFunc (.tmp q) Z asg b))) tail) (kw P fn r) s:=fun w0 X a w K hr=>by
 obtain⟨z,h1,k1,k2,k3,k4,k5,k6⟩:=aR P (y.map ao.a) ow c _ 0 s _ h;obtain⟨o,ho,hg,V,C,G⟩:=hm;have U:(c.toList.take (c.size-1)).length=c.size-1:=by rw[acN];simp
 refine wp_seq (wp_seq ((wpIn_wide (n:=0)).1 (wpIn_region (F:=FW none) ?_)));rw[show c.size=(c.toList.take (c.size-1)).length+1 by omega,aaX,<- abr,aa6];refine BO (c.toList.take (c.size-1)) 0 s z a w (fun j o v=>?_) h1 hr fun p w' r'=>?_
 ·rw[acg]at v;split at v
  ·simpa using v
  cases v
 rw[U,abb,wpOpsIn_cons];unfold wpOpIn;rw[ho];simp only;rw[if_pos (by simp[Region.wanted,hg])];refine⟨fun _ _=>trivial,?_⟩;rw[show Oper.semAt (FW none).round p.eval o=execOp p.eval o from rfl];have A:(execOp p.eval o).run P w'= .ok (.value (.func (.func f) #[p.eval (.tmp k)] #[])) w':=by
  unfold execOp;rw[V];simp only;refine eh ?_;simp[Instr.makeFunc,abc]
 rw[A];show(Code.block id (.rangeFunc (.tmp q) Z asg b)).wp P (Exit.then (tail.wp P (kw P fn r w0 X)) (kw P fn r w0 X)) (p.put o.dst (.func (.func f) #[p.eval (.tmp k)] #[])) w';rw[C];obtain⟨n1,J,ρ,E,W⟩:=r';have r2:dx w0 (fun _=>False) X (z.put (some q) (.one .junk)) (p.put (some q) (.func (.func f) #[p.eval (.tmp k)] #[])) w':=eD n1 J E W trivial;have T:q<p.tmps.size:=Nat.lt_of_lt_of_eq k2 J.symm;have M:(p.put (some q) (.func (.func f) #[p.eval (.tmp k)] #[])).eval (.tmp k)=p.eval (.tmp k):=by
  show(p.tmps.setIfInBounds q _).getD k undef=p.tmps.getD k undef;rw[acG,acG,ac4 G]
 refine wp_block ?_;refine Rk (fs:= #[p.eval (.tmp k)]) (targs:=[.one (.ptr 0 ap.1 ap.2.1 ap.2.2)]) r2 K (by show(p.tmps.setIfInBounds q _)[q]?=_;rw[Array.getElem?_setIfInBounds_self_of_lt T]) rfl (fun j t v=>?_) N (by rw[fE];exact k3) (by rw[fE];exact k4) Q ⟨by simpa[AS.put] using k5,k6⟩ L (fun R ρ S e1 e2 e3=>B R ρ S e1 e2 e3) (fun aa D w3 u=>?_)
 ·cases j with
  |succ j=>simp at v
  |zero=>
   simp at v;subst v;refine⟨_,rfl,.tmp k,?_,M⟩;show(z.tmps.set q _)[k]?=_;rw[abq G];exact k1
 have:=hQ aa [{target:= .collected D,args:= #[]}];cases v:jump g1 with
 |none=>
  rw[v]at this;exact Qw K u this
 |some m=>
  rw[v]at this;obtain⟨rfl,I⟩:=this;exact wp_ret (Am K u u.rel I (.inr rfl))
end
end
end Go.Proofs.YtalmoejhjceflaaGreat
