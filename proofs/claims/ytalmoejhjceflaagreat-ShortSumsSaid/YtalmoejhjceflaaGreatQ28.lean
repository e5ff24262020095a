/-
  Part 29 of a proof (walks and plain facts).
-/
import Derived.Test.YtalmoejhjceflaaGreatQ27
set_option linter.all false
set_option maxRecDepth 100000
set_option maxHeartbeats 64000000
open Nat renaming reduceAdd → aa
open Nat renaming reduceEqDiff → ab
open List renaming replicate → ae
namespace Go.Proofs.YtalmoejhjceflaaGreat
open Go.RowKit Go.Proofs.Tryz
variable {n m:Nat} {x:Int} {b:FF}
abbrev ij (d n c:Nat) (f:FF):List OObj:=⟨85,1,l9 d (ae n c)⟩::(mat n c f).map qv
theorem Ss (n c:Nat) (f:FF):(mat n c f).map List.length=ae n c:=by
 apply acz;grind [bD,aD,aU]
theorem oU (d n c:Nat) (f:FF):YB d (mat n c f)=ij d n c f:=by rw[YB,Ss]
theorem oQ (n c:Nat):ae n (ae c (0:Int))=mat n c fun _ _=>0:=by
 apply acz;intro i;rw[ac5];by_cases h:i<n
 ·rw[bD _ _ h,if_pos h]
  congr 1
  apply acz;grind [aB,aD]
 grind [aU]
theorem cf {n i:Nat} (d c:Nat) (h:i<n):(l9 d (ae n c))[i]?=some [.sl d (i+1) 0 c]:=by
 simp[l9,h]
theorem ez {n i:Nat} (c:Nat) (f:FF) (h:i<n):((mat n c f).map qv)[i]?=some ⟨65,2,lc fZ (aN c (f i))⟩:=by
 rw[ach,bD _ _ h];rfl
def upd (f:FF) (i j:Nat) (v:Int):Nat->Nat->Int:=fun a=>if a=i then(fun b=>if b=j then v else f i b)else f a
theorem js {n i j:Nat} (c:Nat) (f:FF) (v:Int):((mat n c f).map qv).set i ⟨65,2,(lc fZ (aN c (f i))).set j [.p (.raw (.bool (decide (v<0)))),.p (.sl (ls fU (au v.natAbs)))]⟩=(mat n c (upd f i j v)).map qv:=by
 have e:(⟨65,2,(lc fZ (aN c (f i))).set j [.p (.raw (.bool (decide (v<0)))),.p (.sl (ls fU (au v.natAbs)))]⟩:OObj)=qv (aN c fun b=>if b=j then v else f i b):=by
  rw[<- nL,qv,<- wj];rfl
 rw[e,<- agT,Mu];rfl
theorem bO {g:FF} (h: ∀i j,i<n->j<m->b i j=g i j):(mat n m b).map qv=(mat n m g).map qv:=by rw[gI h]
theorem gk (d e n c:Nat) (f:FF):(ij d n c f).map (renO e)=ij e n c f:=by rw[<- oU,<- oU,My]
theorem jo {H:OH} {d n c:Nat} {f:FF} (h:H d=ij d n c f):xG H d:=fun r o b e g x j=>by
 rw[h]at b;cases r with
 |succ r=>
  rw[adY,ach]at b;obtain⟨l,m,rfl⟩:=acf.1 b;exact .inl (bL _ _ l e g x j)
 |zero=>
  grind [List.mem_iff_getElem?,dE,cf,qv,bL,bD]
theorem RG {H:OH} {d n c:Nat} {f:FF} (h:H d=ij d n c f):fk H d (.one (.sl d 0 0 n))=dr (mat n c f):=by
 have e:((l9 d (ae n c)).map (List.map (po H d)))=ls (fR fZ) (mat n c f):=by
  apply acz;intro i;rw[ach,gV];by_cases b:i<n
  ·rw[cf d c b,bD _ _ b];simp only[adB,acA,acT,po,h,adY,ez _ _ b,fR,iK,D7,qP];grind [aD]
  grind [dE,aU]
 grind [fk,dP,dE]
def ZV:TV:= .tup [(false,[.p (.raw (.slice none 0 0))]),(false,[.p (.raw (.bool false))])]
def UL (M:List (List Int)):TV:= .tup [(false,[.p (.sl (ls (fR fZ) M))]),(false,[.p (.raw (.bool true))])]
structure fY (n:Nat) where
 i:Nat
 hi:i<=n
def part (f:FF) (i j:Nat):Nat->Nat->Int:=fun a b=>if a<i\/(a=i/\b<j)then f a b else 0
theorem ik (f:FF) (i j a b:Nat):upd (part f i j) i j (f i j) a b=part f i (j+1) a b:=by
 unfold upd part;by_cases c:a=i
 ·subst c;grind
 simp[c]
theorem jx (f:FF) (i a b:Nat) (e:b<n):part f i n a b=part f (i+1) 0 a b:=by
 grind [part]
theorem jw (f:FF) (a b:Nat) (c:a<n):part f n 0 a b=f a b:=by
 grind [part]
theorem qW (f:FF):part f 0 0=fun _ _=>0:=by
 grind [part]
theorem yy (n c:Nat) (f:FF) (I:1<=n) (F:n<=16) (C:1<=c) (B:c<=16) (v: ∀i j,i<n->j<c-> -9223372036854775808<=f i j/\f i j<=9223372036854775807):
  CallC prog 53 [cw (mat n c f)] ⟨[],UL (mat n c f)⟩:=by
 have o:=aU n c f;have t:=bD (n:=n) c f (i:=0) (by omega);have u:=rU n c F B;rw[oQ,oU]at u;refine ax func53 rfl ntmps53 (aA (k:=ai (aH o (k:=ao rfl (ak (ai (dR o (k:=?_))))))));refine ay (G:=fY n) (fun g=>⟨(cw (mat n c f)::jk::.raw (.slice none 0 0)::.raw (.bool false)::j4 (j4 (j4 (jk::cw (mat n c f)::rN n::rN g.i::j16 (j16 (j16 (j4 (j4 (jk::jk::[]))))))))),Hm []⟩) (fun g=>n-g.i) ⟨0,by omega⟩ ?_ ?_
 ·refine aj trivial ?_;simp[wk]
 rintro⟨i,D⟩;simp only;by_cases E:i<n
 ·have p:=bD c f E;refine ar (k:=aV rfl (ai (am (aH p (k:=aH (aC @aD t) (k:=ao rfl (ak (bu (k:=?_)))))))));refine⟨⟨i+1,by omega⟩,by grind,aj trivial ?_⟩;simp[wk]
 refine ar (k:=aW rfl (cj [⟨6,_,_,_,u⟩] (aC o (aC t @aD)) (k:=ai (dR o (k:=?_)))));refine ay (G:=fY n) (fun g=>⟨(cw (mat n c f)::jk::.raw (.slice none 0 0)::.raw (.bool false)::jk::jk::.one (.sl 47 0 0 n)::j16 (j16 (j4 (j4 (jk::jk::rN n::rN g.i::j16 (j4 (j4 (jk::jk::jk::[])))))))),Hm [(47,ij 47 n c (part f g.i 0))]⟩) (fun g=>n-g.i) ⟨0,by omega⟩ ?_ ?_
 ·refine aj ⟨?_,trivial⟩ ?_
  ·rw[qW];exact gk 0 47 n c _
  simp[wk]
 rintro⟨i,D⟩;simp only;by_cases h:i<n
 ·have p:=bD c f h;refine ar (k:=aV rfl (ai (am (bi (k:=aH (aC p @aD) (k:=?_))))));refine ay (G:=fY c) (fun g=>⟨(cw (mat n c f)::jk::.raw (.slice none 0 0)::.raw (.bool false)::jk::jk::.one (.sl 47 0 0 n)::rN i::j16 (j16 (j4 (j4 (jk::rN n::rN i::j4 (jk::jk::rN c::rN g.i::j16 (jk::jk::jk::[]))))))),Hm [(47,ij 47 n c (part f i g.i))]⟩) (fun g=>c-g.i) ⟨0,by omega⟩ ?_ ?_
  ·refine aj ⟨rfl,trivial⟩ ?_;simp[wk]
  rintro⟨j,J⟩;simp only;by_cases m:j<c
  ·have s:=aB (f i) m;have z:=fh (f i j) (v i j h m).1 (v i j h m).2;have w:=cf (n:=n) (i:=i) 47 c h;have x:=ez c (part f i j) h;have y:=aB (part f i j i) m;refine ar (k:=aV rfl (ai (am (bi (k:=eQ [⟨12,_,_,_,z⟩] (aC w (aC p (aC s (aC x (aC y @js))))) (k:=bu (k:=?_)))))));refine⟨⟨j+1,by omega⟩,by grind,aj ⟨?_,trivial⟩ ?_⟩
   ·show _::_=_::_;simp_all[bO,ik]
   simp[wk]
  have r:j=c:=by omega
  subst r;refine ar (k:=aW rfl (bu (k:=?_)));refine⟨⟨i+1,by omega⟩,by grind,aj ⟨?_,trivial⟩ ?_⟩
  ·show _::_=_::_;rw[bO fun a b _ A=>jx f i a b A]
  simp[wk]
 have q:i=n:=by omega
 subst q;refine ar (k:=aW rfl ?_);show bA _ _ _ _;have e:ij 47 i c (part f i 0)=ij 47 i c f:=by
  grind [bO,jw]
 rw[e];refine bA.weak ((bF 47 (jo rfl)).trans (aj (tm:=(j4 (jk::jk::dr (mat i c f)::j16 (j16 (j16 (j16 (j4 (jk::jk::jk::[])))))))) (l:=[]) trivial (by simp[wk];exact(RG (H:=Hm [(47,ij 47 i c f)]) (d:=47) (n:=i) (c:=c) (f:=f) rfl).symm))) ?_;refine bi (k:=aE (aC @results53 @UL.eq_1))
structure FiN (M:List (List Int)) where
 i:Nat
 hi:i<=M.length
 ok: ∀r∈M.take i,rOk (M.headD []).length r
theorem Fr (M:List (List Int)) (e: ¬IL M):CallC prog 53 [cw M] ⟨[],ZV⟩:=by
 by_cases n:M.length<1
 ·refine ax func53 rfl ntmps53 (aA (k:=ai (ar (k:=az rfl (bi (k:=aE (aC @results53 @ZV.eq_1)))))))
 by_cases o:16<M.length
 ·refine ax func53 rfl ntmps53 (aA (k:=ai (ar (k:=az rfl (bi (k:=aE (aC @results53 @ZV.eq_1)))))))
 have c:=kw (M:=M) (by omega);refine ax func53 rfl ntmps53 (aA (k:=ai (ar (k:=ao rfl (ak (ai (bi (k:=?_))))))));refine ay (G:=FiN M) (fun g=>⟨(cw M::jk::.raw (.slice none 0 0)::.raw (.bool false)::j4 (j4 (j4 (jk::cw M::rN M.length::rN g.i::j16 (j16 (j16 (j4 (j4 (jk::jk::[]))))))))),Hm []⟩) (fun g=>M.length-g.i) ⟨0,by omega,fun r b=>by simp at b⟩ ?_ ?_
 ·refine aj trivial ?_;simp[wk]
 rintro⟨i,p,ok⟩;simp only;by_cases f:i<M.length
 ·obtain⟨r,b⟩:=getElem?_of_lt f;refine ar (k:=aV rfl (ai (am (aH b (k:=?_)))));by_cases j:r.length<1
  ·refine ar (k:=az rfl (bi (k:=aE (aC @results53 @ZV.eq_1))))
  by_cases l:16<r.length
  ·refine ar (k:=az rfl (bi (k:=aE (aC @results53 @ZV.eq_1))))
  by_cases m:r.length=(M.headD []).length
  ·refine aH c (k:=ao rfl (ak (bu (k:=?_))));refine⟨⟨i+1,by omega,fun q h=>?_⟩,by simp only;omega,aj trivial ?_⟩
   ·grind [List.take_add_one]
   simp[wk]
  refine aH c (k:=az rfl (bi (k:=aE (aC @results53 @ZV.eq_1))))
 exact absurd ⟨by omega,by omega,fun r b=>ok r (by grind)⟩ e
theorem Nn (n c:Nat) (f:FF) (e:1<=n) (m:n<=16) (b:1<=c) (h:c<=16) (l: ∀i j,i<n->j<c-> -9223372036854775808<=f i j/\f i j<=9223372036854775807):
  CallC prog 23 [cw (mat n c f)] ⟨[],dr (mat n c f)⟩:=by
 have g:=yy n c f e m b h l;refine ax func23 rfl ntmps23 (aA (k:=dU [⟨1,_,_,_,g⟩] @UL.eq_1 (k:=bi (k:=aE @results23))))
theorem tX (k b:Nat) (j:k<=16) (f:b<=16):CallC prog 151 [.raw (.int .i64 (k:Int)),.raw (.int .i64 (b:Int))] ⟨[],EW (List.range k++[b])⟩:=by
 refine ax func151 rfl ntmps151 (aA (k:=bi (k:=ai (bi (k:=?_)))));refine ay (G:=fY k) (fun g=>⟨(.raw (.int .i64 (k:Int))::rN b::jk::jk::.raw (.slice none 0 0)::.one (.sl 15 0 0 g.i)::rN g.i::j4 (j4 (j4 (jk::[])))),Hm [(15,[⟨3,1,lc fN (List.range g.i)⟩])]⟩) (fun g=>k-g.i) ⟨0,by omega⟩ ?_ ?_
 ·refine(cz (k:=5) (d:=15) 3 1 (by omega) rfl rfl).trans (aj ⟨rfl,trivial⟩ ?_);simp[wk]
 rintro⟨i,h⟩;simp only;by_cases f:i<k
 ·refine ai (ar (k:=az rfl (ak (ai (am (dF (aC @aeG @qc) (k:=bu (k:=?_))))))));refine⟨⟨i+1,by omega⟩,by grind,aj ⟨?_,trivial⟩ ?_⟩
  ·rw[ade];rfl
  simp[wk]
 have c:i=k:=by omega
 subst c;refine ai (ar (k:=ao rfl (aX (aH (aC @aeG @qc) (k:=?_)))));refine aQ ⟨.inr rfl,dp 15 (bf rfl) ?_ rfl⟩;have e:List.take (i+1) (List.range i++[b])=List.range i++[b]:=ack (by simp);simp(disch:=omega) only[kd,results151,e,EW]
structure SeG (n:Nat) where
 i:Nat
 hi:i<=n
theorem nw (l:List Int) (v:Int):lc fZ l++[[.p (.raw (.bool (decide (v<0)))),.p (.sl (ls fU (au v.natAbs)))]]=lc fZ (l++[v]):=by simp[lc,fZ]
theorem Sf (M:List (List Int)) (r:List Int):lc (fR fZ) M++[[.p (.sl (ls fZ r))]]=lc (fR fZ) (M++[r]):=by simp[lc,fR]
theorem Dh {b c:Type} {l:List b} {i:Nat} {x:b} (g:b->c) (h:l[i]?=some x):(l.take i).map g++[g x]=(l.take (i+1)).map g:=by
 grind [List.take_add_one]
theorem tn (n c:Nat) (f:FF) (b e:List Nat) (L:n<=16) (I:c<=16) (E: ∀x∈b,x<n) (F: ∀x∈e,x<c) (M:b.length<=17) (H:e.length<=17):
  CallC prog 150 [dr (mat n c f),EW b,EW e] ⟨[],dr (b.map fun i=>e.map (f i))⟩:=by
 have D:=aU n c f;refine ax func150 rfl ntmps150 (aA (k:=bi (k:=ai (bi (k:=?_)))));refine ay (G:=SeG b.length) (fun g=>⟨(dr (mat n c f)::EW b::EW e::jk::jk::jk::.raw (.slice none 0 0)::.one (.sl 39 0 0 g.i)::j4 (jk::EW b::rN b.length::rN g.i::j16 (j4 (j4 (jk::jk::[]))))),Hm [(39,[⟨85,1,lc (fR fZ) ((b.take g.i).map fun i=>e.map (f i))⟩])]⟩) (fun g=>b.length-g.i) ⟨0,by omega⟩ ?_ ?_
 ·refine(cz (k:=7) (d:=39) 85 1 (by omega) rfl rfl).trans (aj ⟨rfl,trivial⟩ ?_);simp[wk]
 rintro⟨i,J⟩;simp only;by_cases C:i<b.length
 ·obtain⟨r,h⟩:=getElem?_of_lt C;have y:=E r (acd h);have q:=bD c f y;refine ar (k:=aV rfl (ai (am (aH h (k:=bi (k:=ai (bi (k:=?_))))))));refine ay (G:=SeG e.length) (fun g=>⟨(dr (mat n c f)::EW b::EW e::jk::jk::jk::.raw (.slice none 0 0)::.one (.sl 39 0 0 i)::jk::rN r::.one (.sl 34 0 0 g.i)::jk::jk::EW b::rN b.length::rN i::jk::jk::jk::EW e::rN e.length::rN g.i::j16 (j4 ([]))),Hm [(39,[⟨85,1,lc (fR fZ) ((b.take i).map fun i=>e.map (f i))⟩]),(34,[⟨65,2,lc fZ ((e.take g.i).map (f r))⟩])]⟩) (fun g=>e.length-g.i) ⟨0,by omega⟩ ?_ ?_
  ·refine(cz (k:=10) (d:=34) 65 2 (by omega) rfl rfl).trans (aj ⟨rfl,rfl,trivial⟩ ?_);simp[wk]
  rintro⟨j,K⟩;simp only;by_cases w:j<e.length
  ·obtain⟨s,m⟩:=getElem?_of_lt w;have z:=F s (acd m);have o:=aB (f r) z;have t:((e.take j).map (f r)).length=j:=by simp;omega
   refine ar (k:=aV rfl (ai (am (aH m (k:=dF (aC q (aC o (aC t (aC @nw (Dh (f r) m))))) (k:=bu (k:=?_)))))));refine⟨⟨j+1,by omega⟩,by grind,aj ⟨rfl,rfl,trivial⟩ ?_⟩;simp[wk]
  have v:j=e.length:=by omega
  subst v;refine ar (k:=aW rfl ?_);show bA _ _ _ _;refine bA.weak ((bF 34 (bf rfl)).trans (aj (tm:=(dr (mat n c f)::EW b::EW e::jk::jk::jk::.raw (.slice none 0 0)::.one (.sl 39 0 0 i)::jk::jk::.one (.p (.sl (ls fZ (e.map (f r)))))::jk::jk::EW b::rN b.length::rN i::j16 (j4 (j4 (jk::jk::[]))))) (l:=[(39,[⟨85,1,lc (fR fZ) ((b.take i).map fun i=>e.map (f i))⟩])]) ⟨rfl,trivial⟩ (by simp[wk,fk,dP,Hm,iK,gz,ack]))) ?_;have t:((b.take i).map fun i=>e.map (f i)).length=i:=by simp;omega
  have A:=Dh (fun i=>e.map (f i)) h;refine dF (aC t (aC @Sf A)) (k:=bu (k:=?_));refine⟨⟨i+1,by omega⟩,by grind,aj ⟨rfl,trivial⟩ ?_⟩;simp[wk]
 have u:i=b.length:=by omega
 subst u;refine ar (k:=aW rfl (bi (k:=?_)));refine aQ ⟨.inr rfl,dp 39 (bf rfl) ?_ rfl⟩;have B:List.take b.length (List.map (fun i=>e.map (f i)) b)=b.map fun i=>e.map (f i):=ack (by simp)
 simp(disch:=omega) only[kd,results150,adJ,B,dr]
abbrev xJ:List AV:=[.raw (.slice none 0 0)]
theorem Ef {b:Type} {A:List b} {x:b} {l:List b} {i:Nat} (h:A.length=i):(A++x::l)[i]?=some x:=by
 grind
theorem Eg {b:Type} {A:List b} {x y:b} {l:List b} {i:Nat} (h:A.length=i):(A++x::l).set i y=A++y::l:=by
 simp_all
theorem Tn (k:Nat->Nat->Bool) (R:List (List Int)):(R.map qv).map (ns k)=R.map qv:=by
 grind [List.map_congr_left,ns,qv,x5]
theorem TG (d i c:Nat):(l9 d (ae i c)).map (List.map (aR fun x y=>x==d&&y==i+1))=l9 d (ae i c):=by
 apply acz;grind [cf,aR,dE]
def Yq (d n c:Nat) (f:FF) (i:Nat):List OObj:=⟨85,1,l9 d (ae i c)++ae (n-i) xJ⟩::(mat i c f).map qv
def cpI (d n c:Nat) (f:FF) (i j:Nat):List OObj:=⟨85,1,l9 d (ae i c)++[.sl d (i+1) 0 (j+1)]::ae (n-i-1) xJ⟩::((mat i c f).map qv++[qv (aN (j+1) (f i))])
def cpS (d n c:Nat) (f:FF) (i:Nat):Nat->List OObj
 |0=>Yq d n c f i
 |j+1=>cpI d n c f i j
theorem GX (i c:Nat) (f:FF):mat (i+1) c f=mat i c f++[aN c (f i)]:=by simp[mat,ade]
theorem j7 (j:Nat) (g:Nat->Int):aN (j+1) g=aN j g++[g j]:=by simp[aN,ade]
theorem ZJ {d i:Nat} (f:FF) (b:1<=m) (e:i<n):cpS d n m f i m=Yq d n m f (i+1):=by
 obtain⟨j,rfl⟩: ∃j,m=j+1:=⟨m-1,by omega⟩;show cpI d n (j+1) f i j=_;grind [cpI,Yq,GX,List.replicate_succ',vd]
theorem ZI (d n c:Nat) (f:FF):Yq d n c f n=ij d n c f:=by
 unfold Yq;simp
theorem VC {d i:Nat} (f:FF) (b:i<n):Yq d n m f i=⟨85,1,l9 d (ae i m)++xJ::ae (n-i-1) xJ⟩::(mat i m f).map qv:=by
 unfold Yq;rw[show n-i=n-i-1+1 by omega,aeL];rfl
theorem P7 (n c:Nat) (f:FF) (B:n<=17) (s:1<=c) (y:c<=17) (x: ∀i j,i<n->j<c->Bg (f i j)):
  CallC prog 55 [dr (mat n c f)] ⟨ij 0 n c f,.one (.sl 0 0 0 n)⟩:=by
 have m:=aU n c f;refine fL func55 rfl (by kernel_rfl) ?_;rw[ntmps55];refine aw fun _ K=>?_;simp only[kd,dr,ae];apply K
 refine aw fun _ K=>?_;simp(disch:=omega) only[kd,aa,m];apply K
 refine ai (aw fun _ K=>?_);simp only[kd,aa,m];apply K;refine ay (G:=fY n) (fun g=>⟨(dr (mat n c f)::jk::.raw (.slice none 0 0)::.one (.sl 9 0 0 n)::j4 (jk::jk::jk::rN n::rN g.i::j16 (j4 (j4 (jk::[]))))),Hm [(9,Yq 9 n c f g.i)]⟩) (fun g=>n-g.i) ⟨0,by omega⟩ ?_ ?_
 ·refine aj ⟨?_,trivial⟩ ?_
  ·rfl
  simp[wk]
 rintro⟨i,z⟩;simp only;by_cases q:i<n
 ·have o:=bD c f q;have v:=aU i c f;have b:(l9 9 (ae i c)).length=i:=by simp_all[dE]
  have h:((mat i c f).map qv).length=i:=by grind
  refine aw fun _ K=>?_;simp(disch:=omega) only[kd,dr];apply K
  refine aV rfl ?_;refine ai (am ?_);refine aw fun _ K=>?_;simp only[kd];apply K
  refine aw fun _ K=>?_;simp(disch:=omega) only[kd,aa,o,fR,aD];apply K
  refine ay (G:=fY c) (fun g=>⟨(dr (mat n c f)::jk::.raw (.slice none 0 0)::.one (.sl 9 0 0 n)::rN i::j4 (jk::jk::rN n::rN i::j4 (jk::.one (.p (.sl (ls fZ (aN c (f i)))))::rN c::rN g.i::j16 (jk::[])))),Hm [(9,cpS 9 n c f i g.i)]⟩) (fun g=>c-g.i) ⟨0,by omega⟩ ?_ ?_
  ·refine aj ⟨rfl,trivial⟩ ?_;simp[wk]
  rintro⟨j,A⟩;simp only;by_cases l:j<c
  ·have e:=aB (f i) l;have w:=Er (f i j) (x i j q l);cases j with
   |zero=>
    rw[cpS,VC f q];refine aw fun _ K=>?_;simp(disch:=omega) only[kd,dr];apply K
    refine aV rfl ?_;refine ai (am ?_);refine aw fun _ K=>?_;simp(disch:=omega) only[kd,aa,e,fZ,ab];apply K
    refine vH cu [⟨7,_,_,_,w⟩] [] (by kernel_rfl) fun _ K=>?_;simp(disch:=omega) only[kd,tZ,aa,ab,Ef b,Nat.reduceMul,Nat.reduceLeDiff,Eg b,v,Nat.reduceBEq];apply K
    show bA _ _ _ _;refine g9 fun _ K=>?_;simp(disch:=omega) only[kd,aL];apply K
    refine⟨⟨1,by omega⟩,by grind,aj ⟨?_,trivial⟩ ?_⟩
    ·rfl
    simp[wk]
   |succ j=>
    have r:(0==i+1)=false:=by simp
    rw[cpS,cpI];refine aw fun _ K=>?_;simp(disch:=omega) only[kd,dr];apply K
    refine aV rfl ?_;refine ai (am ?_);refine aw fun _ K=>?_;simp(disch:=omega) only[kd,aa,e,fZ,ab];apply K
    refine vH cu [⟨7,_,_,_,w⟩] [] (by kernel_rfl) fun _ K=>?_;simp(disch:=omega) only[kd,tZ,aa,qv,ab,Ef b,Nat.reduceMul,Nat.reduceLeDiff,Ef h,aD,ac1,TG,agK,Tn,nw,Eg h,r,Nat.reduceBEq,Eg b,reduceCtorEq,acJ,h];apply K
    show bA _ _ _ _;refine g9 fun _ K=>?_;simp(disch:=omega) only[kd,aL];apply K
    refine⟨⟨j+1+1,by omega⟩,by grind,aj ⟨?_,trivial⟩ ?_⟩
    ·show _=cpI 9 n c f i (j+1);rw[cpI,qv,j7 (j+1)];rfl
    simp[wk]
  have u:j=c:=by omega
  subst u;refine aw fun _ K=>?_;simp(disch:=omega) only[kd,dr];apply K
  refine aW rfl ?_;show bA _ _ _ _;rw[ZJ f s q];refine g9 fun _ K=>?_;simp(disch:=omega) only[kd,aL];apply K
  refine⟨⟨i+1,by omega⟩,by grind,aj ⟨rfl,trivial⟩ ?_⟩;simp[wk]
 have t:i=n:=by omega
 subst t;refine aw fun _ K=>?_;simp(disch:=omega) only[kd,dr];apply K
 refine aW rfl ?_;show bA _ _ _ _;rw[ZI];refine aw fun _ K=>?_;simp only[kd];apply K
 refine aQ ⟨.inr rfl,_,bJ.refl _,?_⟩;refine⟨.one (.sl 9 0 0 i),9,?_,rfl,?_,rfl⟩
 ·simp(disch:=omega) only[kd,results55]
 grind [gk]
theorem qB {P:Program} {c z:Code} {Q:Exit->AS->Prop} {s S:AS} (f:bA P c (iH (fun b=>bJ b S) Q) s) (g:bA P z Q S):bA P c (iH (bA P z Q) Q) s:=f.mono fun e b h=>by
 cases e with
 |normal=>exact bA.weak h g
 |_=>exact h
theorem Sz.mul {a:Int} {k:Nat} (c:Sz a k) (e:Sz x n):Sz (a*x) (k+n):=by
 show _<_;rw[adt,adv];exact Nat.mul_lt_mul'' c e
theorem Sz.sub {a:Int} {k:Nat} (c:Sz a k) (e:Sz x k):Sz (a-x) (k+1):=by
 grind [Sz]
theorem Sz.add {a:Int} {k:Nat} (c:Sz a k) (e:Sz x k):Sz (a+x) (k+1):=by
 grind [Sz]
theorem Sz.ediv {a:Int} {k:Nat} (c:Sz a k) (b:Int):Sz (a/b) k:=c.le (Int.natAbs_ediv_le_natAbs a b)
theorem SY {f:FF} {n k:Nat}: ∀m p,n-p=m->piv f n k p<n->p<=piv f n k p/\f (piv f n k p) k≠0
 |0,p,c,h=>by grind [x8]
 |m+1,p,c,h=>by
  by_cases b:f p k=0
  ·rw[Ey (by omega) b]at h⊢;have:=SY m (p+1) (by omega) h;omega
  grind [Ex]
theorem Ke {f:FF} {n k:Nat}: ∀m p,n-p=m->piv f n k p<=n
 |0,p,c=>by grind [x8]
 |m+1,p,c=>by
  by_cases b:f p k=0
  ·rw[Ey (by omega) b];exact Ke m (p+1) (by omega)
  grind [Ex]
def ip (k:Nat) (last:Int) (g:FF) (i j:Nat):Nat->Nat->Int:=fun a b=>if k<a/\k<b/\(a<i\/(a=i/\b<j))then(g k k*g a b-g a k*g k b)/last else g a b
theorem Wl {k i:Nat} (last:Int) (g:FF) (e:k<i) (f:k<n) (a b:Nat):upd (ip k last g i n) i n ((g k k*g i n-g i k*g k n)/last) a b=ip k last g i (n+1) a b:=by
 unfold upd ip;by_cases c:a=i
 ·subst c;grind
 simp[c]
theorem aaf {k:Nat} (last:Int) (g:FF) (i a b:Nat) (c:b<n):ip k last g i n a b=ip k last g (i+1) (k+1) a b:=by
 grind [ip]
theorem Wm (k:Nat) (last:Int) (g:FF):ip k last g (k+1) (k+1)=g:=by
 grind [ip]
theorem aae {k:Nat} (last:Int) (g:FF) (a b:Nat) (c:a<n):ip k last g n (k+1) a b=YC k last g a b:=by
 grind [ip,YC]
theorem uv {k i a:Nat} (last:Int) (g:FF) (h: ¬(k<a/\k<m/\(a<i\/(a=i/\m<n)))):ip k last g i n a m=g a m:=by
 grind [ip]
theorem Mz {d k:Nat} (g:FF) (h:m<n) (f:k<n) (b:k≠m) (r:Nat):(ij d n n (swp m k g))[r]?=
  (((⟨85,1,((l9 d (ae n n)).set m [.sl d (k+1) 0 n]).set k [.sl d (m+1) 0 n]⟩::(mat n n g).map qv:List OObj))[sw (m+1) (k+1) r]?).map (swO d (m+1) (k+1)):=by
 cases r with
 |zero=>
  rw[show sw (m+1) (k+1) 0=0 by simp[sw]];simp only[adZ,adB,swO,vC]
  congr 2
  apply acz;intro i;rw[ach,adj,adj,afA,dE,acX];grind [cf,gW,UO,sw,dE]
 |succ r=>
  have c:sw (m+1) (k+1) (r+1)=sw m k r+1:=by
   grind [sw]
  have e: ∀l:List Int,swO d (m+1) (k+1) (qv l)=qv l:=fun l=>by
   simp only[swO,vC,qv,lc,adH]
   congr 1
  grind [sw,bD,swp,aU]
structure DeG (n:Nat) (f:FF) where
 k:Nat
 g:Nat->Nat->Int
 last:Int
 neg:Bool
 b:Nat
 hk:k<=n
 hv:detG n k g last neg=detF n f
 hl:last≠0
 hb:b+1<=1025*2^k
 sg: ∀i j,i<n->j<n->Sz (g i j) b
 sl:Sz last b
structure PvG (n k:Nat) (g:FF) where
 p:Nat
 hkp:k<=p
 hp:p<=n
 hv:piv g n k p=piv g n k k
structure NxG (n k:Nat) where
 i:Nat
 hk:k+1<=i
 hi:i<=n
abbrev vz (v:Int):List OObj:=tc (decide (v<0)) (au v.natAbs)
theorem ES:sg 0=0:=rfl
theorem Hz (h:x≠0):sg x≠0:=by grind [sg]
theorem qX {k:Nat} (h:k<=16):2^k<=65536:=acF (n:=2) (by omega) h
theorem gD (n:Nat) (f:FF) (O:1<=n) (hn:n<=16) (hf: ∀i j,i<n->j<n->Sz (f i j) 1024):
  CallC prog 34 [dr (mat n n f)] ⟨[],tZ (detF n f)⟩:=by
 have hC:=P7 n n f (by omega) O (by omega) (fun i j s w=>(hf i j s w).mono (by omega));have hS:=fh 1 (by omega) (by omega);refine ax func34 rfl ntmps34 (aA (k:=bj [⟨1,_,_,_,hC⟩] (k:=bi (k:=bE [⟨0,_,_,_,hS⟩] (k:=ai (bi (k:=?_)))))));refine ay (G:=DeG n f) (fun g=>⟨(jk::jk::.one (.ptr 2 0 0 0)::.one (.sl 12 0 0 n)::rN n::.one (.ptr 5 0 0 0)::.raw (.bool g.neg)::rN g.k::j16 (j16 (j16 (j16 (j16 (j16 (j16 (j4 (jk::[]))))))))),Hm [(2,ru),(5,vz g.last),(12,ij 12 n n g.g)]⟩) (fun g=>n-g.k) ⟨0,f,1,false,1024,by omega,rfl,by omega,by omega,hf,pb (by omega)⟩ ?_ ?_
 ·refine aj ⟨rfl,rfl,?_,trivial⟩ ?_
  ·exact gk 0 12 n n f
  simp[wk]
 rintro⟨k,g,last,neg,b,hk,u,hl,hb,U,B⟩;simp only;by_cases l:k<n
 ·have J:=qX (k:=k) (by omega);have ad:b<=67174400:=by omega
  have o:detG n k g last neg=if piv g n k k=n then 0 else detG n (k+1) (YC k last (pvt n k g)) (pvt n k g k k) (neg !=decide (k<piv g n k k)):=by grind [detG]
  refine ai (ar (k:=az rfl (ak (ai (am (bi (k:=?_)))))));refine ai (qB (S:=⟨(jk::jk::.one (.ptr 2 0 0 0)::.one (.sl 12 0 0 n)::rN n::.one (.ptr 5 0 0 0)::.raw (.bool neg)::rN k::.raw (.int .i64 ((piv g n k k:Nat):Int))::j16 (j16 (j16 (j16 (j16 (j16 (j16 (j4 ([]))))))))),Hm [(2,ru),(5,vz last),(12,ij 12 n n g)]⟩) ?_ ?_)
  ·refine ay (G:=PvG n k g) (fun q=>⟨(jk::jk::.one (.ptr 2 0 0 0)::.one (.sl 12 0 0 n)::rN n::.one (.ptr 5 0 0 0)::.raw (.bool neg)::rN k::rN q.p::j16 (j16 (j16 (j16 (j16 (j16 (j16 (j4 ([]))))))))),Hm [(2,ru),(5,vz last),(12,ij 12 n n g)]⟩) (fun q=>n-q.p) ⟨k,by omega,by omega,rfl⟩ ?_ ?_
   ·refine aj ⟨rfl,rfl,rfl,trivial⟩ ?_;simp[wk]
   rintro⟨p,M,hp,ap⟩;simp only;by_cases m:p<n
   ·have C:=cf (n:=n) (i:=p) 12 n m;have D:=ez n g m;have I:=aB (g p) l;have r:=kW (g p k) ((U p k m l).mono (by omega));by_cases Z:g p k=0
    ·rw[Z]at r I;refine ai (cj [⟨11,_,_,_,r⟩] (aC @ES (aC C (aC D I))) (k:=az rfl (ak (am (bu (k:=?_))))));refine⟨⟨p+1,by omega,by omega,?_⟩,by simp only;omega,aj ⟨rfl,rfl,rfl,trivial⟩ ?_⟩
     ·grind [Ey]
     simp[wk]
    have av:=Hz Z;refine ai (cj [⟨11,_,_,_,r⟩] (aC C (aC D I)) (k:=ao rfl (aX ?_)));show bJ _ _;have t:piv g n k k=p:=by grind [Ex]
    refine aj ⟨rfl,rfl,rfl,trivial⟩ ?_;simp[wk,t]
   have t:piv g n k k=p:=by grind [x8]
   refine ai (ar (k:=ao rfl (aX ?_)));show bJ _ _;refine aj ⟨rfl,rfl,rfl,trivial⟩ ?_;simp[wk,t]
  have an:=Ke (f:=g) (n:=n) (k:=k) (n-k) k rfl;have A:=SY (f:=g) (n:=n) (k:=k) (n-k) k rfl;generalize Q:piv g n k k=p at*
  by_cases m:p=n
  ·rw[if_pos m]at o;refine ai (ar (k:=az rfl (ar (k:=?_))));refine bA.weak (g7 2) ?_;refine aQ ⟨.inr rfl,b8 rfl ?_ rfl⟩;rw[<- u,o];simp(disch:=omega) only[kd,results34,zH,ab,zO,Fl,IA,aa,tZ];simp[cn,ls]
  rw[if_neg m]at o;obtain⟨M,ac⟩:=A (by omega);refine ai (ar (k:=ao rfl (ak (ai (bi (k:=?_))))));refine qB (S:=⟨(jk::jk::.one (.ptr 2 0 0 0)::.one (.sl 12 0 0 n)::rN n::.one (.ptr 5 0 0 0)::.raw (.bool (neg !=decide (k<p)))::rN k::j16 (j16 (j16 (j16 (j16 (j16 (j16 (j4 (jk::[]))))))))),Hm [(2,ru),(5,vz last),(12,ij 12 n n (swp p k g))]⟩) ?_ ?_
  ·by_cases N:k<p
   ·have C:=cf (n:=n) (i:=p) 12 n (by omega);have D:=cf (n:=n) (i:=k) 12 n (by omega);refine bs rfl (fun _=>?_) (fun h=>by simp at h<;>omega);have g4:((l9 12 (ae n n)).set p [.sl 12 (k+1) 0 n])[k]?=some [.sl 12 (k+1) 0 n]:=by
     grind
    refine gM (aC D (aC C g4)) (k:=aAl (k:=?_));refine(Ly 12 (p+1) (k+1) (ij 12 n n (swp p k g)) (Mz g (by omega) l (by omega))).trans (aj ⟨rfl,rfl,rfl,trivial⟩ ?_);simp[wk,aaM,oW,abH,gW,swP,UO,sw,N]
   have P:p=k:=by omega
   subst P;refine bs rfl (fun h=>by simp at h<;>omega) (fun _=>ak ?_);show bJ _ _;rw[Id];refine aj ⟨rfl,rfl,rfl,trivial⟩ ?_;simp[wk]
  rw[pvt,Q]at o;have K:swp p k g k k≠0:=by
   unfold swp;grind
  have e: ∀i j,i<n->j<n->Sz (swp p k g i j) b:=fun i j s w=>by
   unfold swp;grind
  generalize swp p k g=c at*
  generalize(neg !=decide (k<p))=neg' at*
  refine ai (ar (k:=?_));refine ay (G:=NxG n k) (fun q=>⟨(jk::jk::.one (.ptr 2 0 0 0)::.one (.sl 12 0 0 n)::rN n::.one (.ptr 5 0 0 0)::.raw (.bool neg')::rN k::jk::rN q.i::j16 (j16 (j16 (j16 (j16 (j16 (j16 (jk::jk::jk::[])))))))),Hm [(2,ru),(5,vz last),(12,ij 12 n n (ip k last c q.i (k+1)))]⟩) (fun q=>n-q.i) ⟨k+1,by omega,by omega⟩ ?_ ?_
  ·rw[Wm];refine aj ⟨rfl,rfl,rfl,trivial⟩ ?_;simp[wk]
  rintro⟨i,ah,af⟩;simp only;by_cases s:i<n
  ·refine ai (ar (k:=az rfl (ak (ai (am (ar (k:=?_)))))));refine ay (G:=NxG n k) (fun q=>⟨(jk::jk::.one (.ptr 2 0 0 0)::.one (.sl 12 0 0 n)::rN n::.one (.ptr 5 0 0 0)::.raw (.bool neg')::rN k::jk::rN i::rN q.i::j16 (j16 (j16 (j16 (j16 (j16 (j16 (jk::jk::[])))))))),Hm [(2,ru),(5,vz last),(12,ij 12 n n (ip k last c i q.i))]⟩) (fun q=>n-q.i) ⟨k+1,by omega,by omega⟩ ?_ ?_
   ·refine aj ⟨rfl,rfl,rfl,trivial⟩ ?_;simp[wk]
   rintro⟨j,al,ag⟩;simp only;by_cases w:j<n
   ·have a1:=cf (n:=n) (i:=i) 12 n s;have E:=cf (n:=n) (i:=k) 12 n l;have a3:=ez n (ip k last c i j) s;have F:=ez n (ip k last c i j) l;have H:(aN n (ip k last c i j k))[k]?=some (c k k):=by grind [aB,uv]
    have a6:(aN n (ip k last c i j i))[j]?=some (c i j):=by grind [aB,uv]
    have a7:(aN n (ip k last c i j i))[k]?=some (c i k):=by grind [aB,uv]
    have a8:(aN n (ip k last c i j k))[j]?=some (c k j):=by grind [aB,uv]
    have V:=e k k l l;have W:=e i j s w;have X:=e i k s l;have Y:=e k j l w;have c1:=io (c k k) (c i j) (V.mono (by omega)) (W.mono (by omega));have c2:=io (c i k) (c k j) (X.mono (by omega)) (Y.mono (by omega));have c3:=wQ (c k k*c i j) (c i k*c k j) ((V.mul W).mono (by omega)) ((X.mul Y).mono (by omega));have c4:=wO (c k k*c i j-c i k*c k j) last hl (((V.mul W).sub (X.mul Y)).mono (by omega)) (B.mono (by omega));refine ai (ar (k:=az rfl (ak (ai (am (eQ [⟨19,_,_,_,c1⟩,⟨34,_,_,_,c2⟩,⟨35,_,_,_,c3⟩,⟨37,_,_,_,c4⟩] (aC a1 (aC E (aC F (aC H (aC a3 (aC a6 (aC a7 (aC a8 @js)))))))) (k:=bu (k:=?_))))))));refine⟨⟨j+1,by omega,by omega⟩,by grind,aj ⟨rfl,rfl,?_,trivial⟩ ?_⟩
    ·show _::_=_::_;grind [bO,Wl]
    simp[wk]
   have z:j=n:=by omega
   subst z;refine ai (ar (k:=ao rfl (aX (bu (k:=?_)))));refine⟨⟨i+1,by omega,by omega⟩,by grind,aj ⟨rfl,rfl,?_,trivial⟩ ?_⟩
   ·grind [bO,aaf]
   simp[wk]
  have v:i=n:=by omega
  subst v;have E:=cf (n:=i) (i:=k) 12 i l;have F:=ez i (ip k last c i (k+1)) l;have H:(aN i (ip k last c i (k+1) k))[k]?=some (c k k):=by grind [aB,uv]
  refine ai (ar (k:=ao rfl (aX (dF (aC E (aC F H)) (k:=bu (k:=?_))))));refine⟨⟨k+1,YC k last c,c k k,neg',2*b+1,by omega,by omega,K,by omega,fun x y R T=>?_,(e k k l l).mono (by omega)⟩,by simp only;omega,aj ⟨rfl,rfl,?_,trivial⟩ ?_⟩
  ·unfold YC;split
   ·exact((((e k k l l).mul (e x y R T)).sub ((e x k R l).mul (e k y l T))).ediv last).mono (by omega)
   exact(e x y R T).mono (by omega)
  ·show _::_=_::_;grind [bO,aae]
  simp[wk]
 have L:k=n:=by omega
 subst L;rw[detG,if_neg l]at u;have J:=qX (k:=k) hn;have hN:=G5 last (B.mono (by omega));refine ai (ar (k:=ao rfl (aX (ai (bi (k:=?_))))));cases neg with
 |true=>
  rw[if_pos rfl]at u;refine az rfl (bE [⟨1,_,_,_,hN⟩] (k:=?_));rw[<- u]
  (refine aQ ⟨.inr rfl,b8 rfl ?_ rfl⟩;simp(disch:=omega) only[kd,results34,ab,aa,tZ])
 |false=>
  rw[if_neg (by simp)]at u;refine ao rfl (ak (ar (k:=?_)));rw[<- u]
  (refine aQ ⟨.inr rfl,b8 rfl ?_ rfl⟩;simp(disch:=omega) only[kd,results34,ab,aa,tZ])
end Go.Proofs.YtalmoejhjceflaaGreat
