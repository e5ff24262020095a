/-
  Part 24 of a proof (walks and plain facts).
-/
import Derived.Test.YtalmoejhjceflaaGreatR22
import Derived.Maps.OwnOps
import Derived.Maps.Views
set_option linter.all false
set_option maxRecDepth 100000
set_option maxHeartbeats 64000000
open Nat renaming reduceAdd → aa
open List renaming replicate → ae
namespace Go.Proofs.YtalmoejhjceflaaGreat
open Go.RowKit Go.Proofs.Tryz
variable {b:List Int} {c:Array Oper} {n:Nat} {x:Int} {e:Code} {s:AS} {f:List Nat} {P:Program} {g:FuncId} {h:Oper}
section
noncomputable def qo (f:FF) (n:Nat) (B:Int):Nat->List Int->List (Int×Int)
 |0,y=>[(cz f n B 0 (aL n y),di f n B 0 (aL n y))]
 |k+1,y=>(cz f n B (k+1) (aL n y),di f n B (k+1) (aL n y))::(rng (cz f n B (k+1) (aL n y)) (di f n B (k+1) (aL n y))).flatMap fun c=>qo f n B k (c::y)
abbrev Fc (a n m:Nat) (y D:List Int) (M:List (List Int)) (acc:List (Int×Int)):List OObj:=[⟨190,1,[[.fn 146 a [(1,0,0),(2,0,0),(4,0,0),(0,0,0)]]]⟩,⟨188,2,[[.p (.sl (ls fI D)),.p (.sl (ls (fR fI) M))]]⟩,⟨35,1,[[.sl a 3 0 n]]⟩,⟨2,1,gM m++lc fI y⟩,⟨76,1,[[.sl a 5 0 acc.length]]⟩,⟨133,2,lc fV acc⟩]
theorem I2 (a d n m:Nat) (y D:List Int) (M:List (List Int)) (acc:List (Int×Int)):(Fc a n m y D M acc).map (renO d)=Fc d n m y D M acc:=by
 simp only[Fc,aaC,aaR,renO,bY,iH,aba,iG,adG,aa5,if_false]
theorem Dp (a n m:Nat) (y D:List Int) (M:List (List Int)) (acc:List (Int×Int)): ∀o∈Fc a n m y D M acc,selfO a o:=fun o f e b x c=>by
 simp only[aaV,abu,or_false]at f;rcases f with rfl|rfl|rfl|rfl|rfl|rfl
 ·simp only[aam]at b;subst b;simp only[aam]at c;subst c;exact⟨rfl,by simp⟩
 ·simp only[aam]at b;subst b;simp only[aaV,abu,or_false]at c;rcases c with rfl|rfl<;>trivial
 ·simp only[aam]at b;subst b;simp only[aam]at c;subst c;rfl
 ·simp only[abe]at b;rcases b with b|b
  ·obtain⟨_,rfl⟩:=aca.1 b;simp only[aam]at c;subst c;trivial
  exact cG (bF 2 1 _ e b x c)
 ·simp only[aam]at b;subst b;simp only[aam]at c;subst c;rfl
 exact cG (bF 133 2 _ e b x c)
abbrev X8:List (Nat×Nat):=[(1,2),(2,3),(4,4),(0,5)]
theorem Ww (a n m f:Nat) (y g D:List Int) (M:List (List Int)) (acc b:List (Int×Int)): ∀r∈X8.map Prod.fst,∀o,(Fc a n m y D M acc)[r]?=some o-> ∃c,(Fc a n f g D M b)[r]?=some c/\c.es=o.es/\o.elems.length<=c.elems.length:=fun r e o h=>by
 simp only[X8,aaC,aaR,aaV,abu,or_false]at e;grind
abbrev emA (k:Nat) (b:Int):List TV:=[.raw (.int .i64 (k:Int)),.raw (.int .i64 b),.one (.ptr 0 1 0 0),.one (.ptr 0 2 0 0),.one (.ptr 0 4 0 0),.one (.ptr 0 0 0 0)]
abbrev Ym (n:Nat) (f:FF) (B:Int) (k:Nat) (y:List Int) (acc:List (Int×Int)):Prop:=
 lQ prog Zu (X8.map Prod.fst) 146 (emA k (qi f n B (k+1) (aL n y))) (Fc 0 n (k+1) y (aQ (n+1) (dk f)) (fo n f n) acc) (Fc 0 n (k+1) y (aQ (n+1) (dk f)) (fo n f n) (acc++qo f n B k y)) () () (.tup [])
theorem MX {m:Nat} {D:List Int} {M:List (List Int)} {acc:List (Int×Int)} (e:s.H 0=Fc 0 n m (x::b) D M acc):bD s ⟨s.tmps,aw s.H 0 (Fc 0 n (m+1) b D M acc)⟩:=by
 have h:=mu (s:=s) 0 3 (o:=⟨2,1,gM m++lc fI (x::b)⟩) (o':=⟨2,1,gM (m+1)++lc fI b⟩) (by rw[e];rfl) rfl rfl (by simp only[jP,aaG];omega) fun i f g=>by
  rw[<- n7 m x b];grind [gM]
 grind
theorem OD (m:Nat) (y:List Int) (b:Nat->Nat->Bool):List.map (List.map (aN b)) (gM m++lc fI y)=gM m++lc fI y:=by
 simp_all[vo,gM,aN]
structure EmG (lo hi:Int) (h:Int->List (Int×Int)) (T:List (Int×Int)) where
 x:Int
 acc:List (Int×Int)
 h1:lo<=x
 e:acc++(rng x hi).flatMap h=T
section
variable {n:Nat} {f:FF} {B:Int}
theorem N8 (q:pn n f B) (k:Nat) (y:List Int) (acc:List (Int×Int)) (Q:y.length+(k+1)=n) (hT:pA y) (I:fC f n B (k+1) (aL n y)) (g:(acc++qo f n B k y).length<=2000000)
  (U: ∀j,k=j+1-> ∀c w,cz f n B k (aL n y)<=c->c<=di f n B k (aL n y)->(w++qo f n B j (c::y)).length<=2000000->Ym n f B j (c::y) w):Ym n f B k y acc:=by
 have bq:=q.n8;have bm:=q.d (k:=k) (by omega);have N:=q.d (k:=k+1) (by omega);have ag:=aB (dk f) (show k<n+1 by omega);have ah:=aB (dk f) (show k+1<n+1 by omega);have bh:=aI (n+1) (dk f);have X:=q.shP_c Q hT (aaq _);have A:=pb f Q;have br:=q.rs0 (k:=k+1) (by omega) I;have t:=q.sq (k:=k) (by omega) I;have a5:=q.lohi Q hT I;have a9:=Uf (m:=y.length+1) (by omega);have bt:=n4 t.1 t.2;have cR:=x4 (.inr (.inr rfl)) _ t.1 t.2;have cS:=fun xs h1 h2=>TY q k y xs Q hT h1 h2
 have a8:=fun c=>q.step Q (c:=c) I
 have Y:dk f k*qi f n B (k+1) (aL n y)=gU f n B k (aL n y):=rfl;rw[A]at X;have S:cz f n B k (aL n y)=0-(isqF (gU f n B k (aL n y))+lA f n k (aL n y))/dk f (k+1):=by grind [cz]
 have P:di f n B k (aL n y)=(isqF (gU f n B k (aL n y))-lA f n k (aL n y))/dk f (k+1):=rfl;have ad:=oP (.inr (.inr rfl)) (isqF (gU f n B k (aL n y))+lA f n k (aL n y)) (dk f (k+1)) N.1 (by omega) (by omega) (by omega);have af:=oP (.inr (.inr rfl)) (isqF (gU f n B k (aL n y))-lA f n k (aL n y)) (dk f (k+1)) N.1 (by omega) (by omega) (by omega);have e1:IntKind.i64.wrap ((k:Int)+1)=((k+1:Nat):Int):=aR (by omega) (by omega);have hS: ∃h:Int->List (Int×Int),qo f n B k y=(cz f n B k (aL n y),di f n B k (aL n y))::(if k=0 then[]else(rng (cz f n B k (aL n y)) (di f n B k (aL n y))).flatMap h)/\ ∀j,k=j+1-> ∀c,h c=qo f n B j (c::y):=by
  cases k with
  |zero=>exact⟨fun _=>[],rfl,fun j e=>absurd e (by omega)⟩
  |succ j=>
   refine⟨_,rfl,fun j' e c=>?_⟩;grind
 obtain⟨h,hS,a0⟩:=hS;have V: ∀c,fC f n B k (aL n (c::y))->0<=qi f n B k (aL n (c::y))/\qi f n B k (aL n (c::y))<=70368744177664:=fun c h=>q.rs0 (by omega) h
 clear q I hT A;unfold Ym at*
 rw[hS]at g⊢;clear hS;generalize cz f n B k (aL n y)=u at*
 generalize di f n B k (aL n y)=b at*
 generalize gU f n B k (aL n y)=sq at*
 generalize qi f n B (k+1) (aL n y)=ab at*
 generalize isqF sq=rt at*
 generalize aQ (n+1) (dk f)=D at*
 generalize fo n f n=M at*
 generalize dk f (k+1)=d1 at*
 generalize dk f k=d0 at*
 generalize lA f n k (aL n y)=s at*
 have bp: -46911780290560<=u/\u<=46911780290560:=by omega
 have bn: -46911780290560<=b/\b<=46911780290560:=by omega
 clear a5 a9;have bc:(d1=0)=False:=eq_false (by omega);have L:acc.length+1<=2000000:=by
  grind
 refine qI func146 rfl (by kernel_rfl) X8 (by simp) (by simp[selfTV,bs]) (by simp[selfTV]) (Dp 0 _ _ _ _ _ _) (Dp 0 _ _ _ _ _ _) (Ww 0 _ _ _ _ _ _ _ _ _) ?_;rw[ntmps146];refine eD.weak (aj (tm:=(.raw (.int .i64 (k:Int))::.raw (.int .i64 ab)::.one (.ptr 0 1 0 0)::.one (.ptr 0 2 0 0)::.one (.ptr 0 4 0 0)::.one (.ptr 0 0 0 0)::j16 (j16 (j16 (j16 (j4 (j4 (jk::[])))))))) (l:=[(0,Fc 0 n (k+1) y D M acc)]) ⟨rfl,trivial⟩ (by simp[wk,ae])) ?_;refine bV (zl cf 8 0 24 3 (k+1) 2 (lc fI y) (.raw (.int .i64 s)) (f:=147) (ts:=[.one (.ptr 0 1 0 0),.raw (.int .i64 (k:Int)),.one (.sl 0 3 0 n)]) [] [] (by kernel_rfl) (by kernel_rfl) rfl (by decide) fun K z=>?_);simp(disch:=omega) only[kd,aa,e1,ah];refine z _ ⟨rfl,rfl,rfl,?_,?_⟩
 ·intro vs ba;refine⟨_,_,cS (vs.map (fun v=>[PV.raw v])++ls fI y) (by grind [dU]) (fun i b=>?_),⟨rfl,by simp⟩,⟨.inr (.inr ⟨1,0,0,_,_,rfl,rfl,rfl,by simp[isPure],rfl⟩),.inl ⟨rfl,rfl⟩,.inr (.inl ⟨3,0,n,_,rfl,rfl,?_,?_⟩),trivial⟩,fun H hH=>⟨fun r o ho=>by rw[hH]at ho;simp at ho,rfl⟩⟩
  ·rw[aap (by rw[aa0];omega),aa0,ba,show k+1+i-(k+1)=i by omega,fX,aau b,aav,aau b];rfl
  ·intro e p x C;simp only[abe,aai]at p;rcases p with⟨v,_,rfl⟩|p
   ·simp only[aam]at C;subst C;rfl
   exact bF 2 1 y e p x C
  rw[aaO,abL,aar (by grind [kC]),aba,oS,abn];rfl
 clear z K;intro K z;simp only[kd,aa];apply z;clear z K cS;show eD _ _ _ _ _ _ _;refine d6 (aH ag Y) (k:=Nl [⟨1,_,_,_,cR⟩] (k:=?_));refine nQ [⟨4,_,_,_,ad⟩,⟨10,_,_,_,af⟩] [] (by kernel_rfl) fun _ K=>?_;simp(disch:=omega) only[kd,<- P,aa,aR,<- S,Nat.reduceBEq];apply K
 have R: ∀κ,List.map (List.map (aN κ)) (gM (k+1)++lc fI y)=gM (k+1)++lc fI y:=OD (k+1) y;refine d6 (aH @List.any_cons (aH @List.any_nil R)) (k:=?_);clear R;generalize E:acc++[(u,b)]=F at*
 refine eD.weak (aj (tm:=(.raw (.int .i64 (k:Int))::jk::.one (.ptr 0 1 0 0)::.one (.ptr 0 2 0 0)::.one (.ptr 0 4 0 0)::.one (.ptr 0 0 0 0)::jk::jk::.raw (.int .i64 d1)::.raw (.int .i64 s)::.raw (.int .i64 sq)::jk::.raw (.int .i64 u)::.raw (.int .i64 b)::j16 (j16 (j16 (j16 (jk::[])))))) (l:=[(0,Fc 0 n (k+1) y D M F)]) ⟨?_,trivial⟩ (by simp[wk])) ?_
 ·subst E;simp only[aM,Fc,aa6,aaG,ab3,aaO,<- GF];rfl
 have bb:F.length<=2000000:=by rw[<- E,aa6];exact L
 rw[show acc++(u,b)::(if k=0 then[]else(rng u b).flatMap h)=F++(if k=0 then[]else(rng u b).flatMap h) by rw[<- E,aaL];rfl]at g⊢;cases k with
 |zero=>
  have a3:(((0:Nat):Int)=0)=True:=eq_true rfl;refine bV (d6 a3 (k:=gV rfl (mv ?_)));rw[if_pos rfl,abd];refine⟨.inr rfl,rfl,_,aj (tm:=(jk::jk::.one (.ptr 0 1 0 0)::.one (.ptr 0 2 0 0)::.one (.ptr 0 4 0 0)::.one (.ptr 0 0 0 0)::j16 (j16 (j16 (j16 (j4 (j4 (jk::[])))))))) (l:=[(0,Fc 0 n (0+1) y D M F)]) ⟨rfl,trivial⟩ (by simp[wk]),⟨eh _,rfl⟩,by simp⟩
 |succ j=>
  rw[if_neg (by omega)]at g⊢;have a4:(((j+1:Nat):Int)=0)=False:=eq_false (by omega);have e4:IntKind.i64.wrap (((j+1:Nat):Int)-1)=(j:Int):=by grind [aR]
  refine bV (d6 a4 (k:=gC rfl (dY (gD (k:=?_)))));generalize an:F++(rng u b).flatMap h=T at*
  refine ku (G:=EmG u b h T) (fun v=>⟨(.raw (.int .i64 ((j+1:Nat):Int))::jk::.one (.ptr 0 1 0 0)::.one (.ptr 0 2 0 0)::.one (.ptr 0 4 0 0)::.one (.ptr 0 0 0 0)::jk::jk::.raw (.int .i64 d1)::.raw (.int .i64 s)::.raw (.int .i64 sq)::jk::jk::.raw (.int .i64 b)::.raw (.int .i64 v.x)::j16 (j16 (j16 (j16 ([]))))),Hm [(0,Fc 0 n (j+1+1) y D M v.acc)]⟩) (fun _=>()) (fun v=>(b+1-v.x).toNat) ⟨_,F,acp _,an⟩ ?_ rfl ?_
  ·refine aj ⟨rfl,trivial⟩ ?_;simp[wk]
  rintro⟨x,ac,Z,p⟩;simp only;by_cases C:x<=b
  ·obtain⟨al,hq⟩:=a8 x Z C;have a7:=V x al;rw[ip C,acR,<- aaL]at p;have J:(ac++h x).length<=2000000:=by
    rw[<- p,aa6]at g;omega
   have bx:(d1*x).natAbs<=65535*46911780290560:=by
    rw[abv];exact aaU (by omega) (by omega)
   have a2:=a0 j rfl x;rw[a2]at J p;have cV:=U j rfl x ac Z C J;generalize qi f n B (j+1) (aL n (x::y))=rx at*
   generalize qo f n B j (x::y)=W at*
   have a6:0<=d1*rx:=aaZ (by omega) a7.1;have O:Int.tdiv (sq-(d1*x+s)*(d1*x+s)) d1=rx:=by rw[hq];exact ac2 _ (by omega)
   have bw:0<=(d1*x+s)*(d1*x+s):=by
    rcases acm 0 (d1*x+s)with h|h
    ·exact aaZ h h
    exact aa4 h h
   have bl:=jP (j+1+1) y;have av:=n7 (j+1) x y;have ap:(gM (j+1+1)++lc fI y)[j+1]?=some [.junk]:=by
    rw[aal (by simp[gM])];simp[gM]
   refine bV (gD (k:=gV rfl (dY (bV (gd (d6 (aH ap av) (k:=gD (k:=?_))))))));generalize hU:(d1*x+s)*(d1*x+s)=uu at*
   refine nP cf cV 0 [] [] (by kernel_rfl) (by omega) (by kernel_rfl) fun K z=>?_
   simp(disch:=omega) only[kd,abw,aa,Nat.reduceSub,e4,hU,aR,O];refine z _ ⟨⟨rfl,?_⟩,?_⟩
   ·exact(I2 0 0 _ _ _ _ _ _).symm
   clear z K;show eD _ _ _ _ _ _ _;refine qA (aH @F3.eq_1 (aH @cwD.eq_1 (aH @abw (aH @Nat.reduceSub (aH @X8.eq_1 (aH @qW.eq_1 (aH @nE.eq_1 (aH @aba @iG)))))))) (k:=?_);refine⟨⟨x+1,ac++W,by omega,p⟩,by simp only;omega,(MX rfl).trans (aj ⟨rfl,trivial⟩ ?_),trivial⟩;simp[wk]
  rw[jM C,acH,abd]at p;subst p;refine bV (gD (k:=gC rfl (nO ?_)));show _/\_;refine⟨.inl rfl,trivial,_,aj (tm:=(jk::jk::.one (.ptr 0 1 0 0)::.one (.ptr 0 2 0 0)::.one (.ptr 0 4 0 0)::.one (.ptr 0 0 0 0)::j16 (j16 (j16 (j16 (j4 (j4 (jk::[])))))))) (l:=[(0,Fc 0 n (j+1+1) y D M ac)]) ⟨rfl,trivial⟩ (by simp[wk]),⟨eh _,rfl⟩,by simp⟩
end
end
def Pd (h B:Int) (ex:Bool) (x:Int):List (List Int):=if(!ex||decide (h*x*x=B))=true then[[x]]else[]
structure MuG (r:Int) (g:Int->List (List Int)) (T:List (List Int)) where
 x:Int
 acc:List (List Int)
 h1:1<=x
 h2:x<=r+1
 e:acc++(rng x r).flatMap g=T
theorem WT {h B x:Int} (c:0<h) (b:0<=B) (f:1<=x):h*x*x<=B↔x<=isqF (B/h):=by
 have e:0<=B/h:=abW b (by omega);rw[show h*x*x=x*x*h by grind,<- acl c,qV (dx e)];omega
theorem WU (h B:Int) (ex:Bool) (L:0<h) (z:h<=10000) (y:0<=B) (H:B<=4611686018427387904) (E:((rng 1 (isqF (B/h))).flatMap (Pd h B ex)).length<=1000000):
  CallC prog 137 [.raw (.int .i64 h),.raw (.int .i64 B),.raw (.bool ex)] ⟨[],dn ((rng 1 (isqF (B/h))).flatMap (Pd h B ex))⟩:=by
 have N:0<=B/h:=abW y (by omega);have O:B/h<=B:=acX _ y;have V:=n4 N (by omega);have f:=fun x (l:1<=x)=>WT (x:=x) L y l
 have n: ∀x,1<=x->x<=2147483649->h*x<=21474836490000/\0<=h*x:=fun x H I=>by
  have:=aa9 z I (by omega) (by omega);exact⟨by omega,aaZ (by omega) (by omega)⟩
 have o: ∀x,1<=x->x<=isqF (B/h)+1->0<=h*x*x/\h*x*x<=4611800000000000000:=fun x P W=>by
  obtain⟨F,C⟩:=n x P (by omega);refine⟨aaZ C (by omega),?_⟩;by_cases l:x<=isqF (B/h)
  ·grind
  by_cases e:x=1
  ·grind
  have S:=(f (x-1) (by omega)).2 (by omega);grind
 generalize J:(rng 1 (isqF (B/h))).flatMap (Pd h B ex)=T at*
 generalize isqF (B/h)=r at*
 refine ay func137 rfl ntmps137 (aA (k:=bz (k:=ai (bz (k:=?_)))));refine aF (G:=MuG r (Pd h B ex) T) (fun g=>⟨(.raw (.int .i64 h)::.raw (.int .i64 B)::.raw (.bool ex)::j4 (.one (.sl 33 0 0 g.acc.length)::.raw (.int .i64 g.x)::j16 (j4 (j4 (jk::jk::[]))))),Hm [(33,[⟨35,1,lc (fR fI) g.acc⟩])]⟩) (fun g=>(r+1-g.x).toNat) ⟨1,[],by omega,by omega,by rw[ab4];exact J⟩ ?_ ?_
 ·refine(dB (k:=7) (d:=33) 35 1 (by omega) rfl rfl).trans (aj ⟨rfl,trivial⟩ ?_);simp[wk]
 rintro⟨x,acc,e,A,b⟩;simp only;obtain⟨F,C⟩:=n x e (by omega);obtain⟨Q,R⟩:=o x e A;have D:=f x e;by_cases l:x<=r
 ·have M:=D.2 l;rw[ip l,acR,<- aaL]at b;have c:(acc++Pd h B ex x).length<=1000000:=by
   grind
  rw[show Pd h B ex x=if(!ex||decide (h*x*x=B))=true then[[x]]else[]from rfl]at b c;generalize U:Pd h B ex=G at*
  generalize s:h*x=u at*
  generalize t:u*x=w at*
  refine ai (aK (aH s t) (k:=aC rfl (ak (ai (am ?_)))));have q:lc (fR fI) acc++[[AV.p (.sl [[.raw (.int .i64 x)]])]]=lc (fR fI) (acc++[[x]]):=tf acc [x];cases ex with
  |false=>
   simp only[Bool.not_false,Bool.true_or,if_true]at b c;have m:acc.length+1<=1000000:=by grind
   refine ar (k:=aC rfl (dZ q (k:=bL (k:=?_))));refine⟨⟨x+1,acc++[[x]],by omega,by omega,b⟩,by grind,aj ⟨rfl,trivial⟩ ?_⟩;simp[wk]
  |true=>
   simp only[aek,adK,decide_eq_true_eq]at b c;by_cases v:w=B
   ·have j:(w=B)=True:=eq_true v;rw[if_pos v]at b c;have m:acc.length+1<=1000000:=by grind
    refine aK (aH s (aH t j)) (k:=aC rfl (dZ q (k:=bL (k:=?_))));refine⟨⟨x+1,acc++[[x]],by omega,by omega,b⟩,by grind,aj ⟨rfl,trivial⟩ ?_⟩;simp[wk]
   have j:(w=B)=False:=eq_false v;rw[if_neg v,abd]at b;refine aK (aH s (aH t j)) (k:=aq rfl (ak (bL (k:=?_))));refine⟨⟨x+1,acc,by omega,by omega,b⟩,by grind,aj ⟨rfl,trivial⟩ ?_⟩;simp[wk]
 have K: ¬h*x*x<=B:=fun k=>l (D.1 k)
 rw[jM l,acH,abd]at b;subst b;generalize s:h*x=u at*
 generalize t:u*x=w at*
 refine ai (aK (aH s t) (k:=aq rfl (aY (bz (k:=?_)))));refine aW ⟨.inr rfl,fF 33 (bG rfl) ?_ rfl⟩;simp(disch:=omega) only[kd,results137,dn]
 simp
theorem Iv {Q:Exit->AS->Prop} (h:eD P Zu [] e (fun b s _=>Q b s) s ()):bo P e Q s:=fun m O X a w r=>
 wp_mono (h (fun _=>none) (fun _=>True) m O X a w ⟨TG.2 r,fun _ j=>by simp at j⟩) fun _ _ _ ⟨l,_,f,g⟩=>⟨l,f,g.1.1⟩
section
section
variable {n:Nat} {f:FF} {B:Int}
theorem pn.tcb (j:pn n f B) {k:Nat} (h:b.length+(k+1)=n) (e:pA b) (g:fC f n B (k+1) (aL n b)) (l:cz f n B k (aL n b)<=x) (m:x<=di f n B k (aL n b)):pA (x::b):=by
 have:=j.lohi h e g;exact e.cons (by omega)
theorem N7 (l:pn n f B): ∀(k:Nat) (y:List Int) (acc:List (Int×Int)),y.length+(k+1)=n->pA y->fC f n B (k+1) (aL n y)->(acc++qo f n B k y).length<=2000000->Ym n f B k y acc
 |0,y,acc,h,m,g,o=>N8 l 0 y acc h m g o fun j e=>absurd e (by omega)
 |k+1,y,acc,h,m,g,o=>N8 l (k+1) y acc h m g o fun j e c b p q r=>by
  obtain rfl:k=j:=by omega
  exact N7 l k (c::y) b (by grind) (l.tcb h m g p q) (l.step h g p q).1 r
theorem Uh (h: ∀x∈b,x=0) (i:Nat):b.getD i 0=0:=by
 rw[aav];cases c:b[i]? with
 |none=>rfl
 |some x=>exact h x (u5 c)
theorem oT (j:pn n f B) {k:Nat} (o:b.length+(k+1)=n) (l:fC f n B (k+1) (aL n b)) (h: ∀x∈b,x=0):cz f n B k (aL n b)<=0:=by
 have g:uF f k b b.length=0:=by
  unfold uF;have: ∀m,dJ (fun c=>bk f k k (k+(c+1))*b.getD c 0) m=0:=fun m=>by
   induction m with
   |zero=>rfl
   |succ m r=>
    grind [dJ,Uh]
  exact this _
 rw[pb f o]at g;have e:=j.sq (k:=k) (by omega) l;have q:=n4 e.1 e.2;have p:=j.d (k:=k+1) (by omega);unfold cz;rw[g];have:=abW (a:=isqF (gU f n B k (aL n b))+0) (b:=dk f (k+1)) (by omega) (by omega);omega
theorem Et (h:pn n f B) (ex:Bool): ∀(k:Nat) (y:List Int) (z:Bool) (acc:List (List Int)),y.length+(k+1)=n->pA y->fC f n B (k+1) (aL n y)->(z=true-> ∀x∈y,x=0)->(acc++yE f n B ex k y z).length<=1000000->Yu n f B ex k y z acc
 |0,y,z,acc,g,m,b,p,o=>Eu h 0 y z acc g m b (fun e=>oT h g b (p e)) o fun j e=>absurd e (by omega)
 |k+1,y,z,acc,g,m,b,p,o=>Eu h (k+1) y z acc g m b (fun e=>oT h g b (p e)) o fun j e c l q r _ s=>by
  obtain rfl:k=j:=by omega
  exact Et h ex k (c::y) (z&&decide (c=0)) l (by grind) (h.tcb g m b q r) (h.step g b q r).1 (fun e=>by
   grind) s
theorem we (b r:Nat) {c:TypeId} {n:Nat} (e:(s.H b)[r]?=some ⟨c,1,lc fI (ae n 0)⟩):bD s ⟨s.tmps,aw s.H b ((s.H b).set r ⟨c,1,gM n++lc fI []⟩)⟩:=
 mu b r (o':=⟨c,1,gM n++lc fI []⟩) e rfl rfl (by simp_all[gM,lc]) fun i g h=>by
  grind [gM,Bu,fI]
theorem SP (b:pn n f B) (w:X3 n f) (t:Zn n f) (A:2<=n) (F:(qo f n B (n-1) []).length<=2000000):CallC prog 94 [dn (mat n n f),.raw (.int .i64 B)] ⟨[],Yb (qo f n B (n-1) [])⟩:=by
 have z:=b.n8;have h:fC f n B n (aL n []):=ji b.r.pd b.b0;have e:=N7 b (n-1) [] [] (by simp;omega) pA.nil (by grind) (by grind);unfold Ym at e;rw[show n-1+1=n by omega,G5 b]at e;simp only[ab4]at e;have C:=b.d (k:=n) (aaq n);have c:=b.b0;have j:=b.b1;have u:0<=dk f n*B:=aaZ (by omega) c;have v:dk f n*B<=65536*1073741824:=aa9 (by omega) j c (by omega);have cN:=Jt (.inr rfl) w t;have m:=aU n n f;have g:=aB (dk f) (show n<n+1 by omega);have y:=aI (n+1) (dk f);have o:((n:Int)=1)=False:=eq_false (by omega);have x:IntKind.i64.wrap ((n:Int)-1)=((n-1:Nat):Int):=by grind [aR]
 unfold ZR at cN;generalize mat n n f=R at*
 generalize aQ (n+1) (dk f)=D at*
 generalize fo n f n=M at*
 generalize dk f n=d at*
 generalize q:d*B=G at*
 generalize qo f n B (n-1) []=E at*
 clear b h w t;refine ay func94 rfl ntmps94 (aA (k:=fL m (k:=ai (fL o (k:=aq rfl (ak (bK [⟨1,_,_,_,cN⟩] (k:=aK (aH (WB n) @aaX) (k:=ar (k:=ar (k:=?_)))))))))));refine bo.weak ((lV 9 0 0 0 133 2 (by omega) rfl rfl rfl).trans ((we 8 1 (n:=n) rfl).trans ((dK 7 10 (by decide) (by decide)).trans ((dK 8 10 (by decide) (by decide)).trans (dK 9 10 (by decide) (by decide)))))) ?_;refine bo.weak (aj (tm:=(jk::.raw (.int .i64 B)::jk::jk::jk::rN n::jk::.one (.ptr 10 1 0 0)::.one (.ptr 10 2 0 0)::.one (.ptr 10 4 0 0)::.one (.ptr 10 0 0 0)::j16 (j16 (jk::jk::[])))) (l:=[(10,[⟨190,1,[[.raw .nilFunc]]⟩,⟨188,2,[[.p (.sl (ls fI D)),.p (.sl (ls (fR fI) M))]]⟩,⟨35,1,[[.sl 10 3 0 n]]⟩,⟨2,1,gM n++lc fI []⟩,⟨76,1,[[.sl 10 5 0 0]]⟩,⟨133,2,lc fV []⟩])]) ⟨?_,trivial⟩ (by simp[wk,mW,fY,pG,aw])) ?_
 ·simp[aw,sH,fY,pG,zH];exact⟨by simp[gM,lc,fY],rfl⟩
 refine aK (aH @jv.eq_1 @lI.eq_1) (k:=ai (Iv (nP cf e 10 [] [] (by kernel_rfl) (by omega) (by kernel_rfl) fun K s=>?_)));simp(disch:=omega) only[kd,abw,aa,Nat.reduceSub,x,g,q,aR];refine s _ ⟨⟨rfl,?_⟩,?_⟩
 ·grind [I2,aM,Bv]
 clear s K;show bo _ _ _ _;refine aK (aH @F3.eq_1 (aH @cwD.eq_1 (aH @abw (aH @Nat.reduceSub (aH @X8.eq_1 (aH @qW.eq_1 (aH @nE.eq_1 @iG))))))) (k:=?_);refine aW ⟨.inr rfl,_,wc 10 5 (o0:=⟨133,2,lc fV E⟩) rfl (bF _ _ _),mm (d:=1000) rfl ?_ rfl⟩;simp(disch:=omega) only[kd,results94,I6,il,Nat.reduceEqDiff,reduceCtorEq]
 simp
theorem Sv (b:pn n f B) (w:X3 n f) (t:Zn n f) (ex:Bool) (F:2<=n) (H:(yE f n B ex (n-1) [] true).length<=1000000):CallC prog 90 [dn (mat n n f),.raw (.int .i64 B),.raw (.bool ex)] ⟨[],dn (yE f n B ex (n-1) [] true)⟩:=by
 have A:=b.n8;have j:fC f n B n (aL n []):=ji b.r.pd b.b0;have g:=Et b ex (n-1) [] true [] (by simp;omega) pA.nil (by grind) (fun _ x C=>by simp at C) (by grind);unfold Yu at g;rw[show n-1+1=n by omega,G5 b]at g;simp only[ab4]at g;have G:=b.d (k:=n) (aaq n);have c:=b.b0;have m:=b.b1;have u:0<=dk f n*B:=aaZ (by omega) c;have v:dk f n*B<=65536*1073741824:=aa9 (by omega) m c (by omega);have cN:=Jt (.inl rfl) w t;have e:=aU n n f;have h:=aB (dk f) (show n<n+1 by omega);have z:=aI (n+1) (dk f);have o:((n:Int)=1)=False:=eq_false (by omega);have y:IntKind.i64.wrap ((n:Int)-1)=((n-1:Nat):Int):=by grind [aR]
 unfold ZR at cN;generalize mat n n f=R at*
 generalize aQ (n+1) (dk f)=D at*
 generalize fo n f n=M at*
 generalize dk f n=d at*
 generalize q:d*B=I at*
 generalize yE f n B ex (n-1) [] true=E at*
 clear b j w t;refine ay func90 rfl ntmps90 (aA (k:=ai (fL (aH e o) (k:=aq rfl (ak (fL e (k:=bK [⟨1,_,_,_,cN⟩] (k:=aK (aH (WB n) @aaX) (k:=ar (k:=ar (k:=?_)))))))))));refine bo.weak ((lV 10 0 0 0 35 1 (by omega) rfl rfl rfl).trans ((we 9 1 (n:=n) rfl).trans ((dK 8 11 (by decide) (by decide)).trans ((dK 9 11 (by decide) (by decide)).trans ((dK 10 11 (by decide) (by decide)).trans (dK 5 11 (by decide) (by decide))))))) ?_;refine bo.weak (aj (tm:=(jk::.raw (.int .i64 B)::jk::jk::jk::.one (.ptr 11 6 0 0)::jk::rN n::.one (.ptr 11 1 0 0)::.one (.ptr 11 2 0 0)::.one (.ptr 11 4 0 0)::.one (.ptr 11 0 0 0)::j16 (j4 (j4 (j4 (jk::jk::[])))))) (l:=[(11,[⟨182,1,[[.raw .nilFunc]]⟩,⟨180,2,[[.p (.sl (ls fI D)),.p (.sl (ls (fR fI) M))]]⟩,⟨35,1,[[.sl 11 3 0 n]]⟩,⟨2,1,gM n++lc fI []⟩,⟨26,1,[[.sl 11 5 0 0]]⟩,⟨35,1,lc (fR fI) []⟩,⟨4,1,[[.raw (.bool ex)]]⟩])]) ⟨?_,trivial⟩ (by simp[wk,mW,fY,pG,aw])) ?_
 ·simp[aw,sH,fY,pG,zH];exact⟨by simp[gM,lc,fY],rfl⟩
 refine aK (aH @jv.eq_1 @lI.eq_1) (k:=ai (Iv (nP cf g 11 [] [] (by kernel_rfl) (by omega) (by kernel_rfl) fun K s=>?_)));simp(disch:=omega) only[kd,abw,aa,Nat.reduceSub,y,h,q,aR];refine s _ ⟨⟨rfl,?_⟩,?_⟩
 ·grind [vj,aM,Bv]
 clear s K;show bo _ _ _ _;refine aK (aH @F3.eq_1 (aH @cwD.eq_1 (aH @abw (aH @Nat.reduceSub (aH @Vn.eq_1 (aH @qW.eq_1 (aH @nE.eq_1 @iG))))))) (k:=?_);refine aW ⟨.inr rfl,_,wc 11 5 (o0:=⟨35,1,lc (fR fI) E⟩) rfl (bF _ _ _),mm (d:=1000) rfl ?_ rfl⟩;simp(disch:=omega) only[kd,results90,I6,il,Nat.reduceEqDiff,reduceCtorEq,dn]
 simp
end
end
section
structure vW (P:Program) (t kt et:TypeId):Prop where
 ht:P.underlying t=some (.map kt et)
 hk:P.underlying kt=some (.int .i64)
 he:P.underlying et=some (.int .i64)
 hz: ∀w:World,(zeroValue et).run P w= .ok (.int .i64 0) w
abbrev MapS:=Nat×(Int->Int)
def vV (P:Program) (c b:TypeId) (r:Nat) (g:MapS) (w:World):Prop:= ∃D:DataW Unit,Maps.IsMap D/\w.ownsMap P c (plainElem P b) r g.1 D/\ ∀k,I64 k->D.atKey (.int .i64 k) (.lit (.int .i64 0))= .lit (.int .i64 (g.2 k))
section
variable {P:Program} {t kt et:TypeId} {r:Nat} {g:MapS} {a:Act} {w0 w w':World} {O X Y:Nat->Prop} {s s':AS} {ks:List Nat}
theorem vV.same (h:w'.heap[r]?=w.heap[r]?) (j:vV P kt et r g w):vV P kt et r g w':=by
 obtain⟨D,n,⟨e,b,l,m,o,f⟩,c⟩:=j;exact⟨D,n,⟨e,b,h.trans l,m,o,f⟩,c⟩
theorem vV.lt (c:vV P kt et r g w):r<w.heap.size:=by
 obtain⟨D,f,b,e⟩:=c;exact b.lt
def mP (P:Program) (kt et:TypeId) (r:Nat):iw MapS:=⟨fun j=>j=r,fun g _ w=>vV P kt et r g w,fun _ _ _ _ h _ b=>b.same (h r rfl)⟩
def oq (g:MapS) (k z:Int):MapS:=(g.1+1,fun j=>if j=k then z else g.2 j)
theorem EC (T:vW P t kt et) {x m:Operand} {k:Int} (q:h.op= .lookup t x m false) (I:s.ev x=some (.raw (.map (some r)))) (G:s.ev m=some (.raw (.int .i64 k))) (y:I64 k):
  AT P h (fD (mP P kt et r) Y w0 O X g s) (fD (mP P kt et r) Y w0 O X g (s.put h.dst (.raw (.int .i64 (g.2 k))))):=fun a w K Q ⟨H,C,F,v⟩ E=>by
 obtain⟨B,u,J,f,b⟩:=H;have b:aX X J s a w:=b;have n:vV P kt et r g w:=v;obtain⟨D,L,j,p⟩:=n;obtain⟨c,l,e,_⟩:=j.lookup_int (aed T.hk) T.ht T.he (T.hz w) (Maps.keyOf_int_mk T.hk (adV y));rw[p k y]at e;injection e with e
 injection e with _ e
 subst e;have z:a.eval x= .map (some r):=(aV (be b x _ I)).1;have A:a.eval m= .int .i64 k:=(aV (be b m _ G)).1;refine j7 (.inl rfl) ?_;unfold Oper.wp;simp[execOp,q,z,A,l,Result.andThen];exact E _ _ ⟨eJ B u f b (bQ.raw _ rfl),C,F,v⟩
theorem ED (T:vW P t kt et) {m c v:Operand} {k:Int} (H:h.op= .mapUpdate t m c v) (L:h.dst=none) (hm:s.ev m=some (.raw (.map (some r)))) (hx:s.ev c=some (.raw (.int .i64 k))) (hv:s.ev v=some (.raw (.int .i64 x))) (hk:I64 k) (hz:I64 x) (hn:g.1<maxLen):
  AT P h (fD (mP P kt et r) Y w0 O X g s) (fD (mP P kt et r) Y w0 O X (oq g k x) s):=fun a w K Q ⟨N,J,Z,V⟩ W=>by
 obtain⟨h1,aa,ρ,M,l⟩:=id N;have l:aX X ρ s a w:=l;have A:vV P kt et r g w:=V;obtain⟨D,p,u,E⟩:=A;have n:=Maps.keyOf_int_mk T.hk (adV hk);obtain⟨w',y,q,f⟩:=u.update (aed T.hk) T.ht hn n (plainElem_int T.he (adV hz));have R:a.eval m= .map (some r):=(aV (be l m _ hm)).1;have S:a.eval c= .int .i64 k:=(aV (be l c _ hx)).1;have U:a.eval v= .int .i64 x:=(aV (be l v _ hv)).1;have I:da w0 O X s a w':=da.turn (B:=fun j=>j=r) N J ⟨f.os,f.tape,f.output,f.size,fun j F G=>f.block j F fun e=>G (by injection e)⟩;have C:vV P kt et r (oq g k x) w':=by
  refine⟨_,p.put _ _,q,fun j F=>?_⟩;show _=DataW.lit (Lit.int .i64 (if j=k then x else g.2 j));by_cases e:j=k
  ·subst e;rw[if_pos rfl];exact Maps.atKey_put_same p ((aed T.hk).key n) _ _
  rw[if_neg e];rw[Maps.atKey_put_other (fun b=>e (by injection b))];exact E j F
 refine j7 (.inl rfl) ?_;unfold Oper.wp;simp[execOp,H,R,S,U,y,Result.andThen];have:=W undef w';rw[L]at this;show K (a.put h.dst undef) w';rw[L];exact this ⟨I,J,Z,C⟩
/-! A drawn region with a call or a look-up in the middle and a last operation behind all others. -/
def GG (b:Array Oper) (m:Nat) (s:AS):Option (TypeId×TV×TV):=match b[m]? with
 |some o=>match o.guard,o.op with
  |none,.lookup t x c false=>match s.ev x,s.ev c with
   |some u,some v=>some (t,u,v)
   |_,_=>none
  |_,_=>none
 |none=>none
def XU (b:Array Oper) (m:Nat) (s:AS):Option (TypeId×TV×TV×TV):=match b[m]? with
 |some o=>match o.guard,o.dst,o.op with
  |none,none,.mapUpdate t y x v=>match s.ev y,s.ev x,s.ev v with
   |some u,some k,some z=>some (t,u,k,z)
   |_,_,_=>none
  |_,_,_=>none
 |none=>none
theorem S0 (h:sJ (BU c n) f s s'):GG c n s'=GG c n s:=by
 unfold GG;have e:=h.1;unfold BU at e;cases l:c[n]? with
 |none=>rfl
 |some o=>
  rw[l]at e;simp only at e⊢;have b: ∀y∈o.op.operands,s'.ev y=s.ev y:=fun y p=>by
   cases y with
   |tmp k=>exact e k (adw.2 ⟨.tmp k,by simpa using p,rfl⟩)
   |_=>rfl
  split
  ·rename_i t x q u j;rw[j]at b;rw[b x (by simp[Op.operands]),b q (by simp[Op.operands])]
  rfl
theorem uG (T:vW P t kt et) {k:Int} (h:GG c n s=some (t,.raw (.map (some r)),.raw (.int .i64 k))) (y:I64 k):v7 P c n (fD (mP P kt et r) Y w0 O X g s) (fD (mP P kt et r) Y w0 O X g (s.put (cwD c n) (.raw (.int .i64 (g.2 k))))):=by
 unfold GG at h;split at h
 case h_2=>cases h
 rename_i o e;split at h
 case h_2=>cases h
 rename_i B x A p b;split at h
 case h_2=>cases h
 rename_i u v z q;injection h with h
 injection h with f h
 injection h with j l
 subst f j l;refine⟨o,e,p,?_⟩;unfold cwD;rw[e];exact EC T b z q y
theorem EB (T:vW P t kt et) {k:Int} (h:XU c n s=some (t,.raw (.map (some r)),.raw (.int .i64 k),.raw (.int .i64 x))) (B:I64 k) (H:I64 x) (C:g.1<maxLen):v7 P c n (fD (mP P kt et r) Y w0 O X g s) (fD (mP P kt et r) Y w0 O X (oq g k x) s):=by
 unfold XU at h;split at h
 case h_2=>cases h
 rename_i o D;split at h
 case h_2=>cases h
 rename_i J y b v A q e;split at h
 case h_2=>cases h
 rename_i u I K G F E;injection h with h
 injection h with f h
 injection h with j h
 injection h with l p
 subst f j l p;exact⟨o,D,A,ED T e q G F E B H C⟩
variable {Q:Exit->AS->MapS->Prop}
theorem Ks (p:P.follows .mixedOrders=true) (T:vW P t kt et) (m d:Nat) (k z:Int) (b:List (ao P)) (f:List Nat) {id:Nat} (o:du ks c=true) (l:O8 c m (c.size-1) []=true) (n:cwD c m=some d) (u:I64 k) (D:I64 z) (B:g.1<maxLen) (h: ∀K:AS->Prop,(∀j,(GG c m j=some (t,.raw (.map (some r)),.raw (.int .i64 k))/\ ∀K:AS->Prop,(∀e,(XU c (c.size-1) e=some (t,.raw (.map (some r)),.raw (.int .i64 k),.raw (.int .i64 z))/\Q .normal e (oq g k z))->K e)->aT P (b.map ao.a) f (aJ c ((c.toList.take (c.size-1)).drop (m+1)) (m+1)) (some (j.put (some d) (.raw (.int .i64 (g.2 k))))) K)->K j)->aT P (b.map ao.a) f (aJ c (c.toList.take m) 0) (some s) K):eD P (mP P kt et r) ks (.region id c true) Q s g:=fun v Y w0 O X a w J=>by
 obtain⟨j,x,E,F⟩:=aO P (b.map ao.a) f c _ 0 s _ (h _ fun j q=>q);obtain⟨e,y,G,H⟩:=aO P (b.map ao.a) f c _ (m+1) _ _ (F _ fun e q=>q);have A:m<c.size-1:=by
  simp only[O8,aaF,decide_eq_true_eq]at l;exact l.1
 refine Dl (R1:=jX (mP P kt et r) ks v Y w0 O X g) (R2:=jX (mP P kt et r) ks v Y w0 O X (oq g k z)) gy p b f m (c.size-1) [] (.raw (.int .i64 (g.2 k))) o l x (fun s' C M=>?_) (by rw[n];exact y) (fun _=>qn o (EB T G u D B)) (fun h=>by omega) J fun L w' I=>⟨e,_,H,I⟩
 exact qn o (uG T ((S0 C).trans E) u)
theorem FB (T:vW P t kt et) (m d:Nat) (k:Int) (b:List (ao P)) (e:List Nat) {id:Nat} (l:du ks c=true) (x:m<c.toList.length) (j:cwD c m=some d) (v:I64 k) (h: ∀K:AS->Prop,(∀f,(GG c m f=some (t,.raw (.map (some r)),.raw (.int .i64 k))/\ ∀K:AS->Prop,(∀s',Q .normal s' g->K s')->aT P (b.map ao.a) e (aJ c (c.toList.drop (m+1)) (m+1)) (some (f.put (some d) (.raw (.int .i64 (g.2 k))))) K)->K f)->aT P (b.map ao.a) e (aJ c (c.toList.take m) 0) (some s) K):eD P (mP P kt et r) ks (.region id c false) Q s g:=fun n Y w0 O X a w B=>by
 obtain⟨f,o,y,z⟩:=aO P (b.map ao.a) e c _ 0 s _ (h _ fun f q=>q);obtain⟨s',p,u⟩:=aO P (b.map ao.a) e c _ (m+1) _ _ (z (fun s=>Q .normal s g) fun _ h=>h);refine r9 (R1:=jX (mP P kt et r) ks n Y w0 O X g) (R2:=jX (mP P kt et r) ks n Y w0 O X g) gy gy m b e l x o (qn l (uG T y v)) (by rw[j];exact p) B fun C w' A=>⟨s',g,u,A⟩
end
end
section
section
variable {P:Program} {t kt et:TypeId} {g:MapS} {a:Act} {w0 w w':World} {O X:Nat->Prop} {s s':AS}
theorem da.lendnew (h:da w0 O X s a w) (e:Ext w w') (E:w.heap.size<=n) (J:n<w'.heap.size):da w0 (fun j=>O j\/j=n) (fun j=>X j\/j=n) s a w':=by
 obtain⟨I,B,m,f,C⟩:=h;have z: ∀b,b<w.heap.size->Xo (fun j=>X j\/j=n) m s.H b->Xo X m s.H b:=fun b l h=>by
  rcases h with(h|h)|h
  ·exact .inl h
  ·omega
  exact .inr h
 have mono: ∀x v,AV.rel m s.H (Xo X m s.H) w x v->AV.rel m s.H (Xo (fun j=>X j\/j=n) m s.H) w' x v:=qH fun x v A h=>by
  cases x with
  |fn=>cases A
  |p x=>exact bQ.stays (Ext.stays e) (bQ.weaken z h)
  |sl x n K len=>exact h
  |ptr x n i j=>exact h
  |junk=>trivial
 refine⟨I,B,m,⟨⟨e.os.trans f.keep.os,e.tape.trans f.keep.tape,e.output.trans f.keep.output,aaj f.keep.size e.size,fun j D A=>?_⟩,fun x y o u=>?_,f.inj,fun x y o b c u l=>?_,fun b l=>?_,f.self⟩,fun t x q=>?_⟩
 ·rw[e.block j (aas D f.keep.size)];exact f.keep.block j D fun h=>A (.inl h)
 ·exact dO (f.objs x y o u) rfl (fun b c l=>e.block b (bf (f.objs x y o u) l)) (fun _ _ E=>mono _ _ E)
 ·obtain⟨F,G⟩:=f.old x y o b c u l;refine⟨F.imp id .inl,fun q=>?_⟩;rcases q with q|q
  ·exact G q
  have:=bf (f.objs x y o u) l;omega
 ·rcases l with l|l
  ·exact aas (f.bar b l) e.size
  omega
 obtain⟨v,L,M⟩:=C t x q;exact⟨v,L,TV.rel_map M mono⟩
theorem da.unlend (h:da w0 (fun j=>O j\/j=n) (fun j=>X j\/j=n) s a w) (C:w0.heap.size<=n):da w0 O X s a w:=by
 obtain⟨F,z,f,e,A⟩:=h;have m: ∀b,b<w.heap.size->Xo X f s.H b->Xo (fun j=>X j\/j=n) f s.H b:=fun b l h=>by
  rcases h with h|h
  ·exact .inl (.inl h)
  exact .inr h
 have mono: ∀x v,AV.rel f s.H (Xo (fun j=>X j\/j=n) f s.H) w x v->AV.rel f s.H (Xo X f s.H) w x v:=qH fun x v q h=>by
  cases x with
  |fn=>cases q
  |p x=>exact bQ.weaken m h
  |sl x n I len=>exact h
  |ptr x n i j=>exact h
  |junk=>trivial
 refine⟨F,z,f,⟨⟨e.keep.os,e.keep.tape,e.keep.output,e.keep.size,fun j G q=>e.keep.block j G fun h=>?_⟩,fun x y o u=>?_,e.inj,fun x y o b c u l=>?_,fun b l=>e.bar b (.inl l),e.self⟩,fun t x B=>?_⟩
 ·rcases h with h|h
  ·exact q h
  omega
 ·exact dO (e.objs x y o u) rfl (fun b c l=>rfl) (fun _ _ C=>mono _ _ C)
 ·obtain⟨D,E⟩:=e.old x y o b c u l;refine⟨?_,fun B=>E (.inl B)⟩;rcases D with g|g|g
  ·exact .inl g
  ·exact .inr g
  exact .inl (by omega)
 obtain⟨v,J,K⟩:=A t x B;exact⟨v,J,TV.rel_map K mono⟩
def AO (P:Program) (kt et:TypeId) (f:FuncId) (args:List TV) (g:MapS):Prop:=
 callable P f=true/\ ∀(X:Nat->Prop) (w:World) (vs:Array Value),(∀b,X b->b<w.heap.size)->vs.size=args.length->
  (∀(j:Nat) t,args[j]?=some t-> ∃v:Value,vs[j]?=some v/\t.rel (fun _ _=>none) (fun _=>[]) X w v)->
  Calls P f vs w fun e w'=> ∃r,e= .returned (.map (some r))/\w.heap.size<=r/\vV P kt et r g w'/\Keep (fun _=>False) w w'
theorem KG {f:FuncId} {fn:Func} {y:Code} {id:Nat} {args:List TV} (hf:P.funcs[f]?=some fn) (hb:fn.body=some (.seq e (.seq (.region id c false) y))) (hn:callable P f=true) {d:Nat} {S1:AS} (B:List (ao P)) (ow:List Nat) (h0:bo P e (fun m s'=>m= .normal/\bD s' S1) ⟨args++ae (fn.ntmps-args.length) .undef,fun _=>[]⟩) (H: ∃o,c[0]?=some o/\o.guard=none/\o.op= .makeMap t none/\o.dst=some d) (J: ∀(r:Nat) (K:AS->Prop),(∀s',eD P (mP P kt et r) [] y (fun m s' g'=>(m= .normal\/m= .ret)/\g'=g/\ ∃U,bD s' U/\pj P U fn.results.toList=some (.raw (.map (some r)))) s' (0,fun _=>0)->K s')->aT P (B.map ao.a) ow (aJ c (c.toList.drop 1) 1) (some (S1.put (some d) (.raw (.map (some r))))) K):AO P kt et f args g:=by
 refine⟨hn,fun X w vs hX an G=>?_⟩;refine calls_of_wp hf hb ?_;have R:da w (fun _=>False) X ⟨args++ae (fn.ntmps-args.length) .undef,fun _=>[]⟩ {tmps:=vs++Array.replicate (fn.ntmps-vs.size) undef,defers:=[]} w:=by
  refine⟨rfl,by simp[an],fun _ _=>none,⟨Keep.refl w,fun a r o C=>by simp at C,fun a r a' r' o o' b l c' C=>by simp at C,fun a r o b l C=>by simp at C,hX,fun a r o C=>by simp at C⟩,fun t x E=>?_⟩;have Z: ∀b,b<w.heap.size->Xo X (fun _ _=>none) (fun _=>[]) b->X b:=fun b _ h=>by
   rcases h with h|⟨a,r,o,l,J,Y⟩
   ·exact h
   cases Y
  by_cases ht:t<args.length
  ·rw[aal ht]at E;obtain⟨v,V,v2⟩:=G t x E;refine⟨v,by rw[aaz (by omega)];exact V,TV.rel_map v2 (fun y u T=>?_)⟩;cases y with
   |p y=>exact bQ.weaken Z T
   |sl a r a6 len=>obtain⟨o,J,_⟩:=T;simp at J
   |ptr a r i j=>obtain⟨o,_,_,J,_⟩:=T;simp at J
   |fn f a qs=>exact(oQ (fun _=>rfl) T).elim
   |junk=>trivial
  rw[aap (by omega),aaY]at E;split at E
  ·rename_i a4;injection E with E
   subst E;refine⟨undef,?_,dI⟩;rw[aaM (by omega),abo,if_pos (by omega)]
  cases E
 refine wp_seq (wp_mono (h0 _ _ _ _ _ R) fun m W q ⟨s1,⟨he,ap⟩,D⟩=>?_);subst he;have D:=ap _ _ _ _ _ D;have ac:Keep (fun _=>False) w q:=by obtain⟨_,_,ρ,z,_⟩:=D;exact z.keep
 show Code.wp P _ _ W q;obtain⟨o,C,hg,H,hd⟩:=H;have A:w.heap.size<=q.heap.size:=ac.size;obtain⟨U,Y,h3⟩:=aO P (B.map ao.a) ow c _ 1 _ _ (J q.heap.size _ fun _ h=>h);refine wp_seq ((wpIn_wide (n:=0)).1 (wpIn_region (F:=FW none) ?_));have Q:c.size=1+(c.toList.drop 1).length:=by
  have:=(aan.1 C).1;simp;omega
 rw[Q,aax,abX 1,aa1,wpOpsIn_cons];unfold wpOpIn;rw[C];simp only;rw[if_pos (by simp[Region.wanted,hg])];refine j7 (.inl rfl) ?_;unfold Oper.wp;simp only[execOp,H,abY,aak,run_makeMap,aag,aaJ];have M:Ext q (q.alloc (.map #[] 0)):=xk (World.grownBy_alloc q _ none);have ad:=D.lendnew M (aaq _) (aan.1 (MapKept.heap_alloc q (.map #[] 0)).1).1;have hG:vV P kt et q.heap.size (0,fun _=>0) (q.alloc (.map #[] 0)):=⟨.map [],Maps.isMap_empty,World.ownsMap_made _ _ _ _,fun k _=>rfl⟩;obtain⟨q1,q2,ρ,q3,q4⟩:=ad;have af:fD (mP P kt et q.heap.size) (fun _=>True) w (fun j=>False\/j=q.heap.size) (fun j=>X j\/j=q.heap.size) (0,fun _=>0) (S1.put (some d) (.raw (.map (some q.heap.size)))) (W.put o.dst (.map (some q.heap.size))) (q.alloc (.map #[] 0)):=by
  rw[hd];exact⟨eJ q1 q2 q3 q4 (bQ.raw _ rfl),fun j N=>⟨.inr N,.inr N⟩,fun _ _=>trivial,hG⟩
 obtain⟨wb,Ob,Xb,rb,kb⟩:=tn _ _ _ af;show wpOpsIn (FW none) 0 P c _ (List.range' (0+1) (List.drop 1 c.toList).length) (W.put o.dst (.map (some q.heap.size))) (q.alloc (.map #[] 0));rw[<- abd (List.range' (0+1) _)];refine B5 (n:=0) (suf:=[]) (c.toList.drop 1) 1 _ U _ _ (fun j o N=>by
  rw[aaN]at N;simpa using N) Y rb (fun a2 w2 r2=>?_)
 show y.wp P _ a2 w2;refine wp_mono (h3 (fun _=>none) _ _ _ _ _ _ ⟨kb _ _ _ r2,fun _ hk=>by simp at hk⟩) fun m a3 w3 ⟨s3,g3,⟨aa,ab,s4,av,S⟩,⟨ag,_,_,L⟩,_⟩=>?_
 subst ab;have ah:=av _ _ _ _ _ ag;have al:=(da.unlend (O:=fun _=>False) ah A);obtain⟨n1,a5,a0,z,I⟩:=al;have I:aX X a0 s4 a3 w3:=I;obtain⟨v,V,v2⟩:=eA z I S;have hv:=(aV v2).1;subst hv;rcases aa with rfl|rfl
 ·exact⟨n1,_,V,_,rfl,A,L,z.keep⟩
 exact⟨n1,_,V,_,rfl,A,L,z.keep⟩
theorem Wg {f:FuncId} {J:List TV} (p:da w0 O X s a w) (b:pL h s=some (f,J)) (m:AO P kt et f J g) (hp: ∀t∈J,xR t=true) {d:Nat} (hd:h.dst=some d) {K:Act->World->Prop} {Q:Exit->Act->World->Prop} (hK: ∀r w',w0.heap.size<=r->fD (mP P kt et r) (fun _=>True) w0 (fun j=>O j\/j=r) (fun j=>X j\/j=r) g (s.put (some d) (.raw (.map (some r)))) (a.put (some d) (.map (some r))) w'->K (a.put (some d) (.map (some r))) w'):h.wp P a w K Q:=by
 obtain⟨h1,aa,ρ,E,n⟩:=id p;have n:aX X ρ s a w:=n;have key: ∀vs:Array Value,(execOp a.eval h).run P w= .ok (.enter f vs) w->vs.size=J.length->(∀(j:Nat) t,J[j]?=some t-> ∃v:Value,vs[j]?=some v/\t.rel ρ s.H (Xo X ρ s.H) w v)->h.wp P a w K Q:=fun vs I W x=>by
  unfold Oper.wp;rw[I];simp only[Oper.upon];refine(m.2 (fun _=>False) w vs (fun j B=>B.elim) W fun j u hu=>?_).mono ?_
  ·obtain⟨v,Z,v2⟩:=x j u hu;exact⟨v,Z,uB (hp u (u5 hu)) v2⟩
  rintro e w1 ⟨r,rfl,hr,hG,F⟩;have D:Ext w w1:=⟨F.os,F.tape,F.output,F.size,fun k U=>F.block k U id⟩;obtain⟨q1,q2,ab,q3,q4⟩:=p.lendnew D hr hG.lt;rw[hd];exact hK r w1 (aaj E.keep.size hr) ⟨eJ q1 q2 q3 q4 (bQ.raw _ rfl),fun j B=>⟨.inr B,.inr B⟩,fun _ _=>trivial,hG⟩
 unfold pL at b;split at b
 ·rename_i c G;split at b
  ·rename_i f' l;obtain⟨L,z,e⟩:=u6.1 b;injection e with e M
   subst e M;obtain⟨q,R⟩:=bP z;refine key _ (f9 G l rfl m.1) (by simpa using q.symm) fun j t C=>?_
   obtain⟨y,Y,A⟩:=R j t C;refine⟨a.eval y,?_,be n y _ A⟩;rw[aaS];have:c.args[j]?=some y:=by simpa using Y
   rw[this];rfl
  ·rename_i k l;split at b
   ·rename_i f' S L T z;injection b with b
    injection b with e M
    subst e M;obtain⟨q,R⟩:=bP z;obtain⟨us,k1,k2,k3⟩:=j8 (v:=a.eval (.tmp k)) (fun t0 V=>be n (.tmp k) t0 V) T;refine key _ (km G l k1 m.1) (by have N:=q;simp at N⊢;omega) fun j t C=>?_
    by_cases B:j<L.length
    ·rw[aal B]at C;obtain⟨y,Y,A⟩:=R j _ C;refine⟨a.eval y,?_,be n y _ A⟩;rw[aaz (by simp at q⊢;omega),aaS];have:c.args[j]?=some y:=by simpa using Y
     rw[this];rfl
    rw[aap (by omega)]at C;obtain⟨v,Z,v2⟩:=k3 _ _ C;refine⟨v,?_,v2⟩;rw[aaM (by simp at q⊢;omega)];simp at q⊢;rw[<- q];exact Z
   cases b
  cases b
 cases b
theorem R4 (m d:Nat) {f:FuncId} {args:List TV} (z:AO P kt et f args g) (l:List (ao P)) (B:List Nat) {id:Nat} {Q:Exit->AS->Prop} (C:m<c.toList.length) (u:cwD c m=some d) (h: ∀K:AS->Prop,(∀x,(cxTs c m x=some (f,args)/\(∀t∈args,xR t=true)/\ ∀(r:Nat) (K:AS->Prop),(∀s',eD P (mP P kt et r) [] e (fun b s' _=>Q b s') s' g->K s')->aT P (l.map ao.a) B (aJ c (c.toList.drop (m+1)) (m+1)) (some (x.put (some d) (.raw (.map (some r))))) K)->K x)->aT P (l.map ao.a) B (aJ c (c.toList.take m) 0) (some s) K):bo P (.seq (.region id c false) e) Q s:=fun w0 O X a w r0=>by
 obtain⟨x,L,p,W,Y⟩:=aO P (l.map ao.a) B c _ 0 s _ (h _ fun x q=>q);obtain⟨o,E⟩: ∃o,c[m]?=some o:=⟨c[m],by simp at C;simp[C]⟩;unfold cxTs at p;rw[E]at p;simp only at p;have A:o.guard=none:=by
  split at p
  ·rename_i A;simpa using A
  cases p
 rw[A]at p;simp only[abz,if_true]at p;have S:o.dst=some d:=by unfold cwD at u;rw[E]at u;exact u
 refine wp_seq ((wpIn_wide (n:=0)).1 (wpIn_region (F:=FW none) ?_));have I:c.size=(c.toList.take m).length+(1+(c.toList.drop (m+1)).length):=by simp at C⊢;omega
 rw[I,aax,<- abf,aaO];have D:(c.toList.take m).length=m:=by rw[abc];omega
 refine B5 (c.toList.take m) 0 s x a w (fun j o v=>?_) L r0 fun a' w' Z=>?_
 ·rw[aaH]at v;split at v
  ·simpa using v
  cases v
 rw[D,abX 1,aa1,wpOpsIn_cons];unfold wpOpIn;rw[E];simp only;rw[if_pos (by simp[Region.wanted,A])];refine j7 (.inl rfl) (Wg Z p z W S fun r w1 U G=>?_);obtain⟨s2,M,N⟩:=aO P (l.map ao.a) B c _ (m+1) _ _ (Y r _ fun _ h=>h);obtain⟨wb,Ob,Xb,rb,V⟩:=tn _ _ _ G;rw[<- abd (List.range' (m+1) _)];refine B5 (n:=0) (suf:=[]) (c.toList.drop (m+1)) (m+1) _ s2 _ _ (fun j o v=>by
  rw[aaN]at v;simpa using v) M rb (fun J w2 r2=>?_)
 show e.wp P _ J w2;exact wp_mono (N (fun _=>none) _ _ _ _ _ _ ⟨V _ _ _ r2,fun _ T=>by simp at T⟩) fun b a3 w3 ⟨s3,g3,R,⟨H,_,_,_⟩,_⟩=>⟨s3,R,da.unlend H U⟩
end
end
section
theorem U7:vW prog 79 2 2:=⟨by kernel_rfl,by kernel_rfl,by kernel_rfl,fun w=>by kernel_rfl⟩
def gF (nm:List Int->Int) (g:MapS) (l:List (List Int)):MapS:=l.foldl (fun g z=>oq g (nm z) (g.2 (nm z)+1)) g
theorem WF (nm:List Int->Int) (g:MapS) (l m:List (List Int)):gF nm g (l++m)=gF nm (gF nm g l) m:=List.foldl_append
def GB (g:MapS):Prop:= ∀j,0<=g.2 j/\g.2 j<=(g.1:Int)
theorem GB.step {g:MapS} (h:GB g) (k:Int):GB (oq g k (g.2 k+1)):=fun j=>by
 have:=h j;have:=h k;show 0<=(if j=k then g.2 k+1 else g.2 j)/\(if j=k then g.2 k+1 else g.2 j)<=((g.1+1:Nat):Int);omega
theorem Ok {nm:List Int->Int}: ∀(l:List (List Int)) {g:MapS},GB g->GB (gF nm g l)/\(gF nm g l).1=g.1+l.length
 |[],g,h=>⟨h,rfl⟩
 |z::l,g,h=>by
  obtain⟨b,c⟩:=Ok (nm:=nm) l (h.step (nm z));refine⟨b,c.trans ?_⟩;show g.1+1+l.length=_;grind
abbrev IP (a n m:Nat) (y:List Int) (I:List (Int×Int)) (R:List (List Int)) (r nx:Nat):List OObj:=[⟨131,1,[[.fn 95 a [(1,0,0),(2,0,0),(3,0,0),(0,0,0),(5,0,0),(6,0,0)]]]⟩,⟨76,1,[[.p (.sl (ls fV I))]]⟩,⟨3,1,[[.p (.raw (.int .i64 (nx:Int)))]]⟩,⟨35,1,[[.sl a 4 0 n]]⟩,⟨2,1,gM m++lc fI y⟩,⟨79,1,[[.p (.raw (.map (some r)))]]⟩,⟨26,1,[[.p (.sl (ls (fR fI) R))]]⟩]
theorem IQ (a d n m:Nat) (y:List Int) (I:List (Int×Int)) (R:List (List Int)) (r nx:Nat):(IP a n m y I R r nx).map (renO d)=IP d n m y I R r nx:=by
 simp only[IP,aaC,aaR,renO,bY,iH,aba,iG,adG,aa5,if_false]
theorem Dc (a n m:Nat) (y:List Int) (I:List (Int×Int)) (R:List (List Int)) (r nx:Nat): ∀o∈IP a n m y I R r nx,selfO a o:=fun o f e b x c=>by
 simp only[aaV,abu,or_false]at f;rcases f with rfl|rfl|rfl|rfl|rfl|rfl|rfl
 ·simp only[aam]at b;subst b;simp only[aam]at c;subst c;exact⟨rfl,by simp⟩
 ·simp only[aam]at b;subst b;simp only[aam]at c;subst c;trivial
 ·simp only[aam]at b;subst b;simp only[aam]at c;subst c;trivial
 ·simp only[aam]at b;subst b;simp only[aam]at c;subst c;rfl
 ·simp only[abe]at b;rcases b with b|b
  ·obtain⟨_,rfl⟩:=aca.1 b;simp only[aam]at c;subst c;trivial
  exact cG (bF 2 1 _ e b x c)
 ·simp only[aam]at b;subst b;simp only[aam]at c;subst c;trivial
 simp only[aam]at b;subst b;simp only[aam]at c;subst c;trivial
abbrev X5:List (Nat×Nat):=[(1,1),(2,2),(3,3),(0,4),(5,5),(6,6)]
theorem Wh (a n m f:Nat) (y g:List Int) (I:List (Int×Int)) (R:List (List Int)) (r nx b:Nat): ∀q∈X5.map Prod.fst,∀o,(IP a n m y I R r nx)[q]?=some o-> ∃c,(IP a n f g I R r b)[q]?=some c/\c.es=o.es/\o.elems.length<=c.elems.length:=fun q e o h=>by
 simp only[X5,aaC,aaR,aaV,abu,or_false]at e;rcases e with rfl|rfl|rfl|rfl|rfl|rfl<;>(grind)
abbrev cnA (k:Nat):List TV:=[.raw (.int .i64 (k:Int)),.one (.ptr 0 1 0 0),.one (.ptr 0 2 0 0),.one (.ptr 0 3 0 0),.one (.ptr 0 0 0 0),.one (.ptr 0 5 0 0),.one (.ptr 0 6 0 0)]
abbrev ld (n:Nat) (f:FF) (z:List Int):Int:=MH f z n n
abbrev Yi (n:Nat) (f:FF) (B:Int) (r:Nat) (I:List (Int×Int)) (k:Nat) (y:List Int) (nx:Nat) (g:MapS):Prop:=
 lQ prog (mP prog 2 2 r) (X5.map Prod.fst) 95 (cnA k) (IP 0 n (k+1) y I (mat n n f) r nx) (IP 0 n (k+1) y I (mat n n f) r (nx+(qo f n B k y).length)) g (gF (ld n f) g (fb f n B (k+1) y)) (.tup [])
theorem MW {m:Nat} {I:List (Int×Int)} {R:List (List Int)} {r nx:Nat} (e:s.H 0=IP 0 n m (x::b) I R r nx):bD s ⟨s.tmps,aw s.H 0 (IP 0 n (m+1) b I R r nx)⟩:=by
 have h:=mu (s:=s) 0 4 (o:=⟨2,1,gM m++lc fI (x::b)⟩) (o':=⟨2,1,gM (m+1)++lc fI b⟩) (by rw[e];rfl) rfl rfl (by simp only[jP,aaG];omega) fun i f g=>by
  rw[<- n7 m x b];grind [gM]
 grind
theorem Kt {l:Type} {L:iw l} {g:l} {Q:Exit->AS->l->Prop} (j:P.follows .mixedOrders=true) (b:List (ao P)) (m:List Nat) {id:Nat} (o:bX [] c=true) (p:du f c=true) (h: ∀K:AS->Prop,(∀n,eD P L f e Q n g->K n)->aT P (b.map ao.a) m (aJ c c.toList 0) (some s) K):eD P L f (.seq (.region id c true) e) Q s g:=bV (Kr j b m o p h)
theorem wq {j:Type} {L:iw j} {g:j} {Q:Exit->AS->j->Prop} (b:P.follows .mixedOrders=true) {id:Nat} (m:bX [] c=true) (n:du f c=true) (h: ∀K:AS->Prop,(∀l,eD P L f e Q l g->K l)->aT P [] [] (aJ c c.toList 0) (some s) K):eD P L f (.seq (.region id c true) e) Q s g:=Kt b [] [] m n h
structure CnG (lo hi:Int) (h:Int->List (List Int)) (em:Int->List (Int×Int)) (I post:List (Int×Int)) (nm:List Int->Int) (G:MapS) (tot:Nat) where
 x:Int
 pre:List (Int×Int)
 g:MapS
 h1:lo<=x
 h2:x<=hi+1
 eI:I=pre++(rng x hi).flatMap em++post
 eg:gF nm g ((rng x hi).flatMap h)=G
 hb:GB g
 hl:g.1+((rng x hi).flatMap h).length<=tot
theorem YS (m:Nat) (x:Int) (y:List Int):(gM m++lc fI (x::y))[m]?=some [.p (.raw (.int .i64 x))]:=by
 grind [gM,lc,fI]
theorem K8 (m:Nat) (x z:Int) (y:List Int):(gM m++lc fI (x::y)).set m [.p (.raw (.int .i64 z))]=gM m++lc fI (z::y):=by
 simp_all[gM,lc,fI]
section
variable {n:Nat} {f:FF} {B:Int}
theorem UZ (hv:pn n f B) (r k:Nat) (y:List Int) (I pre post:List (Int×Int)) (g:MapS) (hk:y.length+(k+1)=n) (hT:pA y) (hP:fC f n B (k+1) (aL n y)) (hI:I=pre++qo f n B k y++post) (a5:I.length<=4000000) (hb:GB g) (S:g.1+(fb f n B (k+1) y).length<=4000000)
  (hN:k=0-> ∀c,cz f n B k (aL n y)<=c->c<=di f n B k (aL n y)->CallC prog 40 [dn (mat n n f),kE (c::y)] ⟨[],.raw (.int .i64 (ld n f (c::y)))⟩/\I64 (ld n f (c::y)))
  (X: ∀j,k=j+1-> ∀c F L N,cz f n B k (aL n y)<=c->c<=di f n B k (aL n y)->I=F++qo f n B j (c::y)++L->GB N->N.1+(fb f n B (j+1) (c::y)).length<=4000000->Yi n f B r I j (c::y) F.length N):Yi n f B r I k y pre.length g:=by
 have bc:=hv.n8;have a1:=hv.lohi hk hT hP;have a3:=Uf (m:=y.length+1) (by omega);have hS: ∃H:Int->List (Int×Int),qo f n B k y=(cz f n B k (aL n y),di f n B k (aL n y))::(rng (cz f n B k (aL n y)) (di f n B k (aL n y))).flatMap H/\(k=0-> ∀c,H c=[])/\ ∀j,k=j+1-> ∀c,H c=qo f n B j (c::y):=by
  cases k with
  |zero=>exact⟨fun _=>[],by show[_]=_;simp,fun _ _=>rfl,fun j e=>absurd e (by omega)⟩
  |succ j=>
   refine⟨_,rfl,fun e=>absurd e (by omega),fun j' e c=>?_⟩;grind
 obtain⟨H,hS,P,Q⟩:=hS;have hE:fb f n B (k+1) y=(rng (cz f n B k (aL n y)) (di f n B k (aL n y))).flatMap fun c=>fb f n B k (c::y):=rfl
 have a8:k=0-> ∀c,fb f n B k (c::y)=[c::y]:=fun e c=>by subst e;rfl
 have ah: ∀j,k=j+1-> ∀c,fb f n B k (c::y)=fb f n B (j+1) (c::y):=fun j e c=>by subst e;rfl
 unfold Yi at*
 rw[hS]at hI⊢;rw[hE]at S⊢;clear hv hP hT hS hE;generalize T:(fun c=>fb f n B k (c::y))=h at*
 have al: ∀c,h c=fb f n B k (c::y):=fun c=>by rw[<- T]
 clear T;generalize cz f n B k (aL n y)=t at*
 generalize di f n B k (aL n y)=o at*
 generalize mat n n f=R at*
 have bb: -46911780290560<=t/\t<=46911780290560:=by omega
 have a9: -46911780290560<=o/\o<=46911780290560:=by omega
 have V:t<=o+1:=by omega
 clear a1 a3;have O:I[pre.length]?=some (t,o):=by
  grind
 have bh:pre.length<I.length:=(aaf.1 O).1;have ad:I=(pre++[(t,o)])++(rng t o).flatMap H++post:=by grind
 have s:pre.length+((t,o)::(rng t o).flatMap H).length=I.length-post.length:=by
  grind
 rw[s];clear s hI;refine qI func95 rfl (by kernel_rfl) X5 (by simp) (by simp[selfTV,bs]) (by simp[selfTV]) (Dc 0 _ _ _ _ _ _ _) (Dc 0 _ _ _ _ _ _ _) (Wh 0 _ _ _ _ _ _ _ _ _ _) ?_;rw[ntmps95];refine eD.weak (aj (tm:=(.raw (.int .i64 (k:Int))::.one (.ptr 0 1 0 0)::.one (.ptr 0 2 0 0)::.one (.ptr 0 3 0 0)::.one (.ptr 0 0 0 0)::.one (.ptr 0 5 0 0)::.one (.ptr 0 6 0 0)::j16 (j16 (j4 (jk::jk::[]))))) (l:=[(0,IP 0 n (k+1) y I R r pre.length)]) ⟨rfl,trivial⟩ (by simp[wk,ae])) ?_;refine d6 (aH O @fV.eq_1) (k:=?_);have e1:IntKind.i64.wrap ((pre.length:Int)+1)=((pre.length+1:Nat):Int):=aR (by omega) (by omega);refine d6 e1 (k:=?_);have J:=jP (k+1) y;have q:=n7 k t y;have b:(gM (k+1)++lc fI y)[k]?=some [.junk]:=by
  grind [gM]
 refine d6 (aH b q) (k:=?_);clear J q b e1;generalize ac:gF (ld n f) g ((rng t o).flatMap h)=GT at*
 refine ku (G:=CnG t o h H I post (ld n f) GT 4000000) (fun v=>⟨(.raw (.int .i64 (k:Int))::.one (.ptr 0 1 0 0)::.one (.ptr 0 2 0 0)::.one (.ptr 0 3 0 0)::.one (.ptr 0 0 0 0)::.one (.ptr 0 5 0 0)::.one (.ptr 0 6 0 0)::jk::.one (.ptr 8 0 0 0)::j16 (j16 (j4 ([])))),Hm [(0,IP 0 n k (v.x::y) I R r v.pre.length),(8,[⟨133,2,[[.p (.raw (.int .i64 t)),.p (.raw (.int .i64 o))]]⟩])]⟩) (fun v=>v.g) (fun v=>(o+1-v.x).toNat) ⟨t,pre++[(t,o)],g,acp _,V,ad,ac,hb,S⟩ ?_ rfl ?_
 ·refine aj ⟨?_,rfl,trivial⟩ ?_
  ·simp only[aa6,aaG,ab3];rfl
  simp[wk]
 rintro⟨x,E,A,Z,bl,M,z,C,w⟩;simp only;have bm: -46911780290560<=x/\x<=46911780290561:=by omega
 have J:(gM k++lc fI (x::y)).length=n:=by rw[jP,aaG];omega
 have b:=YS k x y;have D:k<n:=by omega
 by_cases Y:x<=o
 ·rw[ip Y,acR]at M z w;rw[WF]at z;rw[aa6]at w;refine bV (wq cf (by kernel_rfl) (by kernel_rfl) fun _ K=>?_);simp(disch:=omega) only[kd,aa,reduceCtorEq,D,b];apply K;refine gV rfl (dY ?_);refine bV (gd ?_);have q:=K8 k x (x+1) y;cases k with
  |zero=>
   obtain⟨cN,af⟩:=hN rfl x Z Y;have an:h x=[x::y]:=by grind
   rw[an]at z w;rw[P rfl,ab4]at M;have av:(0<((0:Nat):Int))=False:=eq_false (by omega);have U:gM 0++lc fI (x::y)=lc fI (x::y):=rfl;have ap:gM 0++lc fI ((x+1)::y)=lc fI ((x+1)::y):=rfl;have a7:=C (ld n f (x::y));have a2:=C.step (ld n f (x::y));have a6:A.1+1<=4000000:=by
    grind
   have a4:List.take n (x::y)=x::y:=aar (by grind);refine d6 av (k:=gC rfl ?_);simp only[ap]at q;simp only[U]at J b q;simp only[IP,U];have ab:gF (ld n f) (oq A (ld n f (x::y)) (A.2 (ld n f (x::y))+1)) ((rng (x+1) o).flatMap h)=GT:=z;generalize ld n f (x::y)=nv at*
   refine Ks cf U7 4 43 nv (A.2 nv+1) [⟨3,_,_,_,cN⟩] [] (by kernel_rfl) (by kernel_rfl) rfl af ⟨by omega,by omega⟩ (by grind [maxLen]) fun K u=>?_
   simp only[kd,dn,kE,aa,reduceCtorEq,a4];refine u _ ⟨rfl,?_⟩;clear u K;intro K u;simp(disch:=omega) only[kd,dn,kE,aa,abw,Nat.reduceSub,aR];refine u _ ⟨rfl,?_⟩;clear u K;show eD _ _ _ _ _ _ _;refine qA (aH D (aH b q)) (k:=?_);refine⟨⟨x+1,E,oq A nv (A.2 nv+1),by omega,by omega,M,ab,a2,by simp only[aaG,ab3]at w;show A.1+1+_<=_;omega⟩,by simp only;omega,aj ⟨rfl,rfl,trivial⟩ ?_,rfl⟩;simp[wk]
  |succ j=>
   rw[Q j rfl x,aaL,aaL,<- aaL E]at M;rw[al,ah j rfl]at z w;have e4:IntKind.i64.wrap (((j+1:Nat):Int)-1)=(j:Int):=by grind [aR]
   have a0:(0<((j+1:Nat):Int))=True:=eq_true (by omega);have cV:=X j rfl x E _ A Z Y M C (by omega);obtain⟨ag,ba⟩:=Ok (nm:=ld n f) (fb f n B (j+1) (x::y)) C;have eW:E++qo f n B j (x::y)=E++qo f n B j (x::y):=rfl;generalize gF (ld n f) A (fb f n B (j+1) (x::y))=N at*
   generalize(fb f n B (j+1) (x::y)).length=LL at*
   generalize qo f n B j (x::y)=W at*
   clear eW;refine d6 a0 (k:=gV rfl (iX 3 cV 0 [] [] (by kernel_rfl) (by omega) (by decide) fun K u=>?_));simp only[kd,aa,reduceCtorEq,e4];refine u _ ⟨⟨rfl,?_⟩,?_⟩
   ·grind [IQ]
   clear u K;intro K u;simp(disch:=omega) only[kd,aa,F3,cwD,X5,qW,nE,Nat.reduceBEq,reduceCtorEq,aba,iG];apply u;clear u K;show eD _ _ _ _ _ _ _;refine qA (aH D (aH b q)) (k:=?_);refine⟨⟨x+1,E++W,N,by omega,by omega,by grind,z,ag,by omega⟩,by simp only;omega,aj ⟨?_,rfl,trivial⟩ ?_,rfl⟩
   ·simp only[aa6];rfl
   simp[wk]
 obtain rfl:x=o+1:=by omega
 rw[jM Y,acH,abd]at M;rw[jM Y,acH]at z;have z:A=GT:=z;have s:I.length-post.length=E.length:=by grind
 rw[s];refine bV (wq cf (by kernel_rfl) (by kernel_rfl) fun _ K=>?_);simp(disch:=omega) only[kd,aa,reduceCtorEq,D,b];apply K;refine gC rfl (nO ?_);show _/\_;refine⟨.inl rfl,z,_,(MW rfl).trans (aj (tm:=(jk::.one (.ptr 0 1 0 0)::.one (.ptr 0 2 0 0)::.one (.ptr 0 3 0 0)::.one (.ptr 0 0 0 0)::.one (.ptr 0 5 0 0)::.one (.ptr 0 6 0 0)::j16 (j16 (j4 (jk::jk::[]))))) (l:=[(0,IP 0 n (k+1) y I R r E.length)]) ⟨rfl,trivial⟩ (by simp[wk])),⟨eh _,rfl⟩,by simp⟩
end
end
section
section
variable {n:Nat} {f:FF} {B:Int}
theorem pu (f:FF) (z:List Int):ld n f z=BF n f (fun i=>z.getD i 0) (fun i=>z.getD i 0):=by
 refine bA n fun i _=>?_
 show dJ (fun b=>f i b*z.getD i 0*z.getD b 0) n=z.getD i 0*dJ (fun j=>f i j*z.getD j 0) n;grind [jl]
theorem Pm (c:RedR f n) (g:n<=8) (v: ∀i j,i<n->j<n-> -262144<=f i j/\f i j<=262144) (m:0<=B) (o:B<=65536) (l:b.length=n) (r:fC f n B 0 (aL n b)):
  CallC prog 40 [dn (mat n n f),kE b] ⟨[],.raw (.int .i64 (ld n f b))⟩/\0<=ld n f b/\ld n f b<=B:=by
 have h:=nI.1 r;have u:aL n b=fun i=>b.getD i 0:=funext fun i=>oI l i
 rw[u]at h;have q:B*((2^n:Nat):Int)<=((4096:Nat):Int)*((4096:Nat):Int):=by
  have e:(2^n:Nat)<=256:=aaj (aaE (by omega) g) (by decide);generalize(2^n:Nat)=p at*
  have:=aa9 o (adW.2 e) (by omega) (by omega);omega
 have s: ∀i,(b.getD i 0).natAbs<=524288:=fun i=>by
  by_cases t:i<n
  ·have:=zF c (fun i=>b.getD i 0) m h q (n-i-1) i (by omega);have e:2^(n-i-1)<=2^7:=aaE (by omega) (by omega);omega
  grind
 refine⟨Te n f b 262144 524288 g l (fun i j t w=>by grind) s (by decide),?_,?_⟩
 ·rw[pu];have:=(jf c.pd.1 c.pd.2 (fun i=>b.getD i 0) n 0 (by omega)).1;rwa[jm (f':=f) (fun i j _ _=>dr f i j) (fun _ _=>rfl) (fun _ _=>rfl)]at this
 grind [pu]
theorem UY (o:pn n f B) (r:Nat) (I:List (Int×Int)) (b:I.length<=4000000) (p: ∀z,z.length=n->fC f n B 0 (aL n z)->CallC prog 40 [dn (mat n n f),kE z] ⟨[],.raw (.int .i64 (ld n f z))⟩/\I64 (ld n f z)):
  ∀(k:Nat) (y:List Int) (pre post:List (Int×Int)) (g:MapS),y.length+(k+1)=n->pA y->fC f n B (k+1) (aL n y)->I=pre++qo f n B k y++post->GB g->g.1+(fb f n B (k+1) y).length<=4000000->Yi n f B r I k y pre.length g
 |0,y,pre,post,g,m,u,l,v,x,C=>UZ o r 0 y I pre post g m u l v b x C (fun _ c s t=>p (c::y) (by omega) (o.step m l s t).1) fun j e=>absurd e (by omega)
 |k+1,y,pre,post,g,m,u,l,v,x,C=>UZ o r (k+1) y I pre post g m u l v b x C (fun e=>absurd e (by omega)) fun j e c q h E s t w A D=>by
  obtain rfl:k=j:=by omega
  exact UY o r I b p k (c::y) q h E (by grind) (o.tcb m u l s t) (o.step m l s t).1 w A D
theorem In:GB (0,fun _=>0):=fun _=>⟨acp _,acp _⟩
theorem Sw (h:pn n f B) (u:1<=n) (e: ∀z,z.length=n->fC f n B 0 (aL n z)->CallC prog 40 [dn (mat n n f),kE z] ⟨[],.raw (.int .i64 (ld n f z))⟩/\I64 (ld n f z)) (q:(qo f n B (n-1) []).length<=4000000) (s:(fb f n B n []).length<=4000000):
  AO prog 2 2 45 [dn (mat n n f),Yb (qo f n B (n-1) [])] (gF (ld n f) (0,fun _=>0) (fb f n B n [])):=by
 have t:=h.n8;have j:fC f n B n (aL n []):=ji h.r.pd h.b0;have c:=fun r=>UY h r (qo f n B (n-1) []) q e (n-1) [] [] [] (0,fun _=>0) (by simp;omega) pA.nil (by grind) (by simp) In (by grind)
 unfold Yi at c;rw[show n-1+1=n by omega]at c;have g:=aU n n f;have o:IntKind.i64.wrap ((n:Int)-1)=((n-1:Nat):Int):=by grind [aR]
 generalize gF (ld n f) (0,fun _=>0) (fb f n B n [])=GT at*
 generalize qo f n B (n-1) []=I at*
 generalize mat n n f=R at*
 clear h j e;refine KG (d:=9) (S1:=⟨(jk::jk::.one (.ptr 2 0 0 0)::.one (.ptr 3 0 0 0)::j16 ([])),Hm [(2,[⟨26,1,[[.p (.sl (ls (fR fI) R))]]⟩]),(3,[⟨76,1,[[.p (.sl (ls fV I))]]⟩])]⟩) func45 rfl (by kernel_rfl) [] [] ?_ ⟨_,rfl,rfl,rfl,rfl⟩ fun r K b=>?_
 ·rw[ntmps45];refine UR (k:=?_);refine⟨rfl,aj ⟨rfl,rfl,trivial⟩ ?_⟩;simp[wk]
 simp(disch:=omega) only[kd,aa,Nat.reduceEqDiff];apply b;clear b K;refine d6 (aH g (aH (WB n) @aaX)) (k:=gD (k:=gD (k:=?_)));refine eD.weak ((we 6 1 (n:=n) rfl).trans ((dK 3 8 (by decide) (by decide)).trans ((dK 7 8 (by decide) (by decide)).trans ((dK 6 8 (by decide) (by decide)).trans ((dK 5 8 (by decide) (by decide)).trans (dK 2 8 (by decide) (by decide))))))) ?_;refine eD.weak (aj (tm:=(jk::jk::.one (.ptr 8 6 0 0)::.one (.ptr 8 1 0 0)::jk::.one (.ptr 8 5 0 0)::.one (.ptr 8 3 0 0)::.one (.ptr 8 2 0 0)::.one (.ptr 8 0 0 0)::j4 (j4 (jk::jk::jk::[])))) (l:=[(8,[⟨131,1,[[.raw .nilFunc]]⟩,⟨76,1,[[.p (.sl (ls fV I))]]⟩,⟨3,1,[[.p (.raw (.int .i64 0))]]⟩,⟨35,1,[[.sl 8 4 0 n]]⟩,⟨2,1,gM n++lc fI []⟩,⟨79,1,[[.p (.raw (.map (some r)))]]⟩,⟨26,1,[[.p (.sl (ls (fR fI) R))]]⟩])]) ⟨?_,trivial⟩ (by simp[wk,mW,fY,pG,aw])) ?_
 ·simp_all[aw,sH,fY,pG,gM,lc]
 refine d6 (aH @jv.eq_1 @lI.eq_1) (k:=?_);have m:=c r;refine bV (iX 4 m 8 [] [] (by kernel_rfl) (by omega) (by decide) fun K b=>?_);simp(disch:=omega) only[kd,aa,g,o];refine b _ ⟨⟨rfl,?_⟩,?_⟩
 ·grind [IQ,aM,Bv]
 clear b K;intro K b;simp(disch:=omega) only[kd,aa,F3,cwD,X5,qW,nE,Nat.reduceBEq,iG];apply b;clear b K;show eD _ _ _ _ _ _ _;refine gD (k:=?_);refine mv ⟨.inr rfl,rfl,_,bD.refl _,?_⟩;simp(disch:=omega) only[kd,results45]
end
end
section
theorem Ek {a:Int} (h:a<=x):rng a x=a::rng (a+1) x:=by
 unfold rng;rw[show(x-a+1).toNat=(x-(a+1)+1).toNat+1 by omega,acL,aaC,abn];rw[show a+((0:Nat):Int)=a by omega];refine congrArg (List.cons a) (aaA fun i _=>?_);grind
theorem vw {a:Int} (h:x<a):rng a x=[]:=by
 grind [rng]
theorem rI (a b:Int):(rng a b).length=(b-a+1).toNat:=by
 simp_all[rng]
def sL (n:Nat) (c:List Int):Int:=dJ (fun i=>c.getD i 0) n
def ctL (g:Int->List Int->Bool×List Int):List Int->List Int->Bool×List Int
 |[],c=>(true,c)
 |x::l,c=>if(g x c).1=true then ctL g l (g x c).2 else(false,(g x c).2)
def Dg (m:Nat) (d:Int) (c:List Int):List Int:=c.set m (c.getD m 0+(d+1))
section
variable (n:Nat) (f:FF) (B bud:Int)
noncomputable def Fb (k:Nat) (y c:List Int) (K:List Int->Bool×List Int):Bool×List Int:=
 if di f n B k (aL n y)<cz f n B k (aL n y)then(true,c)else if bud<=di f n B k (aL n y)-cz f n B k (aL n y)then(false,c)else
 if bud<sL n (Dg y.length (di f n B k (aL n y)-cz f n B k (aL n y)) c)then(false,Dg y.length (di f n B k (aL n y)-cz f n B k (aL n y)) c)else K (Dg y.length (di f n B k (aL n y)-cz f n B k (aL n y)) c)
noncomputable def F5:Nat->List Int->List Int->Bool×List Int
 |0,y,c=>Fb n f B bud 0 y c fun b=>(true,b)
 |k+1,y,c=>Fb n f B bud (k+1) y c fun b=>ctL (fun x=>F5 k (x::y)) (rng (cz f n B (k+1) (aL n y)) (di f n B (k+1) (aL n y))) b
end
section
variable {n:Nat} {f:FF} {B bud:Int}
def CtP (n:Nat) (bud:Int) (c:List Int):Prop:=c.length=n/\(∀i,i<n->0<=c.getD i 0)/\sL n c<=bud
theorem Oo {i:Nat} (e:n<b.length):(b.set n x).getD i 0=if i=n then x else b.getD i 0:=by
 grind
theorem vk {d:Int}:(Dg n d b).length=b.length:=by simp[Dg]
theorem wT {m i:Nat} {d:Int} {c:List Int} (b:m<c.length):(Dg m d c).getD i 0=if i=m then c.getD m 0+(d+1)else c.getD i 0:=Oo b
theorem Ba {m:Nat} {d:Int} (e:b.length=n) (g:m<n):sL n (Dg m d b)=sL n b+(d+1):=by
 grind [sL,vF,wT]
theorem F4 {m:Nat} {d:Int} (e:b.length=n) (l:m<n) (g:0<=d) (h: ∀i,i<n->0<=b.getD i 0): ∀i,i<n->0<=(Dg m d b).getD i 0:=fun i j=>by
 grind [wT]
theorem Y3 (h: ∀i,i<n->0<=b.getD i 0) {i:Nat} (g:i<n):b.getD i 0<=sL n b:=by
 have e:=vF (F:=fun j=>b.getD j 0) (G:=fun j=>if j=i then 0 else b.getD j 0) (i:=i) (m:=n) g fun a _ l=>by omega
 have o:=ng (F:=fun j=>if j=i then 0 else b.getD j 0) n fun a p=>by
  grind
 simp only[if_true]at e;show _<=dJ (fun i=>b.getD i 0) n;omega
theorem NS {g:Int->List Int->Bool×List Int} {m:Int->Nat}: ∀(l:List Int) (c:List Int),(∀x∈l,∀c,CtP n bud c->(g x c).2.length=n/\((g x c).1=true->CtP n bud (g x c).2/\(g x c).2.getD (n-1) 0=c.getD (n-1) 0+(m x:Int)))->CtP n bud c->
  (ctL g l c).2.length=n/\((ctL g l c).1=true->CtP n bud (ctL g l c).2/\(ctL g l c).2.getD (n-1) 0=c.getD (n-1) 0+((l.map m).sum:Nat))
 |[],c,_,b=>⟨b.1,fun _=>⟨b,by simp[ctL]⟩⟩
 |x::l,c,e,b=>by
  obtain⟨q,j⟩:=e x (by simp) c b;rw[ctL];by_cases h:(g x c).1=true
  ·rw[if_pos h];obtain⟨o,r⟩:=j h;obtain⟨s,t⟩:=NS l (g x c).2 (fun z p=>e z (by simp[p])) o;grind
  grind
theorem jZ (k:Nat) (y:List Int):(fb f n B (k+1) y).length=((rng (cz f n B k (aL n y)) (di f n B k (aL n y))).map fun x=>(fb f n B k (x::y)).length).sum:=by
 simp_all[fb]
theorem NR {k:Nat} {c:List Int} {K:List Int->Bool×List Int} (q:b.length+(k+1)=n) (e:CtP n bud c) {M:Nat} (p:di f n B k (aL n b)<cz f n B k (aL n b)->M=0) (o:cz f n B k (aL n b)<=di f n B k (aL n b)-> ∀g,CtP n bud g->g=Dg b.length (di f n B k (aL n b)-cz f n B k (aL n b)) c->(K g).2.length=n/\((K g).1=true->CtP n bud (K g).2/\(K g).2.getD (n-1) 0=c.getD (n-1) 0+(M:Int))):
  (Fb n f B bud k b c K).2.length=n/\((Fb n f B bud k b c K).1=true->CtP n bud (Fb n f B bud k b c K).2/\(Fb n f B bud k b c K).2.getD (n-1) 0=c.getD (n-1) 0+(M:Int)):=by
 unfold Fb;by_cases j:di f n B k (aL n b)<cz f n B k (aL n b)
 ·rw[if_pos j];exact⟨e.1,fun _=>⟨e,by grind⟩⟩
 rw[if_neg j];by_cases l:bud<=di f n B k (aL n b)-cz f n B k (aL n b)
 ·rw[if_pos l];exact⟨e.1,fun h=>by cases h⟩
 rw[if_neg l];by_cases m:bud<sL n (Dg b.length (di f n B k (aL n b)-cz f n B k (aL n b)) c)
 ·rw[if_pos m];exact⟨by rw[vk];exact e.1,fun h=>by cases h⟩
 rw[if_neg m];exact o (by omega) _ ⟨by rw[vk];exact e.1,F4 e.1 (by omega) (by omega) e.2.1,by omega⟩ rfl
theorem vJ {b:Type} (l:List b):(l.map fun _=>1).sum=l.length:=by
 induction l with
 |nil=>rfl
 |cons x l c=>grind
theorem wU: ∀(k:Nat) (y c:List Int),y.length+(k+1)=n->CtP n bud c->
  (F5 n f B bud k y c).2.length=n/\((F5 n f B bud k y c).1=true->CtP n bud (F5 n f B bud k y c).2/\(F5 n f B bud k y c).2.getD (n-1) 0=c.getD (n-1) 0+((fb f n B (k+1) y).length:Int))
 |0,y,c,q,j=>by
  have e:(fb f n B 1 y).length=(di f n B 0 (aL n y)-cz f n B 0 (aL n y)+1).toNat:=by
   grind [jZ,fb,vJ,rI]
  rw[show F5 n f B bud 0 y c=Fb n f B bud 0 y c fun b=>(true,b)from rfl];refine NR q j (fun h=>by grind) fun r b l o=>⟨l.1,fun _=>⟨l,?_⟩⟩
  show b.getD (n-1) 0=_;rw[o,wT (by rw[j.1];omega),if_pos (by omega),e,show y.length=n-1 by omega];omega
 |k+1,y,c,q,j=>by
  rw[show F5 n f B bud (k+1) y c=Fb n f B bud (k+1) y c fun b=>ctL (fun x=>F5 n f B bud k (x::y)) (rng (cz f n B (k+1) (aL n y)) (di f n B (k+1) (aL n y))) b from rfl];refine NR q j (fun h=>by rw[jZ,vw h];rfl) fun r b l o=>?_
  have p:=NS (n:=n) (bud:=bud) (g:=fun x=>F5 n f B bud k (x::y)) (m:=fun x=>(fb f n B (k+1) (x::y)).length) (rng (cz f n B (k+1) (aL n y)) (di f n B (k+1) (aL n y))) b
   (fun x _ c j=>wU k (x::y) c (by grind) j) l
  refine⟨p.1,fun s=>⟨(p.2 s).1,?_⟩⟩;rw[(p.2 s).2,o,wT (by rw[j.1];omega),if_neg (by omega),jZ]
end
end
end Go.Proofs.YtalmoejhjceflaaGreat
