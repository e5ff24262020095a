/-
  Part 30 of a proof (walks and plain facts).
-/
import Derived.Test.YtalmoejhjceflaaGreatV28
import Derived.Maps.OwnOps
import Derived.Maps.Views
set_option linter.all false
set_option maxRecDepth 100000
set_option maxHeartbeats 64000000
open Nat renaming reduceAdd → aa
open List renaming replicate → af
open Nat renaming reduceBEq → ag
namespace Go.Proofs.YtalmoejhjceflaaGreat
open Go.RowKit Go.Proofs.Tryz
variable {b:Array Oper} {c:List Int} {n:Nat} {x:Int} {e:Code} {f:FuncId} {s:AS} {g:Oper}
section
noncomputable def uz (f:FF) (n:Nat) (B:Int):Nat->List Int->List (Int×Int)
 |0,y=>[(cu f n B 0 (aL n y),dy f n B 0 (aL n y))]
 |k+1,y=>(cu f n B (k+1) (aL n y),dy f n B (k+1) (aL n y))::(rng (cu f n B (k+1) (aL n y)) (dy f n B (k+1) (aL n y))).flatMap fun c=>uz f n B k (c::y)
abbrev Km (a n m:Nat) (y D:List Int) (M:List (List Int)) (acc:List (Int×Int)):List OObj:=[⟨190,1,[[.fn 146 a [(1,0,0),(2,0,0),(4,0,0),(0,0,0)]]]⟩,⟨188,2,[[.p (.sl (ls fI D)),.p (.sl (ls (fR fI) M))]]⟩,⟨35,1,[[.sl a 3 0 n]]⟩,⟨2,1,jo m++lc fI y⟩,⟨76,1,[[.sl a 5 0 acc.length]]⟩,⟨133,2,lc fV acc⟩]
theorem On (a d n m:Nat) (y D:List Int) (M:List (List Int)) (acc:List (Int×Int)):(Km a n m y D M acc).map (renO d)=Km d n m y D M acc:=by
 simp only[Km,aeX,afh,renO,dA,jh,afv,j5,ah0,afq,if_false]
theorem Is (a n m:Nat) (y D:List Int) (M:List (List Int)) (acc:List (Int×Int)): ∀o∈Km a n m y D M acc,selfO a o:=fun o f e b x c=>by
 simp only[afn,afx,or_false]at f;rcases f with rfl|rfl|rfl|rfl|rfl|rfl
 ·simp only[aeK]at b;subst b;simp only[aeK]at c;subst c;exact⟨rfl,by simp⟩
 ·simp only[aeK]at b;subst b;simp only[afn,afx,or_false]at c;rcases c with rfl|rfl<;>trivial
 ·simp only[aeK]at b;subst b;simp only[aeK]at c;subst c;rfl
 ·simp only[afD]at b;rcases b with b|b
  ·obtain⟨_,rfl⟩:=agM.1 b;simp only[aeK]at c;subst c;trivial
  exact dj (bF 2 1 _ e b x c)
 ·simp only[aeK]at b;subst b;simp only[aeK]at c;subst c;rfl
 exact dj (bF 133 2 _ e b x c)
abbrev emP:List (Nat×Nat):=[(1,2),(2,3),(4,4),(0,5)]
theorem aca (a n m f:Nat) (y g D:List Int) (M:List (List Int)) (acc b:List (Int×Int)): ∀r∈emP.map Prod.fst,∀o,(Km a n m y D M acc)[r]?=some o-> ∃c,(Km a n f g D M b)[r]?=some c/\c.es=o.es/\o.elems.length<=c.elems.length:=fun r e o h=>by
 simp only[emP,aeX,afh,afn,afx,or_false]at e;grind
abbrev emA (k:Nat) (b:Int):List TV:=[.raw (.int .i64 (k:Int)),.raw (.int .i64 b),.one (.ptr 0 1 0 0),.one (.ptr 0 2 0 0),.one (.ptr 0 4 0 0),.one (.ptr 0 0 0 0)]
abbrev EmC (n:Nat) (f:FF) (B:Int) (k:Nat) (y:List Int) (acc:List (Int×Int)):Prop:=
 lZ prog VI (emP.map Prod.fst) 146 (emA k (uk f n B (k+1) (aL n y))) (Km 0 n (k+1) y (aA (n+1) (dk f)) (gX n f n) acc) (Km 0 n (k+1) y (aA (n+1) (dk f)) (gX n f n) (acc++uz f n B k y)) () () (.tup [])
theorem Ti {m:Nat} {D:List Int} {M:List (List Int)} {acc:List (Int×Int)} (b:s.H 0=Km 0 n m (x::c) D M acc):bN s ⟨s.tmps,aK s.H 0 (Km 0 n (m+1) c D M acc)⟩:=by
 have h:=pi (s:=s) 0 3 (o:=⟨2,1,jo m++lc fI (x::c)⟩) (o':=⟨2,1,jo (m+1)++lc fI c⟩) (by rw[b];rfl) rfl rfl (by simp only[lT,ae6];omega) fun i e f=>by
  rw[<- q9 m x c];grind [jo]
 grind
theorem U2 (m:Nat) (y:List Int) (b:Nat->Nat->Bool):List.map (List.map (aY b)) (jo m++lc fI y)=jo m++lc fI y:=by
 simp_all[zp,jo,aY]
structure EmG (lo hi:Int) (h:Int->List (Int×Int)) (T:List (Int×Int)) where
 x:Int
 acc:List (Int×Int)
 h1:lo<=x
 e:acc++(rng x hi).flatMap h=T
section
variable {n:Nat} {f:FF} {B:Int}
theorem Uy (q:qH n f B) (k:Nat) (y:List Int) (acc:List (Int×Int)) (Q:y.length+(k+1)=n) (hT:tn y) (I:fq f n B (k+1) (aL n y)) (g:(acc++uz f n B k y).length<=2000000)
  (U: ∀j,k=j+1-> ∀c w,cu f n B k (aL n y)<=c->c<=dy f n B k (aL n y)->(w++uz f n B j (c::y)).length<=2000000->EmC n f B j (c::y) w):EmC n f B k y acc:=by
 have br:=q.n8;have bn:=q.d (k:=k) (by omega);have N:=q.d (k:=k+1) (by omega);have ah:=aw (dk f) (show k<n+1 by omega);have ai:=aw (dk f) (show k+1<n+1 by omega);have bl:=az (n+1) (dk f);have X:=q.shP_c Q hT (aeJ _);have A:=sN f Q;have bt:=q.rs0 (k:=k+1) (by omega) I;have t:=q.sq (k:=k) (by omega) I;have a6:=q.lohi Q hT I;have ba:=aal (m:=y.length+1) (by omega);have bw:=qY t.1 t.2;have cR:=BW (.inr (.inr rfl)) _ t.1 t.2;have cS:=fun xs h1 h2=>Z8 q k y xs Q hT h1 h2
 have a9:=fun c=>q.step Q (c:=c) I
 have Y:dk f k*uk f n B (k+1) (aL n y)=gE f n B k (aL n y):=rfl;rw[A]at X;have S:cu f n B k (aL n y)=0-(isqF (gE f n B k (aL n y))+jU f n k (aL n y))/dk f (k+1):=by grind [cu]
 have P:dy f n B k (aL n y)=(isqF (gE f n B k (aL n y))-jU f n k (aL n y))/dk f (k+1):=rfl;have ad:=r7 (.inr (.inr rfl)) (isqF (gE f n B k (aL n y))+jU f n k (aL n y)) (dk f (k+1)) N.1 (by omega) (by omega) (by omega);have ae:=r7 (.inr (.inr rfl)) (isqF (gE f n B k (aL n y))-jU f n k (aL n y)) (dk f (k+1)) N.1 (by omega) (by omega) (by omega);have e1:IntKind.i64.wrap ((k:Int)+1)=((k+1:Nat):Int):=aH (by omega) (by omega);have hS: ∃h:Int->List (Int×Int),uz f n B k y=(cu f n B k (aL n y),dy f n B k (aL n y))::(if k=0 then[]else(rng (cu f n B k (aL n y)) (dy f n B k (aL n y))).flatMap h)/\ ∀j,k=j+1-> ∀c,h c=uz f n B j (c::y):=by
  cases k with
  |zero=>exact⟨fun _=>[],rfl,fun j e=>absurd e (by omega)⟩
  |succ j=>
   refine⟨_,rfl,fun j' e c=>?_⟩;grind
 obtain⟨h,hS,a2⟩:=hS;have V: ∀c,fq f n B k (aL n (c::y))->0<=uk f n B k (aL n (c::y))/\uk f n B k (aL n (c::y))<=70368744177664:=fun c h=>q.rs0 (by omega) h
 clear q I hT A;unfold EmC at*
 rw[hS]at g⊢;clear hS;generalize cu f n B k (aL n y)=u at*
 generalize dy f n B k (aL n y)=b at*
 generalize gE f n B k (aL n y)=sq at*
 generalize uk f n B (k+1) (aL n y)=ab at*
 generalize isqF sq=rt at*
 generalize aA (n+1) (dk f)=D at*
 generalize gX n f n=M at*
 generalize dk f (k+1)=d1 at*
 generalize dk f k=d0 at*
 generalize jU f n k (aL n y)=s at*
 have bq: -46911780290560<=u/\u<=46911780290560:=by omega
 have bp: -46911780290560<=b/\b<=46911780290560:=by omega
 clear a6 ba;have bh:(d1=0)=False:=eq_false (by omega);have L:acc.length+1<=2000000:=by
  grind
 refine qQ func146 rfl (by kernel_rfl) emP (by simp) (by simp[selfTV,bJ]) (by simp[selfTV]) (Is 0 _ _ _ _ _ _) (Is 0 _ _ _ _ _ _) (aca 0 _ _ _ _ _ _ _ _ _) ?_;rw[ntmps146];refine eF.weak (ak (tm:=(.raw (.int .i64 (k:Int))::.raw (.int .i64 ab)::.one (.ptr 0 1 0 0)::.one (.ptr 0 2 0 0)::.one (.ptr 0 4 0 0)::.one (.ptr 0 0 0 0)::j16 (j16 (j16 (j16 (j4 (j4 (jk::[])))))))) (l:=[(0,Km 0 n (k+1) y D M acc)]) ⟨rfl,trivial⟩ (by simp[wk,af])) ?_;refine aR (Df bZ 8 0 24 3 (k+1) 2 (lc fI y) (.raw (.int .i64 s)) (f:=147) (ts:=[.one (.ptr 0 1 0 0),.raw (.int .i64 (k:Int)),.one (.sl 0 3 0 n)]) [] [] (by kernel_rfl) (by kernel_rfl) rfl (by decide) fun K z=>?_);simp(disch:=omega) only[kd,aa,e1,ai];refine z _ ⟨rfl,rfl,rfl,?_,?_⟩
 ·intro vs bb;refine⟨_,_,cS (vs.map (fun v=>[PV.raw v])++ls fI y) (by grind [iM]) (fun i b=>?_),⟨rfl,by simp⟩,⟨.inr (.inr ⟨1,0,0,_,_,rfl,rfl,rfl,by simp[isPure],rfl⟩),.inl ⟨rfl,rfl⟩,.inr (.inl ⟨3,0,n,_,rfl,rfl,?_,?_⟩),trivial⟩,fun H hH=>⟨fun r o ho=>by rw[hH]at ho;simp at ho,rfl⟩⟩
  ·rw[afs (by rw[ae3];omega),ae3,bb,show k+1+i-(k+1)=i by omega,kN,aeR b,aeM,aeR b];rfl
  ·intro e p x C;simp only[afD,aeL]at p;rcases p with⟨v,_,rfl⟩|p
   ·simp only[aeK]at C;subst C;rfl
   exact bF 2 1 y e p x C
  rw[afm,agx,aeS (by grind [fO]),afv,nG,aga];rfl
 clear z K;intro K z;simp only[kd,aa];apply z;clear z K cS;show eF _ _ _ _ _ _ _;refine dh (aG ah Y) (k:=Ak [⟨1,_,_,_,cR⟩] (k:=?_));refine ox [⟨4,_,_,_,ad⟩,⟨10,_,_,_,ae⟩] [] (by kernel_rfl) fun _ K=>?_;simp(disch:=omega) only[kd,<- P,aa,aH,<- S,ag];apply K
 have R: ∀κ,List.map (List.map (aY κ)) (jo (k+1)++lc fI y)=jo (k+1)++lc fI y:=U2 (k+1) y;refine dh (aG (@List.any_cons.{0}) (aG (@List.any_nil.{0}) R)) (k:=?_);clear R;generalize E:acc++[(u,b)]=F at*
 refine eF.weak (ak (tm:=(.raw (.int .i64 (k:Int))::jk::.one (.ptr 0 1 0 0)::.one (.ptr 0 2 0 0)::.one (.ptr 0 4 0 0)::.one (.ptr 0 0 0 0)::jk::jk::.raw (.int .i64 d1)::.raw (.int .i64 s)::.raw (.int .i64 sq)::jk::.raw (.int .i64 u)::.raw (.int .i64 b)::j16 (j16 (j16 (j16 (jk::[])))))) (l:=[(0,Km 0 n (k+1) y D M F)]) ⟨?_,trivial⟩ (by simp[wk])) ?_
 ·subst E;simp only[be,Km,afg,ae6,afP,afm,<- LA];rfl
 have bc:F.length<=2000000:=by rw[<- E,afg];exact L
 rw[show acc++(u,b)::(if k=0 then[]else(rng u b).flatMap h)=F++(if k=0 then[]else(rng u b).flatMap h) by rw[<- E,ae8];rfl]at g⊢;cases k with
 |zero=>
  have a4:(((0:Nat):Int)=0)=True:=eq_true rfl;refine aR (dh a4 (k:=d8 rfl (dX ?_)));rw[if_pos rfl,afz];refine⟨.inr rfl,rfl,_,ak (tm:=(jk::jk::.one (.ptr 0 1 0 0)::.one (.ptr 0 2 0 0)::.one (.ptr 0 4 0 0)::.one (.ptr 0 0 0 0)::j16 (j16 (j16 (j16 (j4 (j4 (jk::[])))))))) (l:=[(0,Km 0 n (0+1) y D M F)]) ⟨rfl,trivial⟩ (by simp[wk]),⟨eZ _,rfl⟩,by simp⟩
 |succ j=>
  rw[if_neg (by omega)]at g⊢;have a5:(((j+1:Nat):Int)=0)=False:=eq_false (by omega);have e4:IntKind.i64.wrap (((j+1:Nat):Int)-1)=(j:Int):=by grind [aH]
  refine aR (dh a5 (k:=dO rfl (cb (bU (k:=?_)))));generalize ap:F++(rng u b).flatMap h=T at*
  refine dT (G:=EmG u b h T) (fun v=>⟨(.raw (.int .i64 ((j+1:Nat):Int))::jk::.one (.ptr 0 1 0 0)::.one (.ptr 0 2 0 0)::.one (.ptr 0 4 0 0)::.one (.ptr 0 0 0 0)::jk::jk::.raw (.int .i64 d1)::.raw (.int .i64 s)::.raw (.int .i64 sq)::jk::jk::.raw (.int .i64 b)::.raw (.int .i64 v.x)::j16 (j16 (j16 (j16 ([]))))),Hm [(0,Km 0 n (j+1+1) y D M v.acc)]⟩) (fun _=>()) (fun v=>(b+1-v.x).toNat) ⟨_,F,afY _,ap⟩ ?_ rfl ?_
  ·refine ak ⟨rfl,trivial⟩ ?_;simp[wk]
  rintro⟨x,ac,Z,p⟩;simp only;by_cases C:x<=b
  ·obtain⟨an,hq⟩:=a9 x Z C;have a8:=V x an;rw[jM C,agQ,<- ae8]at p;have J:(ac++h x).length<=2000000:=by
    rw[<- p,afg]at g;omega
   have bH:(d1*x).natAbs<=65535*46911780290560:=by
    rw[afr];exact afd (by omega) (by omega)
   have a3:=a2 j rfl x;rw[a3]at J p;have cV:=U j rfl x ac Z C J;generalize uk f n B (j+1) (aL n (x::y))=rx at*
   generalize uz f n B j (x::y)=W at*
   have a7:0<=d1*rx:=aeQ (by omega) a8.1;have O:Int.tdiv (sq-(d1*x+s)*(d1*x+s)) d1=rx:=by rw[hq];exact ahn _ (by omega)
   have bx:0<=(d1*x+s)*(d1*x+s):=by
    rcases afF 0 (d1*x+s)with h|h
    ·exact aeQ h h
    exact ae9 h h
   have bm:=lT (j+1+1) y;have a0:=q9 (j+1) x y;have av:(jo (j+1+1)++lc fI y)[j+1]?=some [.junk]:=by
    rw[aff (by simp[jo])];simp[jo]
   refine aR (bU (k:=d8 rfl (cb (aR (cQ (dh (aG av a0) (k:=bU (k:=?_))))))));generalize hU:(d1*x+s)*(d1*x+s)=uu at*
   refine qK bZ cV 0 [] [] (by kernel_rfl) (by omega) (by kernel_rfl) fun K z=>?_
   simp(disch:=omega) only[kd,afT,aa,Nat.reduceSub,e4,hU,aH,O];refine z _ ⟨⟨rfl,?_⟩,?_⟩
   ·exact(On 0 0 _ _ _ _ _ _).symm
   clear z K;show eF _ _ _ _ _ _ _;refine wV (by kernel_rfl) fun _ K=>?_;simp(disch:=omega) only[kd,aa,CO,cwD,afT,Nat.reduceSub,emP,qy,oJ,ag,afv,j5,aH];apply K
   refine⟨⟨x+1,ac++W,by omega,p⟩,by simp only;omega,(Ti rfl).trans (ak ⟨rfl,trivial⟩ ?_),trivial⟩;simp[wk]
  rw[lP C,agJ,afz]at p;subst p;refine aR (bU (k:=dO rfl (gV ?_)));show _/\_;refine⟨.inl rfl,trivial,_,ak (tm:=(jk::jk::.one (.ptr 0 1 0 0)::.one (.ptr 0 2 0 0)::.one (.ptr 0 4 0 0)::.one (.ptr 0 0 0 0)::j16 (j16 (j16 (j16 (j4 (j4 (jk::[])))))))) (l:=[(0,Km 0 n (j+1+1) y D M ac)]) ⟨rfl,trivial⟩ (by simp[wk]),⟨eZ _,rfl⟩,by simp⟩
end
end
def VB (h B:Int) (ex:Bool) (x:Int):List (List Int):=if(!ex||decide (h*x*x=B))=true then[[x]]else[]
structure MuG (r:Int) (g:Int->List (List Int)) (T:List (List Int)) where
 x:Int
 acc:List (List Int)
 h1:1<=x
 h2:x<=r+1
 e:acc++(rng x r).flatMap g=T
theorem acz {h B x:Int} (c:0<h) (b:0<=B) (f:1<=x):h*x*x<=B↔x<=isqF (B/h):=by
 have e:0<=B/h:=af9 b (by omega);rw[show h*x*x=x*x*h by grind,<- agH c,vn (dU e)];omega
theorem acA (h B:Int) (ex:Bool) (L:0<h) (z:h<=10000) (y:0<=B) (H:B<=4611686018427387904) (E:((rng 1 (isqF (B/h))).flatMap (VB h B ex)).length<=1000000):
  CallC prog 137 [.raw (.int .i64 h),.raw (.int .i64 B),.raw (.bool ex)] ⟨[],bV ((rng 1 (isqF (B/h))).flatMap (VB h B ex))⟩:=by
 have N:0<=B/h:=af9 y (by omega);have O:B/h<=B:=ahh _ y;have V:=qY N (by omega);have f:=fun x (l:1<=x)=>acz (x:=x) L y l
 have n: ∀x,1<=x->x<=2147483649->h*x<=21474836490000/\0<=h*x:=fun x H I=>by
  have:=ae0 z I (by omega) (by omega);exact⟨by omega,aeQ (by omega) (by omega)⟩
 have o: ∀x,1<=x->x<=isqF (B/h)+1->0<=h*x*x/\h*x*x<=4611800000000000000:=fun x P W=>by
  obtain⟨F,C⟩:=n x P (by omega);refine⟨aeQ C (by omega),?_⟩;by_cases l:x<=isqF (B/h)
  ·grind
  by_cases e:x=1
  ·grind
  have S:=(f (x-1) (by omega)).2 (by omega);grind
 generalize J:(rng 1 (isqF (B/h))).flatMap (VB h B ex)=T at*
 generalize isqF (B/h)=r at*
 refine aB func137 rfl ntmps137 (aE (k:=aZ (k:=aj (aZ (k:=?_)))));refine ay (G:=MuG r (VB h B ex) T) (fun g=>⟨(.raw (.int .i64 h)::.raw (.int .i64 B)::.raw (.bool ex)::j4 (.one (.sl 33 0 0 g.acc.length)::.raw (.int .i64 g.x)::j16 (j4 (j4 (jk::jk::[]))))),Hm [(33,[⟨35,1,lc (fR fI) g.acc⟩])]⟩) (fun g=>(r+1-g.x).toNat) ⟨1,[],by omega,by omega,by rw[afQ];exact J⟩ ?_ ?_
 ·refine(ca (k:=7) (d:=33) 35 1 (by omega) rfl rfl).trans (ak ⟨rfl,trivial⟩ ?_);simp[wk]
 rintro⟨x,acc,e,A,b⟩;simp only;obtain⟨F,C⟩:=n x e (by omega);obtain⟨Q,R⟩:=o x e A;have D:=f x e;by_cases l:x<=r
 ·have M:=D.2 l;rw[jM l,agQ,<- ae8]at b;have c:(acc++VB h B ex x).length<=1000000:=by
   grind
  rw[show VB h B ex x=if(!ex||decide (h*x*x=B))=true then[[x]]else[]from rfl]at b c;generalize U:VB h B ex=G at*
  generalize s:h*x=u at*
  generalize t:u*x=w at*
  refine aj (aF (aG s t) (k:=aC rfl (al (aj (ao ?_)))));have q:lc (fR fI) acc++[[AV.p (.sl [[.raw (.int .i64 x)]])]]=lc (fR fI) (acc++[[x]]):=i7 acc [x];cases ex with
  |false=>
   simp only[Bool.not_false,Bool.true_or,if_true]at b c;have m:acc.length+1<=1000000:=by grind
   refine ax (k:=aC rfl (dz q (k:=bK (k:=?_))));refine⟨⟨x+1,acc++[[x]],by omega,by omega,b⟩,by grind,ak ⟨rfl,trivial⟩ ?_⟩;simp[wk]
  |true=>
   simp only[Bool.not_true,Bool.false_or,decide_eq_true_eq]at b c;by_cases v:w=B
   ·have j:(w=B)=True:=eq_true v;rw[if_pos v]at b c;have m:acc.length+1<=1000000:=by grind
    refine aF (aG s (aG t j)) (k:=aC rfl (dz q (k:=bK (k:=?_))));refine⟨⟨x+1,acc++[[x]],by omega,by omega,b⟩,by grind,ak ⟨rfl,trivial⟩ ?_⟩;simp[wk]
   have j:(w=B)=False:=eq_false v;rw[if_neg v,afz]at b;refine aF (aG s (aG t j)) (k:=aq rfl (al (bK (k:=?_))));refine⟨⟨x+1,acc,by omega,by omega,b⟩,by grind,ak ⟨rfl,trivial⟩ ?_⟩;simp[wk]
 have K: ¬h*x*x<=B:=fun k=>l (D.1 k)
 rw[lP l,agJ,afz]at b;subst b;generalize s:h*x=u at*
 generalize t:u*x=w at*
 refine aj (aF (aG s t) (k:=aq rfl (aT (aZ (k:=?_)))));refine aM ⟨.inr rfl,dI 33 (bj rfl) ?_ rfl⟩;simp(disch:=omega) only[kd,results137,bV]
 simp
theorem uJ {P:Program} {Q:Exit->AS->Prop} (h:eF P VI [] e (fun b s _=>Q b s) s ()):bv P e Q s:=fun m O X a w r=>
 wp_mono (h (fun _=>none) (fun _=>True) m O X a w ⟨vS.2 r,fun _ j=>by simp at j⟩) fun _ _ _ ⟨l,_,f,g⟩=>⟨l,f,g.1.1⟩
section
section
variable {n:Nat} {f:FF} {B:Int}
theorem qH.tcb (h:qH n f B) {k:Nat} (g:c.length+(k+1)=n) (b:tn c) (e:fq f n B (k+1) (aL n c)) (j:cu f n B k (aL n c)<=x) (l:x<=dy f n B k (aL n c)):tn (x::c):=by
 have:=h.lohi g b e;exact b.cons (by omega)
theorem Ux (l:qH n f B): ∀(k:Nat) (y:List Int) (acc:List (Int×Int)),y.length+(k+1)=n->tn y->fq f n B (k+1) (aL n y)->(acc++uz f n B k y).length<=2000000->EmC n f B k y acc
 |0,y,acc,h,m,g,o=>Uy l 0 y acc h m g o fun j e=>absurd e (by omega)
 |k+1,y,acc,h,m,g,o=>Uy l (k+1) y acc h m g o fun j e c b p q r=>by
  obtain rfl:k=j:=by omega
  exact Ux l k (c::y) b (by grind) (l.tcb h m g p q) (l.step h g p q).1 r
theorem aao (h: ∀x∈c,x=0) (i:Nat):c.getD i 0=0:=by
 rw[aeM];cases b:c[i]? with
 |none=>rfl
 |some x=>exact h x (adQ b)
theorem sk (j:qH n f B) {k:Nat} (o:c.length+(k+1)=n) (l:fq f n B (k+1) (aL n c)) (h: ∀x∈c,x=0):cu f n B k (aL n c)<=0:=by
 have g:yG f k c c.length=0:=by
  unfold yG;have: ∀m,smF (fun b=>bk f k k (k+(b+1))*c.getD b 0) m=0:=fun m=>by
   induction m with
   |zero=>rfl
   |succ m r=>
    grind [smF,aao]
  exact this _
 rw[sN f o]at g;have e:=j.sq (k:=k) (by omega) l;have q:=qY e.1 e.2;have p:=j.d (k:=k+1) (by omega);unfold cu;rw[g];have:=af9 (a:=isqF (gE f n B k (aL n c))+0) (b:=dk f (k+1)) (by omega) (by omega);omega
theorem JA (h:qH n f B) (ex:Bool): ∀(k:Nat) (y:List Int) (z:Bool) (acc:List (List Int)),y.length+(k+1)=n->tn y->fq f n B (k+1) (aL n y)->(z=true-> ∀x∈y,x=0)->(acc++CP f n B ex k y z).length<=1000000->SrC n f B ex k y z acc
 |0,y,z,acc,g,m,b,p,o=>JB h 0 y z acc g m b (fun e=>sk h g b (p e)) o fun j e=>absurd e (by omega)
 |k+1,y,z,acc,g,m,b,p,o=>JB h (k+1) y z acc g m b (fun e=>sk h g b (p e)) o fun j e c l q r _ s=>by
  obtain rfl:k=j:=by omega
  exact JA h ex k (c::y) (z&&decide (c=0)) l (by grind) (h.tcb g m b q r) (h.step g b q r).1 (fun e=>by
   grind) s
theorem Ac (b r:Nat) {c:TypeId} {n:Nat} (e:(s.H b)[r]?=some ⟨c,1,lc fI (af n 0)⟩):bN s ⟨s.tmps,aK s.H b ((s.H b).set r ⟨c,1,jo n++lc fI []⟩)⟩:=
 pi b r (o':=⟨c,1,jo n++lc fI []⟩) e rfl rfl (by simp_all[jo,lc]) fun i g h=>by
  grind [jo,Bf,fI]
theorem Y5 (b:qH n f B) (v:SR n f) (z:2<=n) (C:(uz f n B (n-1) []).length<=2000000):CallC prog 94 [bV (mat n n f),.raw (.int .i64 B)] ⟨[],slV (uz f n B (n-1) [])⟩:=by
 have y:=b.n8;have h:fq f n B n (aL n []):=gN b.r.pd b.b0;have e:=Ux b (n-1) [] [] (by simp;omega) tn.nil (by grind) (by grind);unfold EmC at e;rw[show n-1+1=n by omega,Mk b]at e;simp only[afQ]at e;have A:=b.d (k:=n) (aeJ n);have c:=b.b0;have j:=b.b1;have t:0<=dk f n*B:=aeQ (by omega) c;have u:dk f n*B<=65536*1073741824:=ae0 (by omega) j c (by omega);have cN:=OW (.inr rfl) v;have m:=aS n n f;have g:=aw (dk f) (show n<n+1 by omega);have x:=az (n+1) (dk f);have o:((n:Int)=1)=False:=eq_false (by omega);have w:IntKind.i64.wrap ((n:Int)-1)=((n-1:Nat):Int):=by grind [aH]
 unfold fmT at cN;generalize mat n n f=R at*
 generalize aA (n+1) (dk f)=D at*
 generalize gX n f n=M at*
 generalize dk f n=d at*
 generalize q:d*B=F at*
 generalize uz f n B (n-1) []=E at*
 clear b h v;refine aB func94 rfl ntmps94 (aE (k:=d9 m (k:=aj (d9 o (k:=aq rfl (al (bD [⟨1,_,_,_,cN⟩] (k:=aF (aG (fI0 n) @afc) (k:=ax (k:=ax (k:=?_)))))))))));refine bv.weak ((ib 9 0 0 0 133 2 (by omega) rfl rfl rfl).trans ((Ac 8 1 (n:=n) rfl).trans ((fw 7 10 (by decide) (by decide)).trans ((fw 8 10 (by decide) (by decide)).trans (fw 9 10 (by decide) (by decide)))))) ?_;refine bv.weak (ak (tm:=(jk::.raw (.int .i64 B)::jk::jk::jk::rN n::jk::.one (.ptr 10 1 0 0)::.one (.ptr 10 2 0 0)::.one (.ptr 10 4 0 0)::.one (.ptr 10 0 0 0)::j16 (j16 (jk::jk::[])))) (l:=[(10,[⟨190,1,[[.raw .nilFunc]]⟩,⟨188,2,[[.p (.sl (ls fI D)),.p (.sl (ls (fR fI) M))]]⟩,⟨35,1,[[.sl 10 3 0 n]]⟩,⟨2,1,jo n++lc fI []⟩,⟨76,1,[[.sl 10 5 0 0]]⟩,⟨133,2,lc fV []⟩])]) ⟨?_,trivial⟩ (by simp[wk,oc,iD,tH,aK])) ?_
 ·simp[aK,BC,iD,tH,zH];exact⟨by simp[jo,lc,iD],rfl⟩
 refine aF (aG @lB.eq_1 @od.eq_1) (k:=aj (uJ (qK bZ e 10 [] [] (by kernel_rfl) (by omega) (by kernel_rfl) fun K s=>?_)));simp(disch:=omega) only[kd,afT,aa,Nat.reduceSub,w,g,q,aH];refine s _ ⟨⟨rfl,?_⟩,?_⟩
 ·grind [On,be,Fy]
 clear s K;show bv _ _ _ _;refine am fun _ K=>?_;simp(disch:=omega) only[kd,CO,cwD,afT,aa,Nat.reduceSub,emP,qy,oJ,ag,j5];apply K
 refine aM ⟨.inr rfl,_,Ab 10 5 (o0:=⟨133,2,lc fV E⟩) rfl (bF _ _ _),oW (d:=1000) rfl ?_ rfl⟩;simp(disch:=omega) only[kd,results94,Ox,j2,Nat.reduceEqDiff,reduceCtorEq]
 simp
theorem YK (b:qH n f B) (v:SR n f) (ex:Bool) (C:2<=n) (G:(CP f n B ex (n-1) [] true).length<=1000000):CallC prog 90 [bV (mat n n f),.raw (.int .i64 B),.raw (.bool ex)] ⟨[],bV (CP f n B ex (n-1) [] true)⟩:=by
 have z:=b.n8;have j:fq f n B n (aL n []):=gN b.r.pd b.b0;have g:=JA b ex (n-1) [] true [] (by simp;omega) tn.nil (by grind) (fun _ x A=>by simp at A) (by grind);unfold SrC at g;rw[show n-1+1=n by omega,Mk b]at g;simp only[afQ]at g;have F:=b.d (k:=n) (aeJ n);have c:=b.b0;have m:=b.b1;have t:0<=dk f n*B:=aeQ (by omega) c;have u:dk f n*B<=65536*1073741824:=ae0 (by omega) m c (by omega);have cN:=OW (.inl rfl) v;have e:=aS n n f;have h:=aw (dk f) (show n<n+1 by omega);have y:=az (n+1) (dk f);have o:((n:Int)=1)=False:=eq_false (by omega);have w:IntKind.i64.wrap ((n:Int)-1)=((n-1:Nat):Int):=by grind [aH]
 unfold fmT at cN;generalize mat n n f=R at*
 generalize aA (n+1) (dk f)=D at*
 generalize gX n f n=M at*
 generalize dk f n=d at*
 generalize q:d*B=H at*
 generalize CP f n B ex (n-1) [] true=E at*
 clear b j v;refine aB func90 rfl ntmps90 (aE (k:=aj (d9 (aG e o) (k:=aq rfl (al (d9 e (k:=bD [⟨1,_,_,_,cN⟩] (k:=aF (aG (fI0 n) @afc) (k:=ax (k:=ax (k:=?_)))))))))));refine bv.weak ((ib 10 0 0 0 35 1 (by omega) rfl rfl rfl).trans ((Ac 9 1 (n:=n) rfl).trans ((fw 8 11 (by decide) (by decide)).trans ((fw 9 11 (by decide) (by decide)).trans ((fw 10 11 (by decide) (by decide)).trans (fw 5 11 (by decide) (by decide))))))) ?_;refine bv.weak (ak (tm:=(jk::.raw (.int .i64 B)::jk::jk::jk::.one (.ptr 11 6 0 0)::jk::rN n::.one (.ptr 11 1 0 0)::.one (.ptr 11 2 0 0)::.one (.ptr 11 4 0 0)::.one (.ptr 11 0 0 0)::j16 (j4 (j4 (j4 (jk::jk::[])))))) (l:=[(11,[⟨182,1,[[.raw .nilFunc]]⟩,⟨180,2,[[.p (.sl (ls fI D)),.p (.sl (ls (fR fI) M))]]⟩,⟨35,1,[[.sl 11 3 0 n]]⟩,⟨2,1,jo n++lc fI []⟩,⟨26,1,[[.sl 11 5 0 0]]⟩,⟨35,1,lc (fR fI) []⟩,⟨4,1,[[.raw (.bool ex)]]⟩])]) ⟨?_,trivial⟩ (by simp[wk,oc,iD,tH,aK])) ?_
 ·simp[aK,BC,iD,tH,zH];exact⟨by simp[jo,lc,iD],rfl⟩
 refine aF (aG @lB.eq_1 @od.eq_1) (k:=aj (uJ (qK bZ g 11 [] [] (by kernel_rfl) (by omega) (by kernel_rfl) fun K s=>?_)));simp(disch:=omega) only[kd,afT,aa,Nat.reduceSub,w,h,q,aH];refine s _ ⟨⟨rfl,?_⟩,?_⟩
 ·grind [zj,be,Fy]
 clear s K;show bv _ _ _ _;refine am fun _ K=>?_;simp(disch:=omega) only[kd,CO,cwD,afT,aa,Nat.reduceSub,srP,qy,oJ,ag,j5];apply K
 refine aM ⟨.inr rfl,_,Ab 11 5 (o0:=⟨35,1,lc (fR fI) E⟩) rfl (bF _ _ _),oW (d:=1000) rfl ?_ rfl⟩;simp(disch:=omega) only[kd,results90,Ox,j2,Nat.reduceEqDiff,reduceCtorEq,bV]
 simp
end
end
section
structure zW (P:Program) (t kt et:TypeId):Prop where
 ht:P.underlying t=some (.map kt et)
 hk:P.underlying kt=some (.int .i64)
 he:P.underlying et=some (.int .i64)
 hz: ∀w:World,(zeroValue et).run P w= .ok (.int .i64 0) w
abbrev MapS:=Nat×(Int->Int)
def zV (P:Program) (c b:TypeId) (r:Nat) (g:MapS) (w:World):Prop:= ∃D:DataW Unit,Maps.IsMap D/\w.ownsMap P c (plainElem P b) r g.1 D/\ ∀k,ju k->D.atKey (.int .i64 k) (.lit (.int .i64 0))= .lit (.int .i64 (g.2 k))
section
variable {P:Program} {t kt et:TypeId} {r:Nat} {g:MapS} {a:Act} {w0 w w':World} {O X Y:Nat->Prop} {s s':AS} {ks:List Nat}
theorem zV.same (h:w'.heap[r]?=w.heap[r]?) (j:zV P kt et r g w):zV P kt et r g w':=by
 obtain⟨D,n,⟨e,b,l,m,o,f⟩,c⟩:=j;exact⟨D,n,⟨e,b,h.trans l,m,o,f⟩,c⟩
theorem zV.lt (c:zV P kt et r g w):r<w.heap.size:=by
 obtain⟨D,f,b,e⟩:=c;exact b.lt
def pW (P:Program) (kt et:TypeId) (r:Nat):iz MapS:=⟨fun j=>j=r,fun g _ w=>zV P kt et r g w,fun _ _ _ _ h _ b=>b.same (h r rfl)⟩
def rp (g:MapS) (k z:Int):MapS:=(g.1+1,fun j=>if j=k then z else g.2 j)
theorem JL (T:zW P t kt et) {o:Oper} {x l:Operand} {k:Int} (p:o.op= .lookup t x l false) (H:s.ev x=some (.raw (.map (some r)))) (F:s.ev l=some (.raw (.int .i64 k))) (v:ju k):
  CR P o (ik (pW P kt et r) Y w0 O X g s) (ik (pW P kt et r) Y w0 O X g (s.put o.dst (.raw (.int .i64 (g.2 k))))):=fun a w K Q ⟨G,B,E,u⟩ C=>by
 obtain⟨A,q,I,f,b⟩:=G;have b:bz X I s a w:=b;have m:zV P kt et r g w:=u;obtain⟨D,J,h,n⟩:=m;obtain⟨c,j,e,_⟩:=h.lookup_int (aiw T.hk) T.ht T.he (T.hz w) (Maps.keyOf_int_mk T.hk (aic v));rw[n k v]at e;injection e with e
 injection e with _ e
 subst e;have y:a.eval x= .map (some r):=(bo (bE b x _ H)).1;have z:a.eval l= .int .i64 k:=(bo (bE b l _ F)).1;refine lj (.inl rfl) ?_;unfold Oper.wp;simp[execOp,p,y,z,j,Result.andThen];exact C _ _ ⟨fF A q f b (bS.raw _ rfl),B,E,u⟩
theorem JM (T:zW P t kt et) {o:Oper} {m b v:Operand} {k:Int} (C:o.op= .mapUpdate t m b v) (G:o.dst=none) (Z:s.ev m=some (.raw (.map (some r)))) (hx:s.ev b=some (.raw (.int .i64 k))) (hv:s.ev v=some (.raw (.int .i64 x))) (W:ju k) (hz:ju x) (hn:g.1<maxLen):
  CR P o (ik (pW P kt et r) Y w0 O X g s) (ik (pW P kt et r) Y w0 O X (rp g k x) s):=fun a w K Q ⟨J,F,U,R⟩ S=>by
 obtain⟨h1,aa,ρ,H,f⟩:=id J;have f:bz X ρ s a w:=f;have u:zV P kt et r g w:=R;obtain⟨D,l,p,V⟩:=u;have h:=Maps.keyOf_int_mk T.hk (aic W);obtain⟨w',q,n,c⟩:=p.update (aiw T.hk) T.ht hn h (plainElem_int T.he (aic hz));have L:a.eval m= .map (some r):=(bo (bE f m _ Z)).1;have M:a.eval b= .int .i64 k:=(bo (bE f b _ hx)).1;have N:a.eval v= .int .i64 x:=(bo (bE f v _ hv)).1;have E:dP w0 O X s a w':=dP.turn (B:=fun j=>j=r) J F ⟨c.os,c.tape,c.output,c.size,fun j I A=>c.block j I fun e=>A (by injection e)⟩;have y:zV P kt et r (rp g k x) w':=by
  refine⟨_,l.put _ _,n,fun j I=>?_⟩;show _=DataW.lit (Lit.int .i64 (if j=k then x else g.2 j));by_cases e:j=k
  ·subst e;rw[if_pos rfl];exact Maps.atKey_put_same l ((aiw T.hk).key h) _ _
  grind [Maps.atKey_put_other]
 refine lj (.inl rfl) ?_;unfold Oper.wp;simp[execOp,C,L,M,N,q,Result.andThen];have:=S undef w';rw[G]at this;show K (a.put o.dst undef) w';rw[G];exact this ⟨E,F,U,y⟩
/-! A drawn region with a call or a look-up in the middle and a last operation behind all others. -/
def LB (b:Array Oper) (m:Nat) (s:AS):Option (TypeId×TV×TV):=match b[m]? with
 |some o=>match o.guard,o.op with
  |none,.lookup t x c false=>match s.ev x,s.ev c with
   |some u,some v=>some (t,u,v)
   |_,_=>none
  |_,_=>none
 |none=>none
def adi (b:Array Oper) (m:Nat) (s:AS):Option (TypeId×TV×TV×TV):=match b[m]? with
 |some o=>match o.guard,o.dst,o.op with
  |none,none,.mapUpdate t y x v=>match s.ev y,s.ev x,s.ev v with
   |some u,some k,some z=>some (t,u,k,z)
   |_,_,_=>none
  |_,_,_=>none
 |none=>none
theorem Zf {e:List Nat} (h:wP (F9 b n) e s s'):LB b n s'=LB b n s:=by
 unfold LB;have c:=h.1;unfold F9 at c;cases j:b[n]? with
 |none=>rfl
 |some o=>
  rw[j]at c;simp only at c⊢;have f: ∀y∈o.op.operands,s'.ev y=s.ev y:=fun y l=>by
   cases y with
   |tmp k=>exact c k (ahS.2 ⟨.tmp k,by grind,rfl⟩)
   |_=>rfl
  grind [Op.operands]
theorem yH (T:zW P t kt et) {k:Int} (h:LB b n s=some (t,.raw (.map (some r)),.raw (.int .i64 k))) (y:ju k):yO P b n (ik (pW P kt et r) Y w0 O X g s) (ik (pW P kt et r) Y w0 O X g (s.put (cwD b n) (.raw (.int .i64 (g.2 k))))):=by
 unfold LB at h;split at h
 case h_2=>cases h
 rename_i o l;split at h
 case h_2=>cases h
 rename_i B x A j p;split at h
 case h_2=>cases h
 rename_i u v z q;injection h with h
 injection h with c h
 injection h with e f
 subst c e f;refine⟨o,l,j,?_⟩;grind [cwD,JL]
theorem JK (T:zW P t kt et) {k:Int} (h:adi b n s=some (t,.raw (.map (some r)),.raw (.int .i64 k),.raw (.int .i64 x))) (B:ju k) (H:ju x) (C:g.1<maxLen):yO P b n (ik (pW P kt et r) Y w0 O X g s) (ik (pW P kt et r) Y w0 O X (rp g k x) s):=by
 unfold adi at h;split at h
 case h_2=>cases h
 rename_i o D;split at h
 case h_2=>cases h
 rename_i J y c v A q e;split at h
 case h_2=>cases h
 rename_i u I K G F E;injection h with h
 injection h with f h
 injection h with j h
 injection h with l p
 subst f j l p;exact⟨o,D,A,JM T e q G F E B H C⟩
variable {Q:Exit->AS->MapS->Prop}
theorem Qp (l:P.follows .mixedOrders=true) (T:zW P t kt et) (m d:Nat) (k z:Int) (c:List (ar P)) (f:List Nat) {id:Nat} (n:cY ks b=true) (u:Vu b m (b.size-1) []=true) (x:cwD b m=some d) (v:ju k) (B:ju z) (A:g.1<maxLen) (h: ∀K:AS->Prop,(∀j,(LB b m j=some (t,.raw (.map (some r)),.raw (.int .i64 k))/\ ∀K:AS->Prop,(∀e,(adi b (b.size-1) e=some (t,.raw (.map (some r)),.raw (.int .i64 k),.raw (.int .i64 z))/\Q .normal e (rp g k z))->K e)->bM P (c.map ar.a) f (aV b ((b.toList.take (b.size-1)).drop (m+1)) (m+1)) (some (j.put (some d) (.raw (.int .i64 (g.2 k))))) K)->K j)->bM P (c.map ar.a) f (aV b (b.toList.take m) 0) (some s) K):eF P (pW P kt et r) ks (.region id b true) Q s g:=fun o Y w0 O X a w F=>by
 obtain⟨j,p,L,C⟩:=aO P (c.map ar.a) f b _ 0 s _ (h _ fun j q=>q);obtain⟨e,H,D,q4⟩:=aO P (c.map ar.a) f b _ (m+1) _ _ (C _ fun e q=>q);have y:m<b.size-1:=by
  grind [Vu]
 refine Ip (R1:=jy (pW P kt et r) ks o Y w0 O X g) (R2:=jy (pW P kt et r) ks o Y w0 O X (rp g k z)) eP l c f m (b.size-1) [] (.raw (.int .i64 (g.2 k))) n u p (fun s' J I=>?_) (by grind) (fun _=>rJ n (JK T D v B A)) (fun h=>by omega) F fun G w' E=>⟨e,_,q4,E⟩
 grind [rJ,yH,Zf]
theorem KC (T:zW P t kt et) (m d:Nat) (k:Int) (c:List (ar P)) (e:List Nat) {id:Nat} (j:cY ks b=true) (v:m<b.toList.length) (u:cwD b m=some d) (p:ju k) (h: ∀K:AS->Prop,(∀f,(LB b m f=some (t,.raw (.map (some r)),.raw (.int .i64 k))/\ ∀K:AS->Prop,(∀s',Q .normal s' g->K s')->bM P (c.map ar.a) e (aV b (b.toList.drop (m+1)) (m+1)) (some (f.put (some d) (.raw (.int .i64 (g.2 k))))) K)->K f)->bM P (c.map ar.a) e (aV b (b.toList.take m) 0) (some s) K):eF P (pW P kt et r) ks (.region id b false) Q s g:=fun l Y w0 O X a w A=>by
 obtain⟨f,n,x,y⟩:=aO P (c.map ar.a) e b _ 0 s _ (h _ fun f q=>q);obtain⟨s',C,o⟩:=aO P (c.map ar.a) e b _ (m+1) _ _ (y (fun s=>Q .normal s g) fun _ h=>h);refine rO (R1:=jy (pW P kt et r) ks l Y w0 O X g) (R2:=jy (pW P kt et r) ks l Y w0 O X g) eP eP m c e j v n (rJ j (yH T x p)) (by grind) A fun B w' z=>⟨s',g,o,z⟩
end
end
section
section
variable {P:Program} {t kt et:TypeId} {g:MapS} {a:Act} {w0 w w':World} {O X:Nat->Prop} {s s':AS}
theorem dP.lendnew (h:dP w0 O X s a w) (e:fm w w') (D:w.heap.size<=n) (I:n<w'.heap.size):dP w0 (fun j=>O j\/j=n) (fun j=>X j\/j=n) s a w':=by
 obtain⟨G,B,m,f,J⟩:=h;have z: ∀b,b<w.heap.size->Xo (fun j=>X j\/j=n) m s.H b->Xo X m s.H b:=fun b l h=>by
  rcases h with(h|h)|h
  ·exact .inl h
  ·omega
  exact .inr h
 have mono: ∀x v,AV.rel m s.H (Xo X m s.H) w x v->AV.rel m s.H (Xo (fun j=>X j\/j=n) m s.H) w' x v:=uR fun x v A h=>by
  cases x with
  |fn=>cases A
  |p x=>exact bS.stays (fm.stays e) (bS.weaken z h)
  |sl x n K len=>exact h
  |ptr x n i j=>exact h
  |junk=>trivial
 refine⟨G,B,m,⟨⟨e.os.trans f.keep.os,e.tape.trans f.keep.tape,e.output.trans f.keep.output,aeN f.keep.size e.size,fun j C A=>?_⟩,fun x y o q=>?_,f.inj,fun x y o b c q l=>?_,fun b l=>?_,f.self⟩,fun t x u=>?_⟩
 ·rw[e.block j (aeT C f.keep.size)];exact f.keep.block j C fun h=>A (.inl h)
 ·exact gt (f.objs x y o q) rfl (fun b c l=>e.block b (bI (f.objs x y o q) l)) (fun _ _ D=>mono _ _ D)
 ·obtain⟨E,F⟩:=f.old x y o b c q l;refine⟨E.imp id .inl,fun u=>?_⟩;rcases u with u|u
  ·exact F u
  have:=bI (f.objs x y o q) l;omega
 ·rcases l with l|l
  ·exact aeT (f.bar b l) e.size
  omega
 grind [TV.rel_map]
theorem dP.unlend (h:dP w0 (fun j=>O j\/j=n) (fun j=>X j\/j=n) s a w) (A:w0.heap.size<=n):dP w0 O X s a w:=by
 obtain⟨B,u,f,e,D⟩:=h;have m: ∀b,b<w.heap.size->Xo X f s.H b->Xo (fun j=>X j\/j=n) f s.H b:=fun b l h=>by
  rcases h with h|h
  ·exact .inl (.inl h)
  exact .inr h
 have mono: ∀x v,AV.rel f s.H (Xo (fun j=>X j\/j=n) f s.H) w x v->AV.rel f s.H (Xo X f s.H) w x v:=uR fun x v z h=>by
  cases x with
  |fn=>cases z
  |p x=>exact bS.weaken m h
  |sl x n E len=>exact h
  |ptr x n i j=>exact h
  |junk=>trivial
 refine⟨B,u,f,⟨⟨e.keep.os,e.keep.tape,e.keep.output,e.keep.size,fun j C z=>e.keep.block j C fun h=>?_⟩,fun x y o q=>?_,e.inj,fun x y o b c q l=>?_,fun b l=>e.bar b (.inl l),e.self⟩,fun t x I=>?_⟩
 ·grind
 ·exact gt (e.objs x y o q) rfl (fun b c l=>rfl) (fun _ _ A=>mono _ _ A)
 ·obtain⟨F,G⟩:=e.old x y o b c q l;grind
 grind [TV.rel_map]
def Ew (P:Program) (kt et:TypeId) (f:FuncId) (args:List TV) (g:MapS):Prop:=
 callable P f=true/\ ∀(X:Nat->Prop) (w:World) (vs:Array Value),(∀b,X b->b<w.heap.size)->vs.size=args.length->
  (∀(j:Nat) t,args[j]?=some t-> ∃v:Value,vs[j]?=some v/\t.rel (fun _ _=>none) (fun _=>[]) X w v)->
  Calls P f vs w fun e w'=> ∃r,e= .returned (.map (some r))/\w.heap.size<=r/\zV P kt et r g w'/\Keep (fun _=>False) w w'
theorem QB {B:Func} {y:Code} {id:Nat} {args:List TV} (hf:P.funcs[f]?=some B) (hb:B.body=some (.seq e (.seq (.region id b false) y))) (hn:callable P f=true) {d:Nat} {S1:AS} (q:List (ar P)) (ow:List Nat) (h0:bv P e (fun c s'=>c= .normal/\bN s' S1) ⟨args++af (B.ntmps-args.length) .undef,fun _=>[]⟩) (z: ∃o,b[0]?=some o/\o.guard=none/\o.op= .makeMap t none/\o.dst=some d) (h1: ∀(r:Nat) (K:AS->Prop),(∀s',eF P (pW P kt et r) [] y (fun c s' g'=>(c= .normal\/c= .ret)/\g'=g/\ ∃I,bN s' I/\uh P I B.results.toList=some (.raw (.map (some r)))) s' (0,fun _=>0)->K s')->bM P (q.map ar.a) ow (aV b (b.toList.drop 1) 1) (some (S1.put (some d) (.raw (.map (some r))))) K):Ew P kt et f args g:=by
 refine⟨hn,fun X w vs hX W x=>?_⟩;refine calls_of_wp hf hb ?_;have G:dP w (fun _=>False) X ⟨args++af (B.ntmps-args.length) .undef,fun _=>[]⟩ {tmps:=vs++Array.replicate (B.ntmps-vs.size) undef,defers:=[]} w:=xg hX W x;refine wp_seq (wp_mono (h0 _ _ _ _ _ G) fun c J l ⟨s1,⟨he,Y⟩,u⟩=>?_);subst he;have u:=Y _ _ _ _ _ u;have Q:Keep (fun _=>False) w l:=by obtain⟨_,_,ρ,m,_⟩:=u;exact m.keep
 show Code.wp P _ _ J l;obtain⟨o,ho,hg,z,hd⟩:=z;have p:w.heap.size<=l.heap.size:=Q.size;obtain⟨I,h2,h3⟩:=aO P (q.map ar.a) ow b _ 1 _ _ (h1 l.heap.size _ fun _ h=>h);refine wp_seq ((wpIn_wide (n:=0)).1 (wpIn_region (F:=FW none) ?_));have E:b.size=1+(b.toList.drop 1).length:=by
  grind
 rw[E,afi,agn 1,afj,wpOpsIn_cons];unfold wpOpIn;rw[ho];simp only;rw[if_pos (by simp[Region.wanted,hg])];refine lj (.inl rfl) ?_;unfold Oper.wp;simp only[execOp,z,aha,aeU,run_makeMap,aeH,afC];have D:fm l (l.alloc (.map #[] 0)):=A1 (World.grownBy_alloc l _ none);have R:=u.lendnew D (aeJ _) (ae4.1 (MapKept.heap_alloc l (.map #[] 0)).1).1;have hG:zV P kt et l.heap.size (0,fun _=>0) (l.alloc (.map #[] 0)):=⟨.map [],Maps.isMap_empty,World.ownsMap_made _ _ _ _,fun k _=>rfl⟩;obtain⟨q1,q2,ρ,q3,q4⟩:=R;have S:ik (pW P kt et l.heap.size) (fun _=>True) w (fun j=>False\/j=l.heap.size) (fun j=>X j\/j=l.heap.size) (0,fun _=>0) (S1.put (some d) (.raw (.map (some l.heap.size)))) (J.put o.dst (.map (some l.heap.size))) (l.alloc (.map #[] 0)):=by
  rw[hd];exact⟨fF q1 q2 q3 q4 (bS.raw _ rfl),fun j N=>⟨.inr N,.inr N⟩,fun _ _=>trivial,hG⟩
 obtain⟨wb,Ob,Xb,rb,kb⟩:=t8 _ _ _ S;show wpOpsIn (FW none) 0 P b _ (List.range' (0+1) (List.drop 1 b.toList).length) (J.put o.dst (.map (some l.heap.size))) (l.alloc (.map #[] 0));rw[<- afz (List.range' (0+1) _)];refine Ge (n:=0) (suf:=[]) (b.toList.drop 1) 1 _ I _ _ (fun j o N=>by
  grind) h2 rb (fun a2 w2 r2=>?_)
 show y.wp P _ a2 w2;refine wp_mono (h3 (fun _=>none) _ _ _ _ _ _ ⟨kb _ _ _ r2,fun _ hk=>by simp at hk⟩) fun c a3 w3 ⟨s3,g3,⟨L,M,s4,Z,H⟩,⟨T,_,_,C⟩,_⟩=>?_
 subst M;have U:=Z _ _ _ _ _ T;have V:=(dP.unlend (O:=fun _=>False) U p);obtain⟨n1,ab,aa,m,A⟩:=V;have A:bz X aa s4 a3 w3:=A;obtain⟨v,v1,v2⟩:=gU m A H;have hv:=(bo v2).1;subst hv;rcases L with rfl|rfl
 ·exact⟨n1,_,v1,_,rfl,p,C,m.keep⟩
 exact⟨n1,_,v1,_,rfl,p,C,m.keep⟩
theorem ab1 {o:Oper} {A:List TV} (c:dP w0 O X s a w) (y:cfTs o s=some (f,A)) (b:Ew P kt et f A g) (R: ∀t∈A,xH t=true) {d:Nat} (F:o.dst=some d) {K:Act->World->Prop} {Q:Exit->Act->World->Prop} (E: ∀r w',w0.heap.size<=r->ik (pW P kt et r) (fun _=>True) w0 (fun j=>O j\/j=r) (fun j=>X j\/j=r) g (s.put (some d) (.raw (.map (some r)))) (a.put (some d) (.map (some r))) w'->K (a.put (some d) (.map (some r))) w'):o.wp P a w K Q:=by
 obtain⟨N,G,L,m,h⟩:=id c;have h:bz X L s a w:=h;obtain⟨vs,p,z,v⟩:=EU y h b.1;unfold Oper.wp;rw[p];simp only[Oper.upon];refine(b.2 (fun _=>False) w vs (fun j q=>q.elim) z fun j u S=>?_).mono ?_
 ·grind [rB]
 rintro e D ⟨r,rfl,C,B,n⟩;have l:fm w D:=⟨n.os,n.tape,n.output,n.size,fun k x=>n.block k x id⟩;obtain⟨H,I,M,J,q4⟩:=c.lendnew l C B.lt;rw[F];exact E r D (aeN m.keep.size C) ⟨fF H I J q4 (bS.raw _ rfl),fun j q=>⟨.inr q,.inr q⟩,fun _ _=>trivial,B⟩
theorem Yq (m d:Nat) {args:List TV} (v:Ew P kt et f args g) (l:List (ar P)) (x:List Nat) {id:Nat} {Q:Exit->AS->Prop} (hm:m<b.toList.length) (M:cwD b m=some d) (h: ∀K:AS->Prop,(∀u,(cxTs b m u=some (f,args)/\(∀t∈args,xH t=true)/\ ∀(r:Nat) (K:AS->Prop),(∀s',eF P (pW P kt et r) [] e (fun c s' _=>Q c s') s' g->K s')->bM P (l.map ar.a) x (aV b (b.toList.drop (m+1)) (m+1)) (some (u.put (some d) (.raw (.map (some r))))) K)->K u)->bM P (l.map ar.a) x (aV b (b.toList.take m) 0) (some s) K):bv P (.seq (.region id b false) e) Q s:=fun w0 O X a w Z=>by
 obtain⟨u,H,p,V,W⟩:=aO P (l.map ar.a) x b _ 0 s _ (h _ fun u q=>q);obtain⟨o,E⟩: ∃o,b[m]?=some o:=⟨b[m],by simp⟩;unfold cxTs at p;rw[E]at p;simp only at p;have D:o.guard=none:=by
  simp_all
 rw[D]at p;simp only[afN,if_true]at p;have N:o.dst=some d:=by grind [cwD]
 refine wp_seq ((wpIn_wide (n:=0)).1 (wpIn_region (F:=FW none) ?_));have C:b.size=(b.toList.take m).length+(1+(b.toList.drop (m+1)).length):=by grind
 rw[C,afi,<- afk,afm];have z:(b.toList.take m).length=m:=by grind
 refine Ge (b.toList.take m) 0 s u a w (fun j o R=>?_) H Z fun a' w' Y=>?_
 ·grind
 rw[z,agn 1,afj,wpOpsIn_cons];unfold wpOpIn;rw[E];simp only;rw[if_pos (by simp[Region.wanted,D])];refine lj (.inl rfl) (ab1 Y p v V N fun r w1 T A=>?_);obtain⟨s2,I,J⟩:=aO P (l.map ar.a) x b _ (m+1) _ _ (W r _ fun _ h=>h);obtain⟨wb,Ob,Xb,rb,U⟩:=t8 _ _ _ A;rw[<- afz (List.range' (m+1) _)];refine Ge (n:=0) (suf:=[]) (b.toList.drop (m+1)) (m+1) _ s2 _ _ (fun j o R=>by
  grind) I rb (fun G w2 r2=>?_)
 show e.wp P _ G w2;exact wp_mono (J (fun _=>none) _ _ _ _ _ _ ⟨U _ _ _ r2,fun _ S=>by simp at S⟩) fun c a3 w3 ⟨s3,g3,L,⟨B,_,_,_⟩,_⟩=>⟨s3,L,dP.unlend B T⟩
end
end
end Go.Proofs.YtalmoejhjceflaaGreat
