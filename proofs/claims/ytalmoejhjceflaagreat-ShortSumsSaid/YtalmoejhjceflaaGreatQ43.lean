/-
  Part 44 of a proof (walks and plain facts).
-/
import Derived.Test.YtalmoejhjceflaaGreatQ42
set_option linter.all false
set_option maxRecDepth 100000
set_option maxHeartbeats 64000000
namespace Go.Proofs.YtalmoejhjceflaaGreat
open Go.RowKit Go.Proofs.Tryz
theorem WB (L:List Int) (z:Int) (m:1<=L.length) (b:L.length<=1000) (g:L[L.length-1]?=some z) (h: -1000000000<=z) (j:z<=1000000000):CallC prog 88 [eF L] ⟨[],.raw (.int .i64 (Int.tdiv (z-1) 2))⟩:=by
 have e:IntKind.i64.wrap ((L.length:Int)-1)=((L.length-1:Nat):Int):=by grind [aL]
 have l:(Int.tdiv (z-1) 2).natAbs<=(z-1).natAbs:=by
  grind
 have f:IntKind.i64.wrap (Int.tdiv (z-1) 2)=Int.tdiv (z-1) 2:=aL (by omega) (by omega);have c:L.length-1<L.length:=by omega
 refine ax func88 rfl ntmps88 (aA (k:=aH (aC e (aC g f)) (k:=aE @results88)))
def OM (f:FF) (x:List Int) (i j:Nat):Int:=bW (fun b=>f i b*x.getD i 0*x.getD b 0) j
def P2 (f:FF) (x:List Int) (n i:Nat):Int:=bW (fun a=>OM f x a n) i
theorem MD {f:FF} {x:List Int} {n E T i b:Nat} (g: ∀i j,i<n->j<n->(f i j).natAbs<=E) (h: ∀i,(x.getD i 0).natAbs<=T) (l:E*T*T<=72057594037927936) (m:i<n) (o:b<n):(f i b*x.getD i 0).natAbs<=72057594037927936/\(f i b*x.getD i 0*x.getD b 0).natAbs<=72057594037927936:=by
 have c:(f i b*x.getD i 0).natAbs<=E*T:=by simp_all[adt,acU]
 have e:(f i b*x.getD i 0*x.getD b 0).natAbs<=E*T*T:=by rw[adt];simp_all[acU]
 grind [Nat.le_trans,Nat.le_mul_of_pos_right]
theorem Wk (n:Nat) (f:FF) (x:List Int) (E T:Nat) (hn:n<=8) (hx:x.length=n) (o: ∀i j,i<n->j<n->(f i j).natAbs<=E) (y: ∀i,(x.getD i 0).natAbs<=T) (z:E*T*T<=72057594037927936):
  CallC prog 40 [cw (mat n n f),eF x] ⟨[],.raw (.int .i64 (P2 f x n n))⟩:=by
 have H:=aU n n f;have K: ∀i,i<n-> ∀j,j<=n->(OM f x i j).natAbs<=576460752303423488:=fun i c j C=>by
  have:=uZ (F:=fun b=>f i b*x.getD i 0*x.getD b 0) (B:=72057594037927936) j fun b M=>(MD o y z c (by omega)).2
  unfold OM;omega
 have L: ∀i,i<=n->(P2 f x n i).natAbs<=4611686018427387904:=fun i c=>by
  have:=uZ (F:=fun a=>OM f x a n) (B:=576460752303423488) i fun a ha=>K a (by omega) n (acs n)
  unfold P2;omega
 have l: ∀i,i<n->x[i]?=some (x.getD i 0):=fun i c=>by grind
 have r: ∀i j,OM f x i j+f i j*x.getD i 0*x.getD j 0=OM f x i (j+1):=fun _ _=>rfl
 have v: ∀i,P2 f x n i+OM f x i n=P2 f x n (i+1):=fun _=>rfl
 have q: ∀i,OM f x i 0=0:=fun _=>rfl
 have t:P2 f x n 0=0:=rfl;have h: ∀i,i<n->(mat n n f)[i]?=some (aN n (f i)):=fun i c=>bD n f c
 have P:=fun i b (c:i<n) (C:b<n)=>MD (x:=x) o y z c C
 clear o y z;refine ax func40 rfl ntmps40 (aA (k:=bi (k:=ai (dR H (k:=?_)))));refine ay (G:=fY n) (fun g=>⟨(jk::eF x::jk::jk::jk::.raw (.int .i64 (P2 f x n g.i))::j4 (cw (mat n n f)::rN n::rN g.i::j16 (j4 (j4 (jk::jk::jk::[]))))),Hm []⟩) (fun g=>n-g.i) ⟨0,by omega⟩ ?_ ?_
 ·refine aj trivial ?_;simp[wk,t]
 rintro⟨i,c⟩;simp only;by_cases m:i<n
 ·have O:=h i m;have I:=aD n (f i);refine ar (k:=aV rfl (ai (am (aH O (k:=dR I (k:=?_))))));refine ay (G:=fY n) (fun g=>⟨(jk::eF x::jk::jk::jk::.raw (.int .i64 (P2 f x n i+OM f x i g.i))::rN i::jk::jk::jk::cw (mat n n f)::rN n::rN i::j4 (eF (aN n (f i))::rN n::rN g.i::j16 (j4 ([])))),Hm []⟩) (fun g=>n-g.i) ⟨0,by omega⟩ ?_ ?_
  ·refine aj trivial ?_;simp[wk,q]
  rintro⟨j,C⟩;simp only;by_cases e:j<n
  ·have N:=aB (f i) e;have U:=l i m;have V:=l j e;have t1:=P i j m e;have s1:=r i j;have Y:=K i m (j+1) (by omega);have Z:=L i (by omega);have S:P2 f x n i+OM f x i j+f i j*x.getD i 0*x.getD j 0=P2 f x n i+OM f x i (j+1):=by omega
   generalize x.getD i 0=W at*
   generalize x.getD j 0=X at*
   generalize f i j=a at*
   generalize J:OM f x i (j+1)=s' at*
   generalize OM f x i j=s at*
   generalize P2 f x n i=p at*
   generalize Q:a*W=u at*
   generalize R:u*X=w at*
   refine ar (k:=aV rfl (ai (am (aH N (k:=pQ (aC U (aC Q (aC V (aC R S)))) (k:=bu (k:=?_)))))));refine⟨⟨j+1,by omega⟩,by grind,aj trivial ?_⟩;simp[wk,J]
  have D:j=n:=by omega
  subst D;refine ar (k:=aW rfl (bu (k:=?_)));refine⟨⟨i+1,by omega⟩,by grind,aj trivial ?_⟩;simp[wk,v]
 have A:i=n:=by omega
 subst A;refine ar (k:=aW rfl (bi (k:=aE @results40)))
theorem Rk (n:Nat) (f:FF) (r:1<=n) (x:n<=16):CallC prog 39 [cw (mat n n f)] ⟨[],eF (aN n fun i=>f i i)⟩:=by
 have b:=aU n n f;have u:List.replicate n [AV.p (.raw (.int .i64 0))]=lc fI (aN n fun j=>if j<0 then f j j else 0):=by
  have v:(aN n fun j=>if j<0 then f j j else 0)=List.replicate n 0:=acz fun i=>by
   grind [aN]
  grind [ZU]
 refine ax func39 rfl ntmps39 (aA (k:=aH b (k:=ai (dR b (k:=?_)))));refine ay (G:=fY n) (fun g=>⟨(jk::jk::jk::.one (.sl 8 0 0 n)::j4 (jk::cw (mat n n f)::rN n::rN g.i::j4 (j4 (j4 (jk::[]))))),Hm [(8,[⟨2,1,lc fI (aN n fun j=>if j<g.i then f j j else 0)⟩])]⟩) (fun g=>n-g.i) ⟨0,by omega⟩ ?_ ?_
 ·refine aj ⟨?_,trivial⟩ ?_
  ·rw[<- u];rfl
  simp[wk]
 rintro⟨i,w⟩;simp only;by_cases m:i<n
 ·have s:=bD n f m;have q:=aB (f i) m;have t:=aD n (f i);have h:=aD n (fun j=>if j<i then f j j else 0);have e:=aB (fun j=>if j<i then f j j else 0) m;have c:(lc fI (aN n fun j=>if j<i then f j j else 0)).set i [AV.p (.raw (.int .i64 (f i i)))]=lc fI (aN n fun j=>if j<i+1 then f j j else 0):=by
   rw[show[AV.p (.raw (.int .i64 (f i i)))]=(fI (f i i)).map AV.p from rfl,wj,nL];grind
  refine ar (k:=aV rfl (ai (am (aH s (k:=dF (aC q (aC e c)) (k:=bu (k:=?_)))))));refine⟨⟨i+1,by omega⟩,by grind,aj ⟨rfl,trivial⟩ ?_⟩;simp[wk]
 have l:i=n:=by omega
 subst l;have h:=aD i (fun j=>if j<i then f j j else 0);refine ar (k:=aW rfl (bi (k:=?_)));refine aQ ⟨.inr rfl,dp 8 (bf rfl) ?_ rfl⟩;have o:List.take i (aN i fun j=>if j<i then f j j else 0)=aN i fun j=>f j j:=by
  grind [dT]
 simp(disch:=omega) only[kd,results39,o,eF]
def Ei (L:List Int):Nat->Int
 |0=>L.getD 0 0
 |i+1=>if L.getD (i+1) 0<Ei L i then L.getD (i+1) 0 else Ei L i
structure MnG (n:Nat) where
 i:Nat
 h:i+1<=n
theorem Yz (L:List Int) (m:1<=L.length) (p:L.length<=1000):CallC prog 38 [eF L] ⟨[],.raw (.int .i64 (Ei L (L.length-1)))⟩:=by
 have j: ∀i,i<L.length->L[i]?=some (L.getD i 0):=fun i n=>by grind
 have l:=j 0 (by omega);have c:Ei L 0=L.getD 0 0:=rfl;have e: ∀i,(if L.getD (i+1) 0<Ei L i then L.getD (i+1) 0 else Ei L i)=Ei L (i+1):=fun _=>rfl
 refine ax func38 rfl ntmps38 (aA (k:=ai (ar (k:=ao rfl (ak (aH l (k:=ai (bi (k:=?_)))))))));refine ay (G:=MnG L.length) (fun g=>⟨(eF L::jk::jk::.raw (.int .i64 (Ei L g.i))::.raw (.int .i64 ((g.i+1:Nat):Int))::j16 (j4 ([]))),Hm []⟩) (fun g=>L.length-g.i) ⟨0,m⟩ ?_ ?_
 ·refine aj trivial ?_;simp[wk,c]
 rintro⟨i,n⟩;simp only;by_cases h:i+1<L.length
 ·have f:=j (i+1) h;have o:=e i;refine ai (ar (k:=az rfl (ak (ai (am (dF (aC f o) (k:=bu (k:=?_))))))));refine⟨⟨i+1,h⟩,by grind,aj trivial ?_⟩;simp[wk]
 have b:i=L.length-1:=by omega
 subst b;refine ai (ar (k:=ao rfl (aX (bi (k:=aE @results38)))))
theorem So (x:Int) (l:List Int):ls fI (x::l)=fI x::ls fI l:=rfl
theorem aat {P:Program} {c:Func} {d:Nat} {f:TypeId} {l:List Int} {s:AS} (h:s.H d=[⟨f,1,lc fI l⟩]) (b:rA P s c.results.toList=some (.one (.sl d 0 0 l.length))) (g:d<=4999):
  ∃e,bJ s e/\nd P c ⟨[⟨f,1,lc fI l⟩],.one (.sl 0 0 0 l.length)⟩ e:=
 ⟨s,bJ.refl s,_,d,b,A4 (by rfl) g,by grind [renO,gT],rfl⟩
theorem Q4 (l:List Int) (e:1<=l.length) (f:l.length<=1000):CallC prog 142 [eF l] ⟨[⟨2,1,lc fI l⟩],.one (.sl 0 0 0 l.length)⟩:=by
 obtain⟨x,c,rfl⟩: ∃x c,l=x::c:=by
  cases l with
  |nil=>simp at e
  |cons x c=>simp
 refine ax func142 rfl ntmps142 (aA (k:=ai (dR @So (k:=?_))));have b:([PV.raw (.int .i64 x)]::ls fI c)=ls fI (x::c):=rfl;simp only[b];clear b;generalize x::c=L at*
 refine ao rfl (ak ?_);show bA _ _ _ _;refine bC [] [5] fun _ K=>?_;simp(disch:=omega) only[kd,Nat.reduceAdd,Nat.reduceMul,acL,Nat.reduceLeDiff,iz DU];apply K
 refine aQ ⟨.inr rfl,aat (d:=5) rfl ?_ (by decide)⟩;simp(disch:=omega) only[kd,results142]
theorem i5 {a b:Int} (h:a<=b):rng a b=a::rng (a+1) b:=by
 unfold rng;rw[show(b-a+1).toNat=(b-(a+1)+1).toNat+1 by omega,ad3,acA,adH]
 congr 1
 ·simp
 grind [List.map_congr_left]
theorem kL {a b:Int} (h: ¬a<=b):rng a b=[]:=by
 grind [rng]
theorem FJ {P:Program} {j:Type} {L:jd j} {f:List Nat} {s:AS} {g:j} {c z:Code} {Q:Exit->AS->j->Prop} (S:AS) (n:fw P L f c (vo (fun h b=>bJ h S/\b=g) Q) s g) (o:fw P L f z Q S g):fw P L f c (vo (fw P L f z Q) Q) s g:=fun q Y t O X a w r=>
 wp_mono (n q Y t O X a w r) fun e u v ⟨h,b,l,m⟩=>by
  cases e with
  |normal=>
   obtain⟨p,rfl⟩:=l;exact⟨h,b,o.weak p,m⟩
  |_=>exact⟨h,b,l,m⟩
noncomputable def Bx (f:FF) (n:Nat) (B:Int) (ex:Bool):Nat->List Int->Bool->List (List Int)
 |0,y,z=>(rng (if z=true then 0 else b9 f n B 0 (aJ n y)) (cq f n B 0 (aJ n y))).flatMap fun c=>if(z&&decide (c=0))=true\/(ex&&!decide (sV f n B 0 (aJ n (c::y))=0))=true then[]else[c::y]
 |k+1,y,z=>(rng (if z=true then 0 else b9 f n B (k+1) (aJ n y)) (cq f n B (k+1) (aJ n y))).flatMap fun c=>Bx f n B ex k (c::y) (z&&decide (c=0))
abbrev Gb (a n m:Nat) (y D:List Int) (M acc:List (List Int)) (ex:Bool):List OObj:=[⟨182,1,[[.fn 139 a [(1,0,0),(2,0,0),(0,0,0),(6,0,0),(4,0,0)]]]⟩,⟨180,2,[[.p (.sl (ls fI D)),.p (.sl (ls (fR fI) M))]]⟩,⟨35,1,[[.sl a 3 0 n]]⟩,⟨2,1,iE m++lc fI y⟩,⟨26,1,[[.sl a 5 0 acc.length]]⟩,⟨35,1,lc (fR fI) acc⟩,⟨4,1,[[.p (.raw (.bool ex))]]⟩]
theorem xX (a d n m:Nat) (y D:List Int) (M acc:List (List Int)) (ex:Bool):(Gb a n m y D M acc ex).map (renO d)=Gb d n m y D M acc ex:=by
 simp only[Gb,acA,acT,renO,b6,gT,ac1,jp,afW,ada,if_false]
theorem Gc (a n m:Nat) (y D:List Int) (M acc:List (List Int)) (ex:Bool): ∀o∈Gb a n m y D M acc ex,selfO a o:=fun o f e b x c=>by
 simp only[acR,ado,or_false]at f;rcases f with rfl|rfl|rfl|rfl|rfl|rfl|rfl
 ·simp only[aco]at b;subst b;simp only[aco]at c;subst c;exact⟨rfl,by simp⟩
 ·simp only[aco]at b;subst b;simp only[acR,ado,or_false]at c;rcases c with rfl|rfl<;>trivial
 ·simp only[aco]at b;subst b;simp only[aco]at c;subst c;rfl
 ·simp only[adh]at b;rcases b with b|b
  ·obtain⟨_,rfl⟩:=aev.1 b;simp only[aco]at c;subst c;trivial
  exact df (bL 2 1 _ e b x c)
 ·simp only[aco]at b;subst b;simp only[aco]at c;subst c;rfl
 ·exact df (bL 35 1 _ e b x c)
 simp only[aco]at b;subst b;simp only[aco]at c;subst c;trivial
abbrev YM:List (Nat×Nat):=[(1,3),(2,4),(0,5),(6,6),(4,7)]
theorem ZK (a n m f:Nat) (y g D:List Int) (M acc b:List (List Int)) (ex:Bool): ∀r∈YM.map Prod.fst,∀o,(Gb a n m y D M acc ex)[r]?=some o-> ∃c,(Gb a n f g D M b ex)[r]?=some c/\c.es=o.es/\o.elems.length<=c.elems.length:=fun r e o h=>by
 simp only[YM,acA,acT,acR,ado,or_false]at e;rcases e with rfl|rfl|rfl|rfl|rfl<;>(injection h with h;subst h;simp)
abbrev srA (k:Nat) (b:Int) (z:Bool):List TV:=[.raw (.int .i64 (k:Int)),.raw (.int .i64 b),.raw (.bool z),.one (.ptr 0 1 0 0),.one (.ptr 0 2 0 0),.one (.ptr 0 0 0 0),.one (.ptr 0 6 0 0),.one (.ptr 0 4 0 0)]
abbrev SrC (n:Nat) (f:FF) (B:Int) (ex:Bool) (k:Nat) (y:List Int) (z:Bool) (acc:List (List Int)):Prop:=
 mY prog noL (YM.map Prod.fst) 139 (srA k (sV f n B (k+1) (aJ n y)) z) (Gb 0 n (k+1) y (aN (n+1) (dk f)) (gy n f n) acc ex) (Gb 0 n (k+1) y (aN (n+1) (dk f)) (gy n f n) (acc++Bx f n B ex k y z) ex) () () (.tup [])
end Go.Proofs.YtalmoejhjceflaaGreat
