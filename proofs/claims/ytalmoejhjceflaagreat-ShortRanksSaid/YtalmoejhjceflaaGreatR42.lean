/-
  Part 43 of a proof (walks and plain facts).
-/
import Derived.Test.YtalmoejhjceflaaGreatR41
set_option linter.all false
set_option maxRecDepth 100000
set_option maxHeartbeats 64000000
namespace Go.Proofs.YtalmoejhjceflaaGreat
open Go.RowKit Go.Proofs.Tryz
theorem Tt (L:List Int) (z:Int) (m:1<=L.length) (b:L.length<=1000) (g:L[L.length-1]?=some z) (h: -1000000000<=z) (j:z<=1000000000):CallC prog 88 [mY L] ⟨[],.raw (.int .i64 (Int.tdiv (z-1) 2))⟩:=by
 have e:IntKind.i64.wrap ((L.length:Int)-1)=((L.length-1:Nat):Int):=by grind [aK]
 have l:(Int.tdiv (z-1) 2).natAbs<=(z-1).natAbs:=by
  grind
 have f:IntKind.i64.wrap (Int.tdiv (z-1) 2)=Int.tdiv (z-1) 2:=aK (by omega) (by omega);have c:L.length-1<L.length:=by omega
 refine aA func88 rfl ntmps88 (aC (k:=aL (aH e (aH g f)) (k:=aD @results88)))
def Lu (f:FF) (x:List Int) (i j:Nat):Int:=smF (fun b=>f i b*x.getD i 0*x.getD b 0) j
def MH (f:FF) (x:List Int) (n i:Nat):Int:=smF (fun a=>Lu f x a n) i
theorem Jm {f:FF} {x:List Int} {n E T i b:Nat} (g: ∀i j,i<n->j<n->(f i j).natAbs<=E) (h: ∀i,(x.getD i 0).natAbs<=T) (l:E*T*T<=72057594037927936) (m:i<n) (o:b<n):(f i b*x.getD i 0).natAbs<=72057594037927936/\(f i b*x.getD i 0*x.getD b 0).natAbs<=72057594037927936:=by
 have c:(f i b*x.getD i 0).natAbs<=E*T:=by simp_all[abk,aaT]
 have e:(f i b*x.getD i 0*x.getD b 0).natAbs<=E*T*T:=by rw[abk];simp_all[aaT]
 grind [Nat.le_trans,Nat.le_mul_of_pos_right]
theorem Tg (n:Nat) (f:FF) (x:List Int) (E T:Nat) (hn:n<=8) (hx:x.length=n) (o: ∀i j,i<n->j<n->(f i j).natAbs<=E) (y: ∀i,(x.getD i 0).natAbs<=T) (z:E*T*T<=72057594037927936):
  CallC prog 40 [cq (mat n n f),mY x] ⟨[],.raw (.int .i64 (MH f x n n))⟩:=by
 have H:=aT n n f;have K: ∀i,i<n-> ∀j,j<=n->(Lu f x i j).natAbs<=576460752303423488:=fun i c j C=>by
  have:=uT (F:=fun b=>f i b*x.getD i 0*x.getD b 0) (B:=72057594037927936) j fun b M=>(Jm o y z c (by omega)).2
  unfold Lu;omega
 have L: ∀i,i<=n->(MH f x n i).natAbs<=4611686018427387904:=fun i c=>by
  have:=uT (F:=fun a=>Lu f x a n) (B:=576460752303423488) i fun a ha=>K a (by omega) n (aar n)
  unfold MH;omega
 have l: ∀i,i<n->x[i]?=some (x.getD i 0):=fun i c=>by grind
 have r: ∀i j,Lu f x i j+f i j*x.getD i 0*x.getD j 0=Lu f x i (j+1):=fun _ _=>rfl
 have v: ∀i,MH f x n i+Lu f x i n=MH f x n (i+1):=fun _=>rfl
 have q: ∀i,Lu f x i 0=0:=fun _=>rfl
 have t:MH f x n 0=0:=rfl;have h: ∀i,i<n->(mat n n f)[i]?=some (aN n (f i)):=fun i c=>bF n f c
 have P:=fun i b (c:i<n) (C:b<n)=>Jm (x:=x) o y z c C
 clear o y z;refine aA func40 rfl ntmps40 (aC (k:=bC (k:=ai (f9 H (k:=?_)))));refine aB (G:=jx n) (fun g=>⟨(jk::mY x::jk::jk::jk::.raw (.int .i64 (MH f x n g.i))::j4 (cq (mat n n f)::rN n::rN g.i::j16 (j4 (j4 (jk::jk::jk::[]))))),Hm []⟩) (fun g=>n-g.i) ⟨0,by omega⟩ ?_ ?_
 ·refine aj trivial ?_;simp[wk,t]
 rintro⟨i,c⟩;simp only;by_cases m:i<n
 ·have O:=h i m;have I:=aI n (f i);refine ar (k:=be rfl (ai (am (aL O (k:=f9 I (k:=?_))))));refine aB (G:=jx n) (fun g=>⟨(jk::mY x::jk::jk::jk::.raw (.int .i64 (MH f x n i+Lu f x i g.i))::rN i::jk::jk::jk::cq (mat n n f)::rN n::rN i::j4 (mY (aN n (f i))::rN n::rN g.i::j16 (j4 ([])))),Hm []⟩) (fun g=>n-g.i) ⟨0,by omega⟩ ?_ ?_
  ·refine aj trivial ?_;simp[wk,q]
  rintro⟨j,C⟩;simp only;by_cases e:j<n
  ·have N:=aw (f i) e;have U:=l i m;have V:=l j e;have t1:=P i j m e;have s1:=r i j;have Y:=K i m (j+1) (by omega);have Z:=L i (by omega);have S:MH f x n i+Lu f x i j+f i j*x.getD i 0*x.getD j 0=MH f x n i+Lu f x i (j+1):=by omega
   generalize x.getD i 0=W at*
   generalize x.getD j 0=X at*
   generalize f i j=a at*
   generalize J:Lu f x i (j+1)=s' at*
   generalize Lu f x i j=s at*
   generalize MH f x n i=p at*
   generalize Q:a*W=u at*
   generalize R:u*X=w at*
   refine ar (k:=be rfl (ai (am (aL N (k:=nn (aH U (aH Q (aH V (aH R S)))) (k:=bS (k:=?_)))))));refine⟨⟨j+1,by omega⟩,by grind,aj trivial ?_⟩;simp[wk,J]
  have D:j=n:=by omega
  subst D;refine ar (k:=bv rfl (bS (k:=?_)));refine⟨⟨i+1,by omega⟩,by grind,aj trivial ?_⟩;simp[wk,v]
 have A:i=n:=by omega
 subst A;refine ar (k:=bv rfl (bC (k:=aD @results40)))
theorem Wv (n:Nat) (f:FF) (r:1<=n) (x:n<=16):CallC prog 39 [cq (mat n n f)] ⟨[],mY (aN n fun i=>f i i)⟩:=by
 have b:=aT n n f;have u:List.replicate n [AV.p (.raw (.int .i64 0))]=lc fI (aN n fun j=>if j<0 then f j j else 0):=by
  have v:(aN n fun j=>if j<0 then f j j else 0)=List.replicate n 0:=aaC fun i=>by
   grind [aN]
  grind [X6]
 refine aA func39 rfl ntmps39 (aC (k:=aL b (k:=ai (f9 b (k:=?_)))));refine aB (G:=jx n) (fun g=>⟨(jk::jk::jk::.one (.sl 8 0 0 n)::j4 (jk::cq (mat n n f)::rN n::rN g.i::j4 (j4 (j4 (jk::[]))))),Hm [(8,[⟨2,1,lc fI (aN n fun j=>if j<g.i then f j j else 0)⟩])]⟩) (fun g=>n-g.i) ⟨0,by omega⟩ ?_ ?_
 ·refine aj ⟨?_,trivial⟩ ?_
  ·rw[<- u];rfl
  simp[wk]
 rintro⟨i,w⟩;simp only;by_cases m:i<n
 ·have s:=bF n f m;have q:=aw (f i) m;have t:=aI n (f i);have h:=aI n (fun j=>if j<i then f j j else 0);have e:=aw (fun j=>if j<i then f j j else 0) m;have c:(lc fI (aN n fun j=>if j<i then f j j else 0)).set i [AV.p (.raw (.int .i64 (f i i)))]=lc fI (aN n fun j=>if j<i+1 then f j j else 0):=by
   rw[show[AV.p (.raw (.int .i64 (f i i)))]=(fI (f i i)).map AV.p from rfl,wM,kj];grind
  refine ar (k:=be rfl (ai (am (aL s (k:=eK (aH q (aH e c)) (k:=bS (k:=?_)))))));refine⟨⟨i+1,by omega⟩,by grind,aj ⟨rfl,trivial⟩ ?_⟩;simp[wk]
 have l:i=n:=by omega
 subst l;have h:=aI i (fun j=>if j<i then f j j else 0);refine ar (k:=bv rfl (bC (k:=?_)));refine aW ⟨.inr rfl,jt 8 (bO rfl) ?_ rfl⟩;have o:List.take i (aN i fun j=>if j<i then f j j else 0)=aN i fun j=>f j j:=by
  grind [dm]
 simp(disch:=omega) only[kd,results39,o,mY]
def GI (L:List Int):Nat->Int
 |0=>L.getD 0 0
 |i+1=>if L.getD (i+1) 0<GI L i then L.getD (i+1) 0 else GI L i
structure MnG (n:Nat) where
 i:Nat
 h:i+1<=n
theorem YU (L:List Int) (m:1<=L.length) (p:L.length<=1000):CallC prog 38 [mY L] ⟨[],.raw (.int .i64 (GI L (L.length-1)))⟩:=by
 have j: ∀i,i<L.length->L[i]?=some (L.getD i 0):=fun i n=>by grind
 have l:=j 0 (by omega);have c:GI L 0=L.getD 0 0:=rfl;have e: ∀i,(if L.getD (i+1) 0<GI L i then L.getD (i+1) 0 else GI L i)=GI L (i+1):=fun _=>rfl
 refine aA func38 rfl ntmps38 (aC (k:=ai (ar (k:=aq rfl (ak (aL l (k:=ai (bC (k:=?_)))))))));refine aB (G:=MnG L.length) (fun g=>⟨(mY L::jk::jk::.raw (.int .i64 (GI L g.i))::.raw (.int .i64 ((g.i+1:Nat):Int))::j16 (j4 ([]))),Hm []⟩) (fun g=>L.length-g.i) ⟨0,m⟩ ?_ ?_
 ·refine aj trivial ?_;simp[wk,c]
 rintro⟨i,n⟩;simp only;by_cases h:i+1<L.length
 ·have f:=j (i+1) h;have o:=e i;refine ai (ar (k:=ay rfl (ak (ai (am (eK (aH f o) (k:=bS (k:=?_))))))));refine⟨⟨i+1,h⟩,by grind,aj trivial ?_⟩;simp[wk]
 have b:i=L.length-1:=by omega
 subst b;refine ai (ar (k:=aq rfl (aZ (bC (k:=aD @results38)))))
theorem OR (x:Int) (l:List Int):ls fI (x::l)=fI x::ls fI l:=rfl
theorem W8 {P:Program} {c:Func} {d:Nat} {f:TypeId} {l:List Int} {s:AS} (h:s.H d=[⟨f,1,lc fI l⟩]) (b:pS P s c.results.toList=some (.one (.sl d 0 0 l.length))) (g:d<=4999):
  ∃e,bG s e/\mZ P c ⟨[⟨f,1,lc fI l⟩],.one (.sl 0 0 0 l.length)⟩ e:=
 ⟨s,bG.refl s,_,d,b,xO (by rfl) g,by grind [renO,iC],rfl⟩
theorem NG (l:List Int) (e:1<=l.length) (f:l.length<=1000):CallC prog 142 [mY l] ⟨[⟨2,1,lc fI l⟩],.one (.sl 0 0 0 l.length)⟩:=by
 obtain⟨x,c,rfl⟩: ∃x c,l=x::c:=by
  cases l with
  |nil=>simp at e
  |cons x c=>simp
 refine aA func142 rfl ntmps142 (aC (k:=ai (f9 @OR (k:=?_))));have b:([PV.raw (.int .i64 x)]::ls fI c)=ls fI (x::c):=rfl;simp only[b];clear b;generalize x::c=L at*
 refine aq rfl (ak ?_);show bf _ _ _ _;refine aQ [] [5] fun _ K=>?_;simp(disch:=omega) only[kd,Nat.reduceAdd,Nat.reduceMul,aaW,Nat.reduceLeDiff,OJ N7];apply K
 refine aW ⟨.inr rfl,W8 (d:=5) rfl ?_ (by decide)⟩;simp(disch:=omega) only[kd,results142]
theorem gR {a b:Int} (h:a<=b):rng a b=a::rng (a+1) b:=by
 unfold rng;rw[show(b-a+1).toNat=(b-(a+1)+1).toNat+1 by omega,List.range_succ_eq_map,aaI,abV]
 congr 1
 ·simp
 grind [List.map_congr_left]
theorem jd {a b:Int} (h: ¬a<=b):rng a b=[]:=by
 grind [rng]
theorem CR {P:Program} {j:Type} {L:f5 j} {f:List Nat} {s:AS} {g:j} {c z:Code} {Q:Exit->AS->j->Prop} (S:AS) (n:dW P L f c (rP (fun h b=>bG h S/\b=g) Q) s g) (o:dW P L f z Q S g):dW P L f c (rP (dW P L f z Q) Q) s g:=fun q Y t O X a w r=>
 wp_mono (n q Y t O X a w r) fun e u v ⟨h,b,l,m⟩=>by
  cases e with
  |normal=>
   obtain⟨p,rfl⟩:=l;exact⟨h,b,o.weak p,m⟩
  |_=>exact⟨h,b,l,m⟩
noncomputable def yh (f:FF) (n:Nat) (B:Int) (ex:Bool):Nat->List Int->Bool->List (List Int)
 |0,y,z=>(rng (if z=true then 0 else eB f n B 0 (aY n y)) (fC f n B 0 (aY n y))).flatMap fun c=>if(z&&decide (c=0))=true\/(ex&&!decide (pT f n B 0 (aY n (c::y))=0))=true then[]else[c::y]
 |k+1,y,z=>(rng (if z=true then 0 else eB f n B (k+1) (aY n y)) (fC f n B (k+1) (aY n y))).flatMap fun c=>yh f n B ex k (c::y) (z&&decide (c=0))
abbrev Dg (a n m:Nat) (y D:List Int) (M acc:List (List Int)) (ex:Bool):List OObj:=[⟨182,1,[[.fn 139 a [(1,0,0),(2,0,0),(0,0,0),(6,0,0),(4,0,0)]]]⟩,⟨180,2,[[.p (.sl (ls fI D)),.p (.sl (ls (fR fI) M))]]⟩,⟨35,1,[[.sl a 3 0 n]]⟩,⟨2,1,gh m++lc fI y⟩,⟨26,1,[[.sl a 5 0 acc.length]]⟩,⟨35,1,lc (fR fI) acc⟩,⟨4,1,[[.p (.raw (.bool ex))]]⟩]
theorem uB (a d n m:Nat) (y D:List Int) (M acc:List (List Int)) (ex:Bool):(Dg a n m y D M acc ex).map (renO d)=Dg d n m y D M acc ex:=by
 simp only[Dg,aaI,aaY,renO,cb,iC,abe,gY,adw,aaZ,if_false]
theorem Dh (a n m:Nat) (y D:List Int) (M acc:List (List Int)) (ex:Bool): ∀o∈Dg a n m y D M acc ex,selfO a o:=fun o f e b x c=>by
 simp only[aaR,abj,or_false]at f;rcases f with rfl|rfl|rfl|rfl|rfl|rfl|rfl
 ·simp only[aaq]at b;subst b;simp only[aaq]at c;subst c;exact⟨rfl,by simp⟩
 ·simp only[aaq]at b;subst b;simp only[aaR,abj,or_false]at c;rcases c with rfl|rfl<;>trivial
 ·simp only[aaq]at b;subst b;simp only[aaq]at c;subst c;rfl
 ·simp only[abf]at b;rcases b with b|b
  ·obtain⟨_,rfl⟩:=ach.1 b;simp only[aaq]at c;subst c;trivial
  exact cf (bo 2 1 _ e b x c)
 ·simp only[aaq]at b;subst b;simp only[aaq]at c;subst c;rfl
 ·exact cf (bo 35 1 _ e b x c)
 simp only[aaq]at b;subst b;simp only[aaq]at c;subst c;trivial
abbrev Vm:List (Nat×Nat):=[(1,3),(2,4),(0,5),(6,6),(4,7)]
theorem Wt (a n m f:Nat) (y g D:List Int) (M acc b:List (List Int)) (ex:Bool): ∀r∈Vm.map Prod.fst,∀o,(Dg a n m y D M acc ex)[r]?=some o-> ∃c,(Dg a n f g D M b ex)[r]?=some c/\c.es=o.es/\o.elems.length<=c.elems.length:=fun r e o h=>by
 simp only[Vm,aaI,aaY,aaR,abj,or_false]at e;rcases e with rfl|rfl|rfl|rfl|rfl<;>(injection h with h;subst h;simp)
abbrev srA (k:Nat) (b:Int) (z:Bool):List TV:=[.raw (.int .i64 (k:Int)),.raw (.int .i64 b),.raw (.bool z),.one (.ptr 0 1 0 0),.one (.ptr 0 2 0 0),.one (.ptr 0 0 0 0),.one (.ptr 0 6 0 0),.one (.ptr 0 4 0 0)]
abbrev Yu (n:Nat) (f:FF) (B:Int) (ex:Bool) (k:Nat) (y:List Int) (z:Bool) (acc:List (List Int)):Prop:=
 ku prog YY (Vm.map Prod.fst) 139 (srA k (pT f n B (k+1) (aY n y)) z) (Dg 0 n (k+1) y (aN (n+1) (dk f)) (fd n f n) acc ex) (Dg 0 n (k+1) y (aN (n+1) (dk f)) (fd n f n) (acc++yh f n B ex k y z) ex) () () (.tup [])
end Go.Proofs.YtalmoejhjceflaaGreat
