/-
  Part 23 of a proof (walks and plain facts).
-/
import Derived.Test.YtalmoejhjceflaaGreatR21
set_option linter.all false
set_option maxRecDepth 100000
set_option maxHeartbeats 64000000
open Nat renaming reduceAdd → aa
open List renaming replicate → ae
open Nat renaming reduceBEq → af
namespace Go.Proofs.YtalmoejhjceflaaGreat
open Go.RowKit Go.Proofs.Tryz
variable {n m:Nat} {s:AS} {b:Array Oper} {c:List Int} {e:List Nat} {f:Oper} {g:List TV} {P:Program} {h:FuncId} {j:TypeId} {l:OH} {o:TV} {x:Int}
theorem Tt (L:List Int) (z:Int) (m:1<=L.length) (b:L.length<=1000) (g:L[L.length-1]?=some z) (h: -1000000000<=z) (j:z<=1000000000):CallC prog 88 [kE L] ⟨[],.raw (.int .i64 (Int.tdiv (z-1) 2))⟩:=by
 have e:IntKind.i64.wrap ((L.length:Int)-1)=((L.length-1:Nat):Int):=by grind [aR]
 have l:(Int.tdiv (z-1) 2).natAbs<=(z-1).natAbs:=by
  grind
 have f:IntKind.i64.wrap (Int.tdiv (z-1) 2)=Int.tdiv (z-1) 2:=aR (by omega) (by omega);have c:L.length-1<L.length:=by omega
 refine ay func88 rfl ntmps88 (aA (k:=aK (aH e (aH g f)) (k:=aG @results88)))
def Lu (f:FF) (x:List Int) (i j:Nat):Int:=dJ (fun b=>f i b*x.getD i 0*x.getD b 0) j
def MH (f:FF) (x:List Int) (n i:Nat):Int:=dJ (fun a=>Lu f x a n) i
theorem Jx {f:FF} {x:List Int} {T i b:Nat} (g: ∀i j,i<n->j<n->(f i j).natAbs<=m) (h: ∀i,(x.getD i 0).natAbs<=T) (l:m*T*T<=72057594037927936) (o:i<n) (p:b<n):(f i b*x.getD i 0).natAbs<=72057594037927936/\(f i b*x.getD i 0*x.getD b 0).natAbs<=72057594037927936:=by
 have c:(f i b*x.getD i 0).natAbs<=m*T:=by simp_all[abv,aaU]
 have e:(f i b*x.getD i 0*x.getD b 0).natAbs<=m*T*T:=by rw[abv];simp_all[aaU]
 grind [Nat.le_trans,Nat.le_mul_of_pos_right]
theorem Te (n:Nat) (f:FF) (x:List Int) (E T:Nat) (hn:n<=8) (hx:x.length=n) (o: ∀i j,i<n->j<n->(f i j).natAbs<=E) (y: ∀i,(x.getD i 0).natAbs<=T) (z:E*T*T<=72057594037927936):
  CallC prog 40 [dn (mat n n f),kE x] ⟨[],.raw (.int .i64 (MH f x n n))⟩:=by
 have H:=aU n n f;have K: ∀i,i<n-> ∀j,j<=n->(Lu f x i j).natAbs<=576460752303423488:=fun i c j C=>by
  have:=rT (F:=fun b=>f i b*x.getD i 0*x.getD b 0) (B:=72057594037927936) j fun b M=>(Jx o y z c (by omega)).2
  unfold Lu;omega
 have L: ∀i,i<=n->(MH f x n i).natAbs<=4611686018427387904:=fun i c=>by
  have:=rT (F:=fun a=>Lu f x a n) (B:=576460752303423488) i fun a ha=>K a (by omega) n (aaq n)
  unfold MH;omega
 have l: ∀i,i<n->x[i]?=some (x.getD i 0):=fun i c=>by grind
 have r: ∀i j,Lu f x i j+f i j*x.getD i 0*x.getD j 0=Lu f x i (j+1):=fun _ _=>rfl
 have v: ∀i,MH f x n i+Lu f x i n=MH f x n (i+1):=fun _=>rfl
 have q: ∀i,Lu f x i 0=0:=fun _=>rfl
 have t:MH f x n 0=0:=rfl;have h: ∀i,i<n->(mat n n f)[i]?=some (aQ n (f i)):=fun i c=>bE n f c
 have P:=fun i b (c:i<n) (C:b<n)=>Jx (x:=x) o y z c C
 clear o y z;refine ay func40 rfl ntmps40 (aA (k:=bz (k:=ai (fL H (k:=?_)))));refine aF (G:=jo n) (fun g=>⟨(jk::kE x::jk::jk::jk::.raw (.int .i64 (MH f x n g.i))::j4 (dn (mat n n f)::rN n::rN g.i::j16 (j4 (j4 (jk::jk::jk::[]))))),Hm []⟩) (fun g=>n-g.i) ⟨0,by omega⟩ ?_ ?_
 ·refine aj trivial ?_;simp[wk,t]
 rintro⟨i,c⟩;simp only;by_cases m:i<n
 ·have O:=h i m;have I:=aI n (f i);refine ar (k:=bi rfl (ai (am (aK O (k:=fL I (k:=?_))))));refine aF (G:=jo n) (fun g=>⟨(jk::kE x::jk::jk::jk::.raw (.int .i64 (MH f x n i+Lu f x i g.i))::rN i::jk::jk::jk::dn (mat n n f)::rN n::rN i::j4 (kE (aQ n (f i))::rN n::rN g.i::j16 (j4 ([])))),Hm []⟩) (fun g=>n-g.i) ⟨0,by omega⟩ ?_ ?_
  ·refine aj trivial ?_;simp[wk,q]
  rintro⟨j,C⟩;simp only;by_cases e:j<n
  ·have N:=aB (f i) e;have U:=l i m;have V:=l j e;have t1:=P i j m e;have s1:=r i j;have Y:=K i m (j+1) (by omega);have Z:=L i (by omega);have S:MH f x n i+Lu f x i j+f i j*x.getD i 0*x.getD j 0=MH f x n i+Lu f x i (j+1):=by omega
   generalize x.getD i 0=W at*
   generalize x.getD j 0=X at*
   generalize f i j=a at*
   generalize J:Lu f x i (j+1)=s' at*
   generalize Lu f x i j=s at*
   generalize MH f x n i=p at*
   generalize Q:a*W=u at*
   generalize R:u*X=w at*
   refine ar (k:=bi rfl (ai (am (aK N (k:=sX (aH U (aH Q (aH V (aH R S)))) (k:=bL (k:=?_)))))));refine⟨⟨j+1,by omega⟩,by grind,aj trivial ?_⟩;simp[wk,J]
  have D:j=n:=by omega
  subst D;refine ar (k:=bv rfl (bL (k:=?_)));refine⟨⟨i+1,by omega⟩,by grind,aj trivial ?_⟩;simp[wk,v]
 have A:i=n:=by omega
 subst A;refine ar (k:=bv rfl (bz (k:=aG @results40)))
theorem Wu (n:Nat) (f:FF) (r:1<=n) (x:n<=16):CallC prog 39 [dn (mat n n f)] ⟨[],kE (aQ n fun i=>f i i)⟩:=by
 have b:=aU n n f;have u:ae n [AV.p (.raw (.int .i64 0))]=lc fI (aQ n fun j=>if j<0 then f j j else 0):=by
  have v:(aQ n fun j=>if j<0 then f j j else 0)=ae n 0:=aay fun i=>by
   grind [aQ]
  grind [WB]
 refine ay func39 rfl ntmps39 (aA (k:=aK b (k:=ai (fL b (k:=?_)))));refine aF (G:=jo n) (fun g=>⟨(jk::jk::jk::.one (.sl 8 0 0 n)::j4 (jk::dn (mat n n f)::rN n::rN g.i::j4 (j4 (j4 (jk::[]))))),Hm [(8,[⟨2,1,lc fI (aQ n fun j=>if j<g.i then f j j else 0)⟩])]⟩) (fun g=>n-g.i) ⟨0,by omega⟩ ?_ ?_
 ·refine aj ⟨?_,trivial⟩ ?_
  ·rw[<- u];rfl
  simp[wk]
 rintro⟨i,w⟩;simp only;by_cases m:i<n
 ·have s:=bE n f m;have q:=aB (f i) m;have t:=aI n (f i);have h:=aI n (fun j=>if j<i then f j j else 0);have e:=aB (fun j=>if j<i then f j j else 0) m;have c:(lc fI (aQ n fun j=>if j<i then f j j else 0)).set i [AV.p (.raw (.int .i64 (f i i)))]=lc fI (aQ n fun j=>if j<i+1 then f j j else 0):=by
   rw[show[AV.p (.raw (.int .i64 (f i i)))]=(fI (f i i)).map AV.p from rfl,tg,mn];grind
  refine ar (k:=bi rfl (ai (am (aK s (k:=dZ (aH q (aH e c)) (k:=bL (k:=?_)))))));refine⟨⟨i+1,by omega⟩,by grind,aj ⟨rfl,trivial⟩ ?_⟩;simp[wk]
 have l:i=n:=by omega
 subst l;have h:=aI i (fun j=>if j<i then f j j else 0);refine ar (k:=bv rfl (bz (k:=?_)));refine aW ⟨.inr rfl,fF 8 (bG rfl) ?_ rfl⟩;have o:List.take i (aQ i fun j=>if j<i then f j j else 0)=aQ i fun j=>f j j:=by
  grind [eB]
 simp(disch:=omega) only[kd,results39,o,kE]
def GJ (L:List Int):Nat->Int
 |0=>L.getD 0 0
 |i+1=>if L.getD (i+1) 0<GJ L i then L.getD (i+1) 0 else GJ L i
structure MnG (n:Nat) where
 i:Nat
 h:i+1<=n
theorem YW (L:List Int) (m:1<=L.length) (p:L.length<=1000):CallC prog 38 [kE L] ⟨[],.raw (.int .i64 (GJ L (L.length-1)))⟩:=by
 have j: ∀i,i<L.length->L[i]?=some (L.getD i 0):=fun i n=>by grind
 have l:=j 0 (by omega);have c:GJ L 0=L.getD 0 0:=rfl;have e: ∀i,(if L.getD (i+1) 0<GJ L i then L.getD (i+1) 0 else GJ L i)=GJ L (i+1):=fun _=>rfl
 refine ay func38 rfl ntmps38 (aA (k:=ai (ar (k:=aq rfl (ak (aK l (k:=ai (bz (k:=?_)))))))));refine aF (G:=MnG L.length) (fun g=>⟨(kE L::jk::jk::.raw (.int .i64 (GJ L g.i))::.raw (.int .i64 ((g.i+1:Nat):Int))::j16 (j4 ([]))),Hm []⟩) (fun g=>L.length-g.i) ⟨0,m⟩ ?_ ?_
 ·refine aj trivial ?_;simp[wk,c]
 rintro⟨i,n⟩;simp only;by_cases h:i+1<L.length
 ·have f:=j (i+1) h;have o:=e i;refine ai (ar (k:=aC rfl (ak (ai (am (dZ (aH f o) (k:=bL (k:=?_))))))));refine⟨⟨i+1,h⟩,by grind,aj trivial ?_⟩;simp[wk]
 have b:i=L.length-1:=by omega
 subst b;refine ai (ar (k:=aq rfl (aY (bz (k:=aG @results38)))))
theorem O0 (x:Int) (l:List Int):ls fI (x::l)=fI x::ls fI l:=rfl
theorem Xd {e:Func} {d:Nat} (h:s.H d=[⟨j,1,lc fI c⟩]) (b:pj P s e.results.toList=some (.one (.sl d 0 0 c.length))) (g:d<=4999):
  ∃f,bD s f/\np P e ⟨[⟨j,1,lc fI c⟩],.one (.sl 0 0 0 c.length)⟩ f:=
 ⟨s,bD.refl s,_,d,b,yh (by rfl) g,by grind [renO,iH],rfl⟩
theorem NL (l:List Int) (e:1<=l.length) (f:l.length<=1000):CallC prog 142 [kE l] ⟨[⟨2,1,lc fI l⟩],.one (.sl 0 0 0 l.length)⟩:=by
 obtain⟨x,c,rfl⟩: ∃x c,l=x::c:=by
  cases l with
  |nil=>simp at e
  |cons x c=>simp
 refine ay func142 rfl ntmps142 (aA (k:=ai (fL @O0 (k:=?_))));have b:([PV.raw (.int .i64 x)]::ls fI c)=ls fI (x::c):=rfl;simp only[b];clear b;generalize x::c=L at*
 refine aq rfl (ak ?_);show bo _ _ _ _;refine bC [] [5] fun _ K=>?_;simp(disch:=omega) only[kd,aa,Nat.reduceMul,aaW,Nat.reduceLeDiff,xu Gn];apply K
 refine aW ⟨.inr rfl,Xd (d:=5) rfl ?_ (by decide)⟩;simp(disch:=omega) only[kd,results142]
theorem ip {a b:Int} (h:a<=b):rng a b=a::rng (a+1) b:=by
 unfold rng;rw[show(b-a+1).toNat=(b-(a+1)+1).toNat+1 by omega,acL,aaC,abn]
 congr 1
 ·simp
 grind [List.map_congr_left]
theorem jM {a:Int} (h: ¬a<=x):rng a x=[]:=by
 grind [rng]
theorem CU {j:Type} {L:iw j} {g:j} {c z:Code} {Q:Exit->AS->j->Prop} (S:AS) (n:eD P L e c (se (fun h f=>bD h S/\f=g) Q) s g) (o:eD P L e z Q S g):eD P L e c (se (eD P L e z Q) Q) s g:=fun q Y t O X a w r=>
 wp_mono (n q Y t O X a w r) fun b u v ⟨h,f,l,m⟩=>by
  cases b with
  |normal=>
   obtain⟨p,rfl⟩:=l;exact⟨h,f,o.weak p,m⟩
  |_=>exact⟨h,f,l,m⟩
noncomputable def yE (f:FF) (n:Nat) (B:Int) (ex:Bool):Nat->List Int->Bool->List (List Int)
 |0,y,z=>(rng (if z=true then 0 else cz f n B 0 (aL n y)) (di f n B 0 (aL n y))).flatMap fun c=>if(z&&decide (c=0))=true\/(ex&&!decide (qi f n B 0 (aL n (c::y))=0))=true then[]else[c::y]
 |k+1,y,z=>(rng (if z=true then 0 else cz f n B (k+1) (aL n y)) (di f n B (k+1) (aL n y))).flatMap fun c=>yE f n B ex k (c::y) (z&&decide (c=0))
abbrev De (a n m:Nat) (y D:List Int) (M acc:List (List Int)) (ex:Bool):List OObj:=[⟨182,1,[[.fn 139 a [(1,0,0),(2,0,0),(0,0,0),(6,0,0),(4,0,0)]]]⟩,⟨180,2,[[.p (.sl (ls fI D)),.p (.sl (ls (fR fI) M))]]⟩,⟨35,1,[[.sl a 3 0 n]]⟩,⟨2,1,gM m++lc fI y⟩,⟨26,1,[[.sl a 5 0 acc.length]]⟩,⟨35,1,lc (fR fI) acc⟩,⟨4,1,[[.p (.raw (.bool ex))]]⟩]
theorem vj (a d n m:Nat) (y D:List Int) (M acc:List (List Int)) (ex:Bool):(De a n m y D M acc ex).map (renO d)=De d n m y D M acc ex:=by
 simp only[De,aaC,aaR,renO,bY,iH,aba,iG,adG,aa5,if_false]
theorem Df (a n m:Nat) (y D:List Int) (M acc:List (List Int)) (ex:Bool): ∀o∈De a n m y D M acc ex,selfO a o:=fun o f e b x c=>by
 simp only[aaV,abu,or_false]at f;rcases f with rfl|rfl|rfl|rfl|rfl|rfl|rfl
 ·simp only[aam]at b;subst b;simp only[aam]at c;subst c;exact⟨rfl,by simp⟩
 ·simp only[aam]at b;subst b;simp only[aaV,abu,or_false]at c;rcases c with rfl|rfl<;>trivial
 ·simp only[aam]at b;subst b;simp only[aam]at c;subst c;rfl
 ·simp only[abe]at b;rcases b with b|b
  ·obtain⟨_,rfl⟩:=aca.1 b;simp only[aam]at c;subst c;trivial
  exact cG (bF 2 1 _ e b x c)
 ·simp only[aam]at b;subst b;simp only[aam]at c;subst c;rfl
 ·exact cG (bF 35 1 _ e b x c)
 simp only[aam]at b;subst b;simp only[aam]at c;subst c;trivial
abbrev Vn:List (Nat×Nat):=[(1,3),(2,4),(0,5),(6,6),(4,7)]
theorem Wr (a n m f:Nat) (y g D:List Int) (M acc b:List (List Int)) (ex:Bool): ∀r∈Vn.map Prod.fst,∀o,(De a n m y D M acc ex)[r]?=some o-> ∃c,(De a n f g D M b ex)[r]?=some c/\c.es=o.es/\o.elems.length<=c.elems.length:=fun r e o h=>by
 simp only[Vn,aaC,aaR,aaV,abu,or_false]at e;rcases e with rfl|rfl|rfl|rfl|rfl<;>(injection h with h;subst h;simp)
abbrev srA (k:Nat) (b:Int) (z:Bool):List TV:=[.raw (.int .i64 (k:Int)),.raw (.int .i64 b),.raw (.bool z),.one (.ptr 0 1 0 0),.one (.ptr 0 2 0 0),.one (.ptr 0 0 0 0),.one (.ptr 0 6 0 0),.one (.ptr 0 4 0 0)]
abbrev Yu (n:Nat) (f:FF) (B:Int) (ex:Bool) (k:Nat) (y:List Int) (z:Bool) (acc:List (List Int)):Prop:=
 lQ prog Zu (Vn.map Prod.fst) 139 (srA k (qi f n B (k+1) (aL n y)) z) (De 0 n (k+1) y (aQ (n+1) (dk f)) (fo n f n) acc ex) (De 0 n (k+1) y (aQ (n+1) (dk f)) (fo n f n) (acc++yE f n B ex k y z) ex) () () (.tup [])
section
/-! Operation m as a call without arguments. -/
def ri (o:Oper):Oper:={o with op:= .call {callee:= .value (.func 0),args:= #[],argTypes:= #[]}}
def yU:Nat->List Oper->List Oper
 |_,[]=>[]
 |0,o::l=>ri o::l
 |m+1,o::l=>o::yU m l
def nG (b:Array Oper) (m:Nat):Array Oper:=⟨yU m b.toList⟩
theorem DX: ∀(m:Nat) (l:List Oper) (i:Nat),(yU m l)[i]?=if i=m then(l[i]?).map ri else l[i]?
 |m,[],i=>by simp[yU]
 |0,o::l,0=>rfl
 |0,o::l,i+1=>by simp[yU]
 |m+1,o::l,0=>by simp[yU]
 |m+1,o::l,i+1=>by simp[yU,DX m l i]
theorem DY: ∀(m:Nat) (l:List Oper),(yU m l).length=l.length
 |m,[]=>by simp[yU]
 |0,o::l=>rfl
 |m+1,o::l=>by simp[yU,DY m l]
section
variable {P:Program} {ops:Array Oper} {m:Nat} {s:AS}
theorem kZ (i:Nat):(nG ops m)[i]?=if i=m then(ops[i]?).map ri else ops[i]?:=by
 have:=DX m ops.toList i;simpa[nG] using this
theorem O6:(nG ops m).size=ops.size:=by simp[nG,DY]
theorem S8 (g:Nat):((nG ops m)[g]?).bind (·.dst)=(ops[g]?).bind (·.dst):=by
 rw[kZ];split
 ·cases ops[g]?<;>rfl
 rfl
theorem C2 {b:List (cB P)} {i:Nat}:aS P b e (nG ops m) i f s=aS P b e ops i f s:=by
 unfold aS;simp only[S8]
theorem Ao {b:Array Bool} {i:Nat}:i∈Region.ready .any (nG ops m) b↔i∈Region.ready .any ops b:=by
 constructor
 ·intro h;obtain⟨f,o,c,g⟩:=mem_ready.1 h;rw[kZ]at c;split at c
  ·obtain⟨l,j,rfl⟩:=u6.1 c;exact mem_ready.2 ⟨f,l,j,g⟩
  exact mem_ready.2 ⟨f,o,c,g⟩
 intro h;obtain⟨f,o,c,g⟩:=mem_ready.1 h;by_cases e:i=m
 ·exact mem_ready.2 ⟨f,ri o,by rw[kZ,if_pos e,c];rfl,g⟩
 exact mem_ready.2 ⟨f,o,by rw[kZ,if_neg e];exact c,g⟩
theorem Nr {Qn:Act->World->Prop} {Wp:Nat->(Act->World->Prop)->Act->World->Prop}: ∀f,pF (nG ops m) Qn Wp f=pF ops Qn Wp f:=by
 have c: ∀b,Region.ready .any (nG ops m) b=[]↔Region.ready .any ops b=[]:=fun b=>by
  simp only[adb,Ao]
 intro f
 induction f with
 |zero=>funext l a w;simp only[pF,c]
 |succ f e=>funext l a w;simp only[pF,c,Ao,e]
/-! What some slots and families hold. -/
def sJ (rd b:List Nat) (s c:AS):Prop:=(∀k∈rd,c.tmps[k]?=s.tmps[k]?)/\ ∀x∈b,c.H x=s.H x
def I9 (rd b:List Nat) (o:Oper):Bool:=Zt o.op&&(rd.all fun k=>o.dst !=some k)&&b.all fun k=>o.dst !=some k
variable {items:List (cB P)} {ow:List Nat} {rd fas:List Nat} {sep:List (Nat×Nat×Nat)}
theorem K1 {i:Nat} {v:AS} (h:I9 rd fas f=true) (u:aS P items ow ops i f s=some v):sJ rd fas s v:=by
 unfold I9 at h;simp only[aaF,aah,bne_iff_ne,ne_eq]at h;obtain⟨⟨w,p⟩,y⟩:=h;rw[bN]at u;obtain⟨out,b,c⟩:=aaw.1 u;cases out with
 |val t=>
  simp only[b6]at c;injection c with c
  subst c;exact⟨fun k n=>mg s _ t k fun e j g=>p k n (by rw[j,g]),fun x _=>by rw[fK]⟩
 |new t A l=>
  simp only[b6]at c;split at c
  ·rename_i d r;split at c
   ·injection c with c
    subst c;exact⟨fun k n=>mg ⟨s.tmps,_⟩ _ t k fun e j g=>p k n (by rw[r,j,g]),fun x z=>by
     rw[fK];exact aD fun e=>y x z (by rw[r,e])⟩
   cases c
  cases c
 |wr q=>
  exfalso;unfold cX at b;split at b
  ·unfold lf at b;split at b
   ·obtain⟨_,_,h⟩:=u6.1 b;cases h
   split at b
   ·obtain⟨_,_,h⟩:=u6.1 b;cases h
   rw[xD w]at b;simp only at b;split at b
   ·cases b
   unfold GU at b;split at b<;>cases b
  ·cases b
  cases b
theorem pa (D:Kg P sep ops) (A:bX sep ops=true) {L:AS} (G:Ip sep L) {p:Nat->Bool} (E:AP ops p) (h:cw P items ow ops (lw ops.size p) L=some s): ∀(N b:Nat) (c:Nat->Bool),b+N=ops.size->(∀j,j<b->p j=true->c j=true)->AP ops c->(∀j,c j=true->p j=true)->
  (∀(i:Nat) o,ops[i]?=some o->p i=true->c i=false->I9 rd fas o=true)-> ∃V,cw P items ow ops (lw ops.size c) L=some V/\sJ rd fas V s
 |0,b,c,X,q,_,z,_=>by
  refine⟨s,?_,fun _ _=>rfl,fun _ _=>rfl⟩;have e:lw ops.size c=lw ops.size p:=acQ fun j n=>by
   have n:=aaK.1 n;cases H:p j with
   |true=>exact q j (by omega) H
   |false=>
    cases l:c j with
    |false=>rfl
    |true=>rw[z j l]at H;cases H
  rw[e];exact h
 |N+1,b,c,X,q,B,z,C=>by
  have t:b<ops.size:=by omega
  have R:ops[b]?=some ops[b]:=by simp[t]
  by_cases w:p b=true/\c b=false
  ·obtain⟨K,U⟩:=w;have F:AP ops (cq c b):=A7 B fun o v e O r=>q _ ((l5 A).1 b o v e O r) (E b o v K e O r)
   obtain⟨s2,W,M⟩:=pa D A G E h N (b+1) (cq c b) (by omega) (fun j n g=>by
    by_cases f:j=b
    ·simp[cq,f]
    ·simp[cq,q j (by omega) g]) F (fun j n=>by
    by_cases f:j=b
    ·rw[f];exact K
    ·have u:(j==b)=false:=by simpa using f
     exact z j (by simpa[cq,u] using n)) (fun i o Y I y=>by
    have:c i=false:=by
     cases h:c i with
     |false=>rfl
     |true=>simp[cq,h]at y
    exact C i o Y I this)
   obtain⟨sm,Z,J⟩:=yg D A B t U G W;unfold de at J;rw[R]at J;have T:=K1 (C b _ R K U) J;exact⟨sm,Z,fun k Q=>(M.1 k Q).trans (T.1 k Q),fun x S=>(M.2 x S).trans (T.2 x S)⟩
  refine pa D A G E h N (b+1) c (by omega) (fun j n g=>?_) B z C;by_cases f:j=b
  ·subst f;cases l:c j with
   |true=>rfl
   |false=>exact absurd ⟨g,l⟩ w
  exact q j (by omega) g
theorem N2 {e:List (cB P)} {i d:Nat} {ev:Operand->Option TV} {op:Op} (h:items.find? (·.i==i)=e.find? (·.i==i)):b9 P items ow i d ev l op=b9 P e ow i d ev l op:=by
 cases op with
 |call c=>
  obtain⟨callee,args,g⟩:=c;cases callee with
  |value f=>cases f<;>simp only[b9,h]
  |invoke r m=>simp only[b9]
  |builtin b=>cases b<;>simp only[b9]
 |_=>simp only[b9]
theorem C1 {b:List (cB P)} {i:Nat} (h:items.find? (·.i==i)=b.find? (·.i==i)):aS P items ow ops i f s=aS P b ow ops i f s:=by
 unfold aS dG;simp only[N2 h]
def BU (ops:Array Oper) (m:Nat):List Nat:=match ops[m]? with
 |some o=>o.op.operands.toList.filterMap fun| .tmp k=>some k|_=>none
 |none=>[]
def O8 (ops:Array Oper) (m z:Nat) (fas:List Nat):Bool:=decide (m<z)&&(bX [] (kf (nG ops m) z)&&((match ops[m]? with|some o=>o.guard.isNone&&o.dst.isSome|none=>false)&&
 ((z==ops.size||(z+1==ops.size&&(List.range z).all fun i=>((nB (kf (nG ops m) z).toList []).getD z 0).testBit i))&&
 (List.range z).all fun i=>i==m||(if i<m then((nB (kf (nG ops m) z).toList []).getD m 0).testBit i else((nB (kf (nG ops m) z).toList []).getD i 0).testBit m)||(match ops[i]? with|some o=>I9 (BU ops m) fas o|none=>true))))
end
section
variable {P:Program} {a:Act} {w0 w:World} {O X Y:Nat->Prop} {ks:List Nat}
theorem Dl {R1 R2:AS->Act->World->Prop} (M1:zc ks R1) (b5:P.follows .mixedOrders=true) (c:List (ao P)) (t:List Nat) (m z:Nat) (D:List Nat) (x:PV) {id:Nat} (hk:du ks b=true) (hE:O8 b m z D=true) {s1 N s3:AS} (h1:f7 P (c.map ao.a) t b ((b.toList.take m).zipIdx 0) s=some s1) (bt: ∀s',sJ (BU b m) D s1 s'->lT s'->v7 P b m (R1 s') (R1 (s'.put (cwD b m) (.one (.p x))))) (h2:f7 P (c.map ao.a) t b (((b.toList.take z).drop (m+1)).zipIdx (m+1)) (s1.put (cwD b m) (.one (.p x)))=some N) (S:z<b.size->v7 P b z (R1 N) (R2 s3)) (bh:z=b.size-> ∀a w,R1 N a w->R2 s3 a w) {Q:Exit->Act->World->Prop} (E:R1 s a w) (hQ: ∀a' L,R2 s3 a' L->Q .normal a' L):(Code.region id b true).wp P Q a w:=by
 simp only[O8,aaF,decide_eq_true_eq,aah,aaK]at hE;obtain⟨cA,hd,al,A,bw⟩:=hE;rw[abV,beq_iff_eq,aaF,beq_iff_eq,aah]at A;have cC:z<=b.size/\b.size<=z+1:=by rcases A with h|h<;>omega
 have ad:m<b.size:=by omega
 obtain⟨o,M⟩: ∃o,b[m]?=some o:=⟨b[m],by simp[ad]⟩;rw[M]at al;simp only[aaF]at al;obtain⟨hg,V⟩:=al;obtain⟨d,V⟩:=adM.1 V;have hg:o.guard=none:=by simpa using hg
 have b0:cwD b m=some d:=by unfold cwD;rw[M];exact V
 rw[b0]at bt h2;have b4:(b.toList.take m).length=m:=by rw[abc];simp;omega
 let y:cB P:=⟨m,0,[],⟨[],.one (.p x)⟩⟩
 have ah: ∀i,i≠m->(y::c.map ao.a).find? (·.i==i)=(c.map ao.a).find? (·.i==i):=fun i R=>by
  have:(y.i==i)=false:=by simpa[y] using abD R
  rw[adj,this]
 have u: ∀i,i≠m->i≠z->(kf (nG b m) z)[i]?=b[i]?:=fun i h1 h2=>by rw[iF,if_neg h2,kZ,if_neg h1]
 have G: ∀(i:Nat) (o:Oper) (s:AS),i≠m->aS P (y::c.map ao.a) t (kf (nG b m) z) i o s=aS P (c.map ao.a) t b i o s:=fun i o s R=>by
  rw[nR,C2,C1 (ah i R)]
 have key: ∀(l:List Nat) (s:AS),(∀i∈l,i≠m/\i≠z)->cw P (y::c.map ao.a) t (kf (nG b m) z) l s=cw P (c.map ao.a) t b l s:=fun l=>by
  induction l with
  |nil=>intros;rfl
  |cons i l ih=>
   intro s hl;have R:=hl i (by simp);have e:de P (y::c.map ao.a) t (kf (nG b m) z) i s=de P (c.map ao.a) t b i s:=by
    unfold de;rw[u i R.1 R.2];simp only[G i _ _ R.1]
   simp only[cw,e];cases de P (c.map ao.a) t b i s with
   |none=>rfl
   |some N=>exact ih N fun j f=>hl j (by simp[f])
 have ae:cw P (y::c.map ao.a) t (kf (nG b m) z) (List.range m) s=some s1:=by
  have:=fA (P:=P) (items:=c.map ao.a) (ow:=t) (b.toList.take m) 0 s (fun j o f=>by
   rw[aaH]at f;split at f
   ·simpa using f
   cases f)
  rw[h1,b4,<- aax]at this;rw[this];exact key _ _ fun i R=>by have:=aaK.1 R;omega
 have bx:cw P (y::c.map ao.a) t (kf (nG b m) z) (List.range' (m+1) (z-m-1)) (s1.put (some d) (.one (.p x)))=some N:=by
  have:=fA (P:=P) (items:=c.map ao.a) (ow:=t) (ops:=b) ((b.toList.take z).drop (m+1)) (m+1) (s1.put (some d) (.one (.p x))) (fun j o f=>by
   rw[aaN,aaH]at f;split at f
   ·simpa using f
   cases f)
  rw[h2,adP,abc,acF,show min z b.size-(m+1)=z-m-1 by omega]at this;rw[this];exact key _ _ fun i R=>by have:=acS.1 R;omega
 have bc:(kf (nG b m) z)[m]?=some (ri o):=by rw[iF,if_neg (by omega),kZ,if_pos rfl,M];rfl
 have ac: ∀s:AS,aS P (y::c.map ao.a) t (kf (nG b m) z) m (ri o) s=some (s.put (some d) (.one (.p x))):=fun s=>by
  unfold aS;rw[show(ri o).guard=none from hg];show dG P _ t m (ri o) s=_;have b1:(y::c.map ao.a).find? (·.i==m)=some y:=by
   rw[adj,show(y.i==m)=true by simp[y]]
  have hA:b9 P (y::c.map ao.a) t m d s.ev s.H (ri o).op=some (.one (.p x),[]):=by
   simp only[ri,b9,b1,eK];simp[y,CallRes.plain,renTV,bY,noRefTV,fJ]
  unfold dG;rw[show(ri o).dst=some d from V];simp only[show nH (ri o).op=false from rfl,show yD (ri o).op=false from rfl,show gn P s.ev s.H (ri o).op=none from rfl,hA,aa5,if_false]
 have g:(kf (nG b m) z).size=b.size:=by rw[fm,O6]
 have a4:cw P (y::c.map ao.a) t (kf (nG b m) z) (List.range z) s=some N:=by
  have cm:List.range z=List.range m++m::List.range' (m+1) (z-m-1):=by
   have h1:=abf (s:=0) (m:=m) (n:=z-m-1+1);rw[show m+(z-m-1+1)=z by omega,aaO,aa1]at h1;rw[aax,aax];exact h1.symm
  rw[cm,iq,ae];simp only[aa8,cw];unfold de;rw[bc];simp only;rw[ac];exact bx
 have U: ∃sF,cw P (y::c.map ao.a) t (kf (nG b m) z) (List.range (kf (nG b m) z).size) s=some sF/\(z=b.size->sF=N):=by
  rw[g];rcases A with e|⟨e,_⟩
  ·exact⟨N,by rw[<- e];exact a4,fun _=>rfl⟩
  obtain⟨ol,aa,an,_⟩:=S (by omega);have af:(kf (nG b m) z)[z]?=some (wX ol):=by rw[iF,if_pos rfl,kZ,if_neg (by omega),aa];rfl
  have hl:aS P (y::c.map ao.a) t (kf (nG b m) z) z (wX ol) N=some (N.put ol.dst (.raw (.bool false))):=by
   unfold aS;rw[show(wX ol).guard=none from an];rfl
  refine⟨N.put ol.dst (.raw (.bool false)),?_,fun h=>by omega⟩;rw[<- e,abi,iq,a4];simp only[aa8,cw];unfold de;rw[af];simp only;rw[hl];rfl
 obtain⟨sF,U,cp⟩:=U;refine(wpIn_wide (n:=0)).1 (wpIn_region_any (F:=FW none) b5 ?_);have cl:R1 s a {w with drawn:=w.drawn+1}:=by
  obtain⟨wa,Oa,Xa,⟨q1,q2,ρ,bl,a3⟩,ka⟩:=M1 s a w E;have e:Ext w {w with drawn:=w.drawn+1}:=⟨rfl,rfl,rfl,aaq _,fun _ _=>rfl⟩;have a3:aX Xa ρ s a w:=a3;exact ka _ _ _ (fun _ _=>rfl) ⟨q1,q2,ρ,bl.grow e,a3.grow e⟩
 have a0:lT s:=by obtain⟨wa,Oa,Xa,r,_⟩:=M1 s a w E;exact d9 r
 have hS:Kg P [] (kf (nG b m) z):=kB hd (by simp);have a1:Ip [] s:=⟨a0,fun x hx=>by simp at hx⟩;rw[<- uZ,<- Nr (m:=m),<- C6 (m:=z)];refine mB (sep:=[]) hS hd (fun p s a w=>if(decide (z<b.size)&&p z)=true then R2 s3 a w else R1 s a w) a1 U (fun p a w a8 E=>?_) (fun p i o' s' cv a w K q T bR hs E hK=>?_) b.size (Array.replicate b.size false) s a _ (by simp[g]) ?_ ?_ ?_ ?_
 ·by_cases J:z<b.size
  ·rw[if_pos (by rw[a8 z (by rw[g];exact J)];simpa using J)]at E;exact hQ a w E
  rw[if_neg (by simp[J]),cp (by omega)]at E;exact hQ a w (bh (by omega) a w E)
 ·obtain⟨hc,a9,C⟩:=bR;have av:i<b.size:=by have:=(aan.1 q).1;rwa[g]at this
  by_cases bm:i=z
  ·subst bm;have ab:cq p i i=true:=by simp[cq]
   obtain⟨ol,aa,an,br⟩:=S av;have af:(kf (nG b m) i)[i]?=some (wX ol):=by rw[iF,if_pos rfl,kZ,if_neg (by omega),aa];rfl
   rw[af]at q;injection q with q
   subst q;have cr:lw (kf (nG b m) i).size p=List.range i:=rL (by rw[g];omega) (fun j f=>by
    have:=iE a9 (i+1) i (by omega) (by rw[g];exact av) ab ((A.resolve_left (by omega)).2 j (aaK.2 f));have B:(j==i)=false:=by simp;omega
    simpa[cq,B] using this) (fun j b2 cy=>by
    rw[g]at b2;rw[show j=i by omega];exact T)
   rw[cr,a4]at C;injection C with C
   subst C;rw[T,Bool.and_false,if_neg (by decide)]at E;unfold wpOpIn;rw[aa];simp only;rw[if_pos (by simp[Region.wanted,an])];exact br a w K Q E fun v L h2=>hK v L (by rw[if_pos (by rw[ab];simpa using av)];exact h2)
  have I:(decide (z<b.size)&&p z)=false:=by
   by_cases J:z<b.size
   ·cases I:p z with
    |false=>simp
    |true=>
     have:=iE hc (z+1) z (by omega) (by rw[g];exact J) I ((A.resolve_left (by omega)).2 i (aaK.2 (by omega)));rw[T]at this;cases this
   simp[J]
  have ct:(z==i)=false:=by simp;omega
  have cg:(decide (z<b.size)&&cq p i z)=false:=by simpa only[cq,ct,ael,adK] using I
  rw[I,if_neg (by decide)]at E;have a7: ∀v L,R1 cv (a.put o'.dst v) L->K (a.put o'.dst v) L:=fun v L h=>hK v L (by rw[cg,if_neg (by decide)];exact h)
  by_cases ap:i=m
  ·subst ap;rw[bc]at q;injection q with q
   subst q;rw[ac]at hs;injection hs with hs
   subst hs;have ag:=(l5 hd).1;have ba:AP (kf (nG b i) z) (fun j=>decide (j<i)):=fun j o M f e he hb=>by
    have:=ag j o M e he hb;simp only[decide_eq_true_eq]at f⊢;omega
   have bb:AP (kf (nG b i) z) (fun j=>p j&&decide (j<i)):=fun j o M f e he hb=>by
    simp only[aaF]at f⊢;exact⟨hc j o M f.1 e he hb,ba j o M f.2 e he hb⟩
   have cc:cw P (y::c.map ao.a) t (kf (nG b i) z) (lw (kf (nG b i) z).size fun j=>decide (j<i)) s=some s1:=by
    rw[rL (m:=i) (by rw[g];omega) (fun j f=>by simpa using f) (fun j _ f=>by simpa using f)];exact ae
   obtain⟨sc,g1,g2⟩:=pa (rd:=BU b i) (fas:=D) hS hd a1 hc C (kf (nG b i) z).size 0 (fun j=>p j&&decide (j<i)) (by omega) (fun j f=>by omega) bb (fun j f=>by simp only[aaF]at f;exact f.1) (fun j o' f hp hn=>by
    have B:j≠i:=fun e=>by rw[e,T]at hp;cases hp
    have bp:=(aan.1 f).1;rw[g]at bp;have b3:j≠z:=fun e=>by rw[<- e]at I;simp[bp,hp]at I
    rw[u j B b3]at f;have k2:=(aan.1 f).1;have W: ¬j<i:=fun h=>by simp[hp,h]at hn
    have:=bw j (by omega);rw[if_neg W,f]at this;simp only[abV,beq_iff_eq,B,false_or]at this;rcases this with this|this
    ·have:=iE hc (j+1) j (by omega) (by rw[g];exact k2) hp this;rw[T]at this;cases this
    exact this)
   obtain⟨cD,a5,a6⟩:=pa (rd:=BU b i) (fas:=D) hS hd a1 ba cc (kf (nG b i) z).size 0 (fun j=>p j&&decide (j<i)) (by omega) (fun j f=>by omega) bb (fun j f=>by simp only[aaF]at f;exact f.2) (fun j o' f hp hn=>by
    have W:j<i:=by simpa using hp
    have B:j≠i:=by omega
    rw[u j B (by omega)]at f;have ci:p j=false:=by simpa[W] using hn
    have:=bw j (by omega);rw[if_pos W,f]at this;simp only[abV,beq_iff_eq,B,false_or]at this;rcases this with this|this
    ·have:=iE a9 (i+1) i (by omega) (by rw[g];exact ad) (by simp[cq]) this;have bn:(j==i)=false:=by simpa using B
     simp[cq,ci,bn]at this
    exact this)
   rw[g1]at a5;injection a5 with e
   subst e;have a2:sJ (BU b i) D s1 s':=⟨fun k hk=>(g2.1 k hk).trans (a6.1 k hk).symm,fun x hx=>(g2.2 x hx).trans (a6.2 x hx).symm⟩;have bq:lT s':=by obtain⟨wa,Oa,Xa,r,_⟩:=M1 s' a w E;exact d9 r
   obtain⟨o2,Z,cx,cs⟩:=bt s' a2 bq;rw[M]at Z;injection Z with Z
   subst Z;unfold wpOpIn;rw[M];simp only;rw[if_pos (by simp[Region.wanted,hg])];exact cs a w K Q E fun v L h2=>a7 v L h2
  rw[u i ap bm]at q;rw[G i _ _ ap]at hs;obtain⟨wa,Oa,Xa,ra,ka⟩:=M1 _ _ _ E;exact vH q hs ra fun v L r'=>a7 v L (ka _ _ _ (l8 hk q v) r')
 ·intro j o M hp;have f:j<b.size:=by have:=(aan.1 M).1;rwa[g]at this
  simp[f]at hp
 ·exact aaj (abT _ _) (by simp[g])
 ·have:lw (kf (nG b m) z).size (fun j=>(Array.replicate b.size false).getD j true)=[]:=by
   unfold lw;rw[abN];intro j f;have:=aaK.1 f;rw[g]at this;simp[this]
  rw[this];rfl
 rw[if_neg (by by_cases h:z<b.size<;>simp[h])];exact cl
def MM (c:Nat) (F:List OObj) (t u:TV):Prop:=(xR t=true/\u=t)\/(∃r b len o,t= .one (.sl c r b len)/\F[r]?=some o/\dS o/\u= .one (.p (.sl (((o.elems.take (b+len)).drop b).map (List.map vO)))))\/
 ∃r i j o e,t= .one (.ptr c r i j)/\F[r]?=some o/\o.elems[i]?=some e/\(∀x∈e,isPure x=true)/\u= .one (.p (.ptr ((e.drop j).map vO)))
def AK (b:Nat) (F:List OObj):List TV->List TV->Prop
 |[],[]=>True
 |t::c,u::e=>MM b F t u/\AK b F c e
 |_,_=>False
theorem zz {f:Nat} {F:List OObj}: ∀{c e:List TV},AK f F c e->e.length=c.length/\ ∀(j:Nat) u,e[j]?=some u-> ∃t,c[j]?=some t/\MM f F t u
 |[],[],_=>⟨rfl,fun j u h=>by simp at h⟩
 |t::c,u::e,⟨m,n⟩=>by
  obtain⟨g,l⟩:=zz n;refine⟨by simp[g],fun j v b=>?_⟩
  match j,b with
  |0,b=>exact⟨t,rfl,by simp at b;subst b;exact m⟩
  |j+1,b=>exact l j v (by simpa using b)
 |[],_::_,h=>h.elim
 |_::_,[],h=>h.elim
variable {ρ:Rho} {s:AS}
theorem FO {Y:Nat->Prop} (z: ∀(x r:Nat) (f:OObj),(l x)[r]?=some f->objRel ρ l Y w x r f) {u:TV} (h:MM n (l n) o u) {v:Value} (F:o.rel ρ l Y w v):u.rel (fun _ _=>none) (fun _=>[]) (fun _=>False) w v:=by
 have g: ∀x u,isPure x=true->AV.rel ρ l Y w x u->bQ (fun _=>False) w (vO x) u:=fun x u E h=>by
  cases x<;>first|exact bQ.weaken (fun _ _ h=>h.elim) h|cases E
 rcases h with⟨E,rfl⟩|⟨r,N,len,f,rfl,y,p,rfl⟩|⟨r,i,j,f,e,rfl,y,D,p,rfl⟩
 ·exact uB E F
 ·exact oY (z n r f y) y (fun e D x m u M=>g x u (p e D x m) M) (fun _ _ _ h=>h) F
 obtain⟨T,b,c,C,L,S,rfl⟩:=F;rw[y]at C;injection C with C
 subst C;obtain⟨Z,q2,J⟩:=z n r f y;rw[L]at J;obtain⟨cells,I,U,V,W,Q⟩:=J;have q: ∀(k:Nat) x,((e.drop j).map vO)[k]?=some x-> ∃u:Value,cells[i*f.es+(j+k)]?=some u/\bQ (fun _=>False) w x u:=fun k x m=>by
  rw[u9,aaN]at m;obtain⟨G,A,rfl⟩:=u6.1 m;obtain⟨u,B,K,R⟩:=Q i e (j+k) G D A;exact⟨u,B,g G u (p G (u5 A)) R⟩
 refine bQ.ptr b (i*f.es+j) _ (fun k=>(cells[i*f.es+(j+k)]?).getD undef) (fun h=>h) (aan.1 I).1 (fun k x m=>?_) (fun k x m=>?_)
 ·obtain⟨u,B,_⟩:=q k x m;rw[cell_of_row _ b _ cells f.ty (0,0) I,show i*f.es+j+k=i*f.es+(j+k) by omega,B];rfl
 obtain⟨u,B,K⟩:=q k x m;simp only[B,abh];exact K
theorem PP (ae:da w0 O X s a w) (p:pL f s=some (h,g)) {args:List TV} {res:CallRes} (D:CallC P h args res) (E:vz res) {fa d:Nat} (V:AK fa (s.H fa) g args) (hd:s.H d=[]) (W:f.dst=some d) {K:Act->World->Prop} {Q:Exit->Act->World->Prop} (hK: ∀v w',da w0 O X (iW s d (renTV d res.r) (res.fam.map (renO d))) (a.put f.dst v) w'->K (a.put f.dst v) w'):f.wp P a w K Q:=by
 obtain⟨h1,ag,ρ,q,A⟩:=ae;have A:aX X ρ s a w:=A;obtain⟨q1,q2⟩:=zz V;have J: ∀j,Xo X ρ s.H j->j<w.heap.size:=fun b R=>by
  rcases R with R|⟨x,y,o',n,g1,g2⟩
  ·exact q.bar b R
  exact bf (q.objs x y o' g1) g2
 have post: ∀v B m,Inv w (fun _=>False) (fun _=>False) (famH 0 res.fam) m B->res.r.rel m (famH 0 res.fam) (Xo (fun _=>False) m (famH 0 res.fam)) B v->da w0 O X (iW s d (renTV d res.r) (res.fam.map (renO d))) (a.put (some d) v) B:=fun v B m F hr=>by
  have Z: ∀(x r:Nat) f,(famH 0 res.fam x)[r]?=some f->f∈res.fam:=fun x r f G=>by
   unfold famH at G;split at G
   ·exact u5 G
   simp at G
  have ab: ∀{Y Y':Nat->Prop} (x r:Nat) f,f∈res.fam->objRel m (famH 0 res.fam) Y B x r f->objRel m (famH 0 res.fam) Y' B x r f:=fun{Y Y'} x r f hmem hob=>by
   obtain⟨z1,z2,z3⟩:=hob;refine⟨z1,z2,?_⟩;cases ad:m x r with
   |none=>rw[ad]at z3;exact z3
   |some bc=>
    obtain⟨b,n⟩:=bc;rw[ad]at z3;obtain⟨cells,p1,p2,p3,p4,p5⟩:=z3;refine⟨cells,p1,p2,p3,p4,fun i e j z he hz=>?_⟩;obtain⟨u,u1,u2,u3⟩:=p5 i e j z he hz;exact⟨u,u1,u2,oE (E.2 f hmem e (u5 he) z (u5 hz)) u3⟩
  by_cases I:res.plain=true
  ·exact l4 (P:=P) (it:=(⟨0,h,args,res⟩:cB P)) (d:=d) (v:=v) (w1:=B) (ρc:=m) h1 ag q A rfl rfl (fun _=>hd) (by rw[if_pos I];exact F) (by rw[if_pos I];exact hr)
  have av:Inv w (fun _=>False) (Xo X ρ s.H) (famH 0 res.fam) m B:=
   ⟨F.keep,fun x r f G=>ab x r f (Z x r f G) (F.objs x r f G),F.inj,fun x r f b c G R=>by
    have:=F.old x r f b c G R;refine⟨this.1,fun hX=>?_⟩;rcases this.1 with l|l
    ·have:=J b hX;omega
    exact l,fun b R=>aas (J b R) F.keep.size,F.self⟩
  exact l4 (P:=P) (it:=(⟨0,h,args,res⟩:cB P)) (d:=d) (v:=v) (w1:=B) (ρc:=m) h1 ag q A rfl rfl (fun _=>hd) (by rw[if_neg I];exact av) (by rw[if_neg I];exact ya E.1 hr)
 have key: ∀vs:Array Value,(execOp a.eval f).run P w= .ok (.enter h vs) w->vs.size=args.length->(∀(j:Nat) t,g[j]?=some t-> ∃v:Value,vs[j]?=some v/\t.rel ρ s.H (Xo X ρ s.H) w v)->f.wp P a w K Q:=fun vs af a1 N=>by
  unfold Oper.wp;rw[af];simp only[Oper.upon];refine(D.2 (fun _=>False) w vs (fun j hj=>hj.elim) a1 fun j u hu=>?_).mono ?_
  ·obtain⟨t,L,an⟩:=q2 j u hu;obtain⟨v,v1,v2⟩:=N j t L;exact⟨v,v1,FO q.objs an v2⟩
  rintro e B ⟨v,rfl,m,F,hr⟩;have:=post v B m F hr;rw[W]at hK⊢;exact hK v B this
 unfold pL at p;split at p
 ·rename_i c ac;split at p
  ·rename_i f' C;obtain⟨ah,S,e⟩:=u6.1 p;injection e with e e'
   subst e e';obtain⟨M,e2⟩:=bP S;have T:c.args.size=args.length:=by rw[q1];simpa using M.symm
   refine key _ (f9 ac C rfl D.1) (by simp[T]) fun j t L=>?_
   obtain⟨y,hy,U⟩:=e2 j t L;refine⟨a.eval y,?_,be A y _ U⟩;rw[aaS];have:c.args[j]?=some y:=by simpa using hy
   rw[this];rfl
  ·rename_i k C;split at p
   ·rename_i f' al ah ap S;injection p with p
    injection p with e e'
    subst e e';obtain⟨M,e2⟩:=bP S;obtain⟨us,k1,k2,k3⟩:=j8 (v:=a.eval (.tmp k)) (fun t0 a0=>be A (.tmp k) t0 a0) ap;have aa:args.length=c.args.size+us.size:=by rw[q1,aa6,M,k2,acF]
    refine key _ (km ac C k1 D.1) (by simp[aa]) fun j t L=>?_
    by_cases hj:j<ah.length
    ·rw[aal hj]at L;obtain⟨y,hy,U⟩:=e2 j _ L;refine⟨a.eval y,?_,be A y _ U⟩;rw[aaz (by simp at M⊢;omega),aaS];have:c.args[j]?=some y:=by simpa using hy
     rw[this];rfl
    rw[aap (by omega)]at L;obtain⟨v,v1,v2⟩:=k3 _ _ L;refine⟨v,?_,v2⟩;rw[aaM (by simp at M⊢;omega)];simp at M⊢;rw[<- M];exact v1
   cases p
  cases p
 cases p
theorem OE {f:Nat} {g:List (List AV)} (E:da w0 O X s a w) (D:(s.H n)[m]?=some ⟨j,1,ae f [AV.junk]++g⟩): ∃vs:List Value,vs.length=f/\da w0 O X ⟨s.tmps,aw s.H n ((s.H n).set m ⟨j,1,vs.map (fun v=>[AV.p (.raw v)])++g⟩)⟩ a w:=by
 obtain⟨L,F,ρ,o,B⟩:=E;have B:aX X ρ s a w:=B;obtain⟨V,q2,G⟩:=id (o.objs n m _ D);cases J:ρ n m with
 |none=>
  rw[J]at G;simp only[List.append_eq_nil_iff,List.replicate_eq_nil_iff]at G;obtain⟨rfl,rfl⟩:=G;refine⟨[],rfl,?_⟩;have:(s.H n).set m ⟨j,1,[].map (fun v=>[AV.p (.raw v)])++[]⟩=s.H n:=by
   apply aay;intro i;rw[aa7];split
   ·rename_i q;subst q;rw[if_pos (aaf.1 D).1,D];rfl
   rfl
  rw[this,show aw s.H n (s.H n)=s.H from funext fun x=>by unfold aw;split<;>simp_all];exact⟨L,F,ρ,o,B⟩
 |some Q=>
  obtain⟨p,c⟩:=Q;rw[J]at G;obtain⟨cells,U,p2,p3,p4,M⟩:=G;have I:(ae f [AV.junk]).length=f:=by simp
  refine⟨(List.range f).map fun i=>(cells[i]?).getD undef,by simp[wk],?_⟩;have y: ∀(i:Nat) l,((((List.range f).map fun i=>(cells[i]?).getD undef).map (fun v=>[AV.p (.raw v)])++g:List (List AV)))[i]?=some l->(i<f/\l=[.p (.raw ((cells[i]?).getD undef))])\/(f<=i/\g[i-f]?=some l/\(ae f [AV.junk]++g)[i]?=some l):=fun i l A=>by
   by_cases q:i<f
   ·rw[aal (by simpa using q)]at A;simp[q]at A;exact .inl ⟨q,A.symm⟩
   rw[aap (by simpa using ade q)]at A;simp only[aa0,acA]at A;exact .inr ⟨by omega,A,by rw[aap (by omega),I];exact A⟩
  obtain⟨S,T⟩:=xn o (o':=⟨j,1,((List.range f).map fun i=>(cells[i]?).getD undef).map (fun v=>[AV.p (.raw v)])++g⟩) D J U rfl rfl (by simp) (fun l C=>by
   obtain⟨i,q⟩:=abl.1 C;rcases y i l q with⟨_,rfl⟩|⟨_,_,h⟩
   ·rfl
   ·exact V l (u5 h)) (fun l C x z=>by
   obtain⟨i,q⟩:=abl.1 C;rcases y i l q with⟨_,rfl⟩|⟨_,_,h⟩
   ·simp only[aam]at z;subst z;trivial
   ·exact o.self n m _ D l (u5 h) x z) (fun i l e x A z=>by
   rcases y i l A with⟨q,rfl⟩|⟨_,_,h⟩
   ·have R:e=0:=by
     cases e with
     |zero=>rfl
     |succ e=>simp at z
    subst R;simp at z;subst z;obtain⟨u,K,N,_⟩:=M i [.junk] 0 .junk (by rw[aal (by omega)];simp[q]) rfl;simp only[ac7,aa3]at K⊢;refine⟨u,K,N,?_⟩;rw[K];exact bQ.raw u N
   exact M i l e x h z)
  exact⟨L,F,ρ,S,fun t x z=>by
   obtain⟨v,W,Z⟩:=B t x z;exact⟨v,W,TV.rel_map Z T⟩⟩
theorem SL {n:OH} {d:Nat} (q:l d=[]) (h:gH l o):fc n d o=o:=by
 have u: ∀x,fE l x->dN n d x=x:=fun x m=>by
  cases x with
  |p x=>rfl
  |junk=>rfl
  |sl b r y len=>
   have:b≠d:=fun e=>m (by rw[e];exact q)
   simp only[dN,if_neg this]
  |ptr b r i j=>
   have:b≠d:=fun e=>m (by rw[e];exact q)
   simp only[dN,if_neg this]
  |fn f b A=>
   have:b≠d:=fun e=>m.1 (by rw[e];exact q)
   simp only[dN,if_neg this]
 have g: ∀c:List AV,(∀x∈c,fE l x)->c.map (dN n d)=c:=fun c v=>by
  conv=>rhs;rw[<- ab0 c]
  exact aaA fun x m=>u x (v x m)
 cases o with
 |one x=>simp only[fc,u x h]
 |agg c=>simp only[fc,g c h]
 |fn f c=>simp only[fc,g c h]
 |tup z=>
  simp only[fc]
  congr 1
  conv=>rhs;rw[<- ab0 z]
  exact aaA fun x m=>by
   rw[g x.2 (h x m)];rfl
theorem MY {d:Nat} {F:List OObj} {x:PV} (u:lT s) (f:s.H d=[]) (g: ∀H:OH,H d=F->uQ H d/\fc H d o= .one (.p x)):bD (iW s d o F) (s.put (some d) (.one (.p x))):=by
 have e:aw s.H d []=s.H:=funext fun y=>by
  unfold aw;split
  ·rename_i h;rw[h];exact f.symm
  rfl
 obtain⟨c,j,m,n⟩: ∃c:OH,iW s d o F=⟨s.tmps.set d o,c⟩/\c d=F/\aw c d []=s.H:=by
  cases F with
  |nil=>exact⟨s.H,rfl,f,e⟩
  |cons b l=>
   refine⟨aw s.H d (b::l),rfl,aM,?_⟩;rw[<- e];funext y;unfold aw;split<;>rfl
 rw[j];obtain⟨f1,f2⟩:=g c m;have h:=bH (s:=⟨s.tmps.set d o,c⟩) d f1;simp only[n,adr,f2]at h;have q:s.tmps.map (fc c d)=s.tmps:=by
  conv=>rhs;rw[<- ab0 s.tmps]
  exact aaA fun t v=>by
   obtain⟨k,r⟩:=abl.1 v;exact SL f (u.1 k t r)
 rw[q]at h;exact h
def UO (P:Program) (f:FuncId) (e:List TV) (c d r n:Nat) (g:TypeId) (b:List (List AV)) (x:PV) (F:List OObj):Prop:= ∀vs:List Value,vs.length=n-> ∃args res,CallC P f args res/\vz res/\AK c (F.set r ⟨g,1,vs.map (fun v=>[AV.p (.raw v)])++b⟩) e args/\
 ∀H:OH,H d=res.fam.map (renO d)->uQ H d/\fc H d (renTV d res.r)= .one (.p x)
theorem L4 {d l:Nat} {q:List (List AV)} {x:PV} (T:pL f s=some (h,g)) (t:f.dst=some d) (hd:s.H d=[]) (M:n≠d) (u:(s.H n)[m]?=some ⟨j,1,ae l [AV.junk]++q⟩) (B:UO P h g n d m l j q x (s.H n)):
  AT P f (da w0 O X s) (da w0 O X (s.put f.dst (.one (.p x)))):=fun a w K Q hr Z=>by
 obtain⟨vs,J,E⟩:=OE hr u;obtain⟨args,res,hc,z,A,N⟩:=B vs J;have L:AS.ev ⟨s.tmps,aw s.H n ((s.H n).set m ⟨j,1,vs.map (fun v=>[AV.p (.raw v)])++q⟩)⟩=s.ev:=funext fun y=>by cases y<;>rfl
 have F:pL f ⟨s.tmps,aw s.H n ((s.H n).set m ⟨j,1,vs.map (fun v=>[AV.p (.raw v)])++q⟩)⟩=some (h,g):=by
  rw[<- T];unfold pL;simp only[L]
 have C:aw s.H n ((s.H n).set m ⟨j,1,vs.map (fun v=>[AV.p (.raw v)])++q⟩) d=[]:=by rw[aD (abD M)];exact hd
 refine j7 (.inl rfl) (PP E F hc z (fa:=n) (by simp only[aM];exact A) C t fun v w' r'=>Z v w' ?_);have r3:=MY (d9 E) C N _ _ _ _ _ r';have S:=(aaf.1 u).1;have hw:=mu (s:=AS.put ⟨s.tmps,aw s.H n ((s.H n).set m ⟨j,1,vs.map (fun v=>[AV.p (.raw v)])++q⟩)⟩ (some d) (.one (.p x))) n m (o:=⟨j,1,vs.map (fun v=>[AV.p (.raw v)])++q⟩) (o':=⟨j,1,ae l [AV.junk]++q⟩) (by rw[fK];simp only[aM];exact aa2 S) rfl rfl (by simp[J]) (fun i V D=>by
  have R:(ae l [AV.junk]).length=l:=by simp
  by_cases I:i<l
  ·rw[aal (by omega)]at D;simp[I]at D;subst D;refine⟨[.p (.raw (vs[i]'(by omega)))],by rw[aal (by simp;omega)];simp[J,I],rfl,fun c x G=>?_⟩;cases c with
   |zero=>simp at G;exact .inl G.symm
   |succ c=>simp at G
  rw[aap (by omega),R]at D;exact⟨V,by rw[aap (by simp;omega)];simpa[J] using D,rfl,fun c x G=> .inr G⟩)
 have U:=hw _ _ _ _ _ r3;have e:(AS.mk (AS.put ⟨s.tmps,aw s.H n ((s.H n).set m ⟨j,1,vs.map (fun v=>[AV.p (.raw v)])++q⟩)⟩ (some d) (.one (.p x))).tmps (aw (AS.put ⟨s.tmps,aw s.H n ((s.H n).set m ⟨j,1,vs.map (fun v=>[AV.p (.raw v)])++q⟩)⟩ (some d) (.one (.p x))).H n (((AS.put ⟨s.tmps,aw s.H n ((s.H n).set m ⟨j,1,vs.map (fun v=>[AV.p (.raw v)])++q⟩)⟩ (some d) (.one (.p x))).H n).set m ⟨j,1,ae l [AV.junk]++q⟩)))=s.put (some d) (.one (.p x)):=by
  simp only[AS.put,aM,List.set_set];have W:(s.H n).set m ⟨j,1,ae l [AV.junk]++q⟩=s.H n:=by
   apply aay;intro i;rw[aa7];split
   ·rename_i I;subst I;exact u.symm
   rfl
  rw[W]
  congr 1
  funext y;unfold aw;split
  ·rename_i b;rw[b]
  rfl
 rw[e]at U;rw[t];rw[t]at U;exact U
theorem L3 {R:AS->Act->World->Prop} (c:MP R) {b:AS} (h: ∀w0 O X,AT P f (da w0 O X s) (da w0 O X b)):AT P f (R s) (R b):=fun a w K Q l j=>by
 obtain⟨r,e,g,p,m⟩:=c s a w l;exact h r e g a w K Q p fun v q n=>j v q (m _ _ _ n)
theorem SA {q:AS} (h:sJ (BU b n) e s q):cxTs b n q=cxTs b n s:=by
 unfold cxTs;have p:=h.1;unfold BU at p;cases t:b[n]? with
 |none=>rfl
 |some o=>
  rw[t]at p;simp only at p⊢;have g: ∀y∈o.op.operands,q.ev y=s.ev y:=fun y l=>by
   cases y with
   |tmp k=>exact p k (adw.2 ⟨.tmp k,by simpa using l,rfl⟩)
   |_=>rfl
  have:pL o q=pL o s:=by
   unfold pL;split
   ·rename_i c r;rw[r]at g;simp only[Op.operands,Call.operands]at g;split
    ·rename_i f j;rw[j]at g;rw[jx c.args.toList fun y l=>g y (by simp at l⊢;exact .inr l)]
    ·rename_i k j;rw[j]at g;rw[jx c.args.toList fun y l=>g y (by simp at l⊢;exact .inr l),g (.tmp k) (by simp)]
    rfl
   rfl
  rw[this]
variable {γ:Type} {L:iw γ} {g:γ} {Q:Exit->AS->γ->Prop}
theorem zl (C:P.follows .mixedOrders=true) (m l d r n:Nat) (G:TypeId) (v:List (List AV)) (x:PV) {f:FuncId} {ts:List TV} (c:List (ao P)) (y:List Nat) {id:Nat} (F:du ks b=true) (S:O8 b m b.size [l,d]=true) (e:cwD b m=some d) (B:l≠d) (h: ∀K:AS->Prop,(∀j,(cxTs b m j=some (f,ts)/\j.H d=[]/\(j.H l)[r]?=some ⟨G,1,ae n [AV.junk]++v⟩/\UO P f ts l d r n G v x (j.H l)/\ ∀K:AS->Prop,(∀z,Q .normal z g->K z)->aT P (c.map ao.a) y (aJ b (b.toList.drop (m+1)) (m+1)) (some (j.put (some d) (.one (.p x)))) K)->K j)->aT P (c.map ao.a) y (aJ b (b.toList.take m) 0) (some s) K):eD P L ks (.region id b true) Q s g:=fun I Y w0 O X a w r0=>by
 obtain⟨j,M,U,V,W,Z,q5⟩:=aO P (c.map ao.a) y b _ 0 s _ (h _ fun j q=>q);obtain⟨s2,N,R⟩:=aO P (c.map ao.a) y b _ (m+1) _ _ (q5 (fun s=>Q .normal s g) fun _ h=>h);refine Dl (R1:=jX L ks I Y w0 O X g) (R2:=jX L ks I Y w0 O X g) gy C c y m b.size [l,d] x F S M (fun z D hl=>?_) (by rw[e,aar (by simp)];exact N) (fun h=>absurd h (aen _)) (fun _ _ _ h=>h) r0 fun a' w' r'=>⟨s2,g,R,r'⟩
 rw[e];refine qn F ?_;have u:=(SA D).trans U;unfold cxTs at u;cases A:b[m]? with
 |none=>rw[A]at u;cases u
 |some o=>
  rw[A]at u;simp only at u;split at u
  ·rename_i T;have t:o.dst=some d:=by unfold cwD at e;rw[A]at e;exact e
   refine⟨o,A,by simpa using T,?_⟩;rw[<- t];have E:z.H l=j.H l:=D.2 l (by simp);have J:z.H d=j.H d:=D.2 d (by simp);exact L3 tn fun w0 O X=>L4 u t (by rw[J];exact V) B (by rw[E];exact W) (by rw[E];exact Z)
  cases u
end
end
section
theorem Kr {D:Type} {L:iw D} {g:D} {Q:Exit->AS->D->Prop} (y:P.follows .mixedOrders=true) (f:List (ao P)) (C:List Nat) {id:Nat} (E:bX [] b=true) (T:du e b=true) (h: ∀K:AS->Prop,(∀t,Q .normal t g->K t)->aT P (f.map ao.a) C (aJ b b.toList 0) (some s) K):eD P L e (.region id b true) Q s g:=fun H Y I O X a w r=>by
 obtain⟨G,h1,N⟩:=aO P (f.map ao.a) C b b.toList 0 s _ (h (fun t=>Q .normal t g) fun _ h=>h);have R:cw P (f.map ao.a) C b (List.range b.size) s=some G:=by
  grind [List.range_eq_range',fA]
 refine(wpIn_wide (n:=0)).1 (wpIn_region_any (F:=FW none) y ?_);have A:jX L e H Y I O X g s a {w with drawn:=w.drawn+1}:=by
  obtain⟨J,Oa,Xa,⟨Z,q2,M,q,m⟩,B⟩:=gy s a w r;have c:Ext w {w with drawn:=w.drawn+1}:=⟨rfl,rfl,rfl,aaq _,fun _ _=>rfl⟩;have m:aX Xa M s a w:=m;exact B _ _ _ (fun _ _=>rfl) ⟨Z,q2,M,q.grow c,m.grow c⟩
 have l:lT s:=by obtain⟨J,Oa,Xa,r,_⟩:=gy s a w r;exact d9 r
 rw[<- uZ];refine mB (sep:=[]) (kB E (by simp)) E (fun _ s a w=>jX L e H Y I O X g s a w) ⟨l,fun x W=>by simp at W⟩ R (fun p a w _ z=>⟨G,g,N,z⟩) (fun p i o t aa a w K u U _ V z S=>?_) b.size (Array.replicate b.size false) s a _ (by simp) ?_ ?_ ?_ A
 ·obtain⟨J,Oa,Xa,ra,B⟩:=gy _ _ _ z;exact vH u V ra fun v w' r'=>S v w' (B _ _ _ (l8 T u v) r')
 ·intro j o u hp;have hj:j<b.size:=(aan.1 u).1;simp_all
 ·grind
 have:lw b.size (fun j=>(Array.replicate b.size false).getD j true)=[]:=by
  simp_all[lw]
 rw[this];rfl
theorem nK {m:Nat} {c:Int} {y D:List Int} {M acc:List (List Int)} {ex:Bool} (b:s.H 0=De 0 n m (c::y) D M acc ex):bD s ⟨s.tmps,aw s.H 0 (De 0 n (m+1) y D M acc ex)⟩:=by
 have h:=mu (s:=s) 0 3 (o:=⟨2,1,gM m++lc fI (c::y)⟩) (o':=⟨2,1,gM (m+1)++lc fI y⟩) (by rw[b];rfl) rfl rfl (by simp only[jP,aaG];omega) fun i e f=>by
  rw[<- n7 m c y];grind [gM]
 grind
structure SrG (lo hi:Int) (h:Int->List (List Int)) (T:List (List Int)) where
 x:Int
 acc:List (List Int)
 h1:lo<=x
 e:acc++(rng x hi).flatMap h=T
section
variable {n:Nat} {f:FF} {B:Int} {ex:Bool}
theorem Eu (I:pn n f B) (k:Nat) (y:List Int) (z:Bool) (acc:List (List Int)) (hk:y.length+(k+1)=n) (hT:pA y) (hP:fC f n B (k+1) (aL n y)) (hz:z=true->cz f n B k (aL n y)<=0) (R:(acc++yE f n B ex k y z).length<=1000000)
  (av: ∀j,k=j+1-> ∀c P,cz f n B k (aL n y)<=c->c<=di f n B k (aL n y)->(z=true->0<=c)->(P++yE f n B ex j (c::y) (z&&decide (c=0))).length<=1000000->Yu n f B ex j (c::y) (z&&decide (c=0)) P):Yu n f B ex k y z acc:=by
 have cD:=I.n8;have cv:=I.d (k:=k) (by omega);have ab:=I.d (k:=k+1) (by omega);have a8:=aB (dk f) (show k<n+1 by omega);have a9:=aB (dk f) (show k+1<n+1 by omega);have cs:=aI (n+1) (dk f);have hM:=xq n f (show k<n by omega);have ct:=l9 n f n;have bh:(nF n f k).length=n-k-1:=aI _ _;have hR: ∀i,i<y.length->(nF n f k)[i]?=some (bk f k k (k+(i+1))):=fun i E=>aB _ (by omega)
 have Z:=fun m (hm:m<=y.length)=>I.shP_c hk hT hm
 have U:=pb f hk;have cE:=I.rs0 (k:=k+1) (by omega) hP;have N:=I.sq (k:=k) (by omega) hP;have b1:=I.lohi hk hT hP;have b4:=Uf (m:=y.length+1) (by omega);have cI:=n4 N.1 N.2;have cR:=x4 (.inr (.inl rfl)) _ N.1 N.2;have a5:=fun c=>I.step hk (c:=c) hP
 have a4:dk f k*qi f n B (k+1) (aL n y)=gU f n B k (aL n y):=rfl;have ap:cz f n B k (aL n y)=0-(isqF (gU f n B k (aL n y))+uF f k y y.length)/dk f (k+1):=by grind [cz]
 have al:di f n B k (aL n y)=(isqF (gU f n B k (aL n y))-uF f k y y.length)/dk f (k+1):=by rw[U];rfl
 have cp:=Z y.length (aaq _);have a6:=oP (.inr (.inl rfl)) (isqF (gU f n B k (aL n y))+uF f k y y.length) (dk f (k+1)) ab.1 (by omega) (by omega) (by omega);have a7:=oP (.inr (.inl rfl)) (isqF (gU f n B k (aL n y))-uF f k y y.length) (dk f (k+1)) ab.1 (by omega) (by omega) (by omega);have e1:IntKind.i64.wrap ((k:Int)+1)=((k+1:Nat):Int):=aR (by omega) (by omega);have hS: ∃h:Int->List (List Int),yE f n B ex k y z=(rng (if z=true then 0 else cz f n B k (aL n y)) (di f n B k (aL n y))).flatMap h/\(k=0-> ∀c,h c=if(z&&decide (c=0))=true\/(ex&&!decide (qi f n B k (aL n (c::y))=0))=true then[]else[c::y])/\ ∀j,k=j+1-> ∀c,h c=yE f n B ex j (c::y) (z&&decide (c=0)):=by
  cases k with
  |zero=>exact⟨_,rfl,fun _ _=>rfl,fun j e=>absurd e (by omega)⟩
  |succ j=>
   refine⟨_,rfl,fun e=>absurd e (by omega),fun j' e c=>?_⟩;grind
 obtain⟨h,hS,ag,ah⟩:=hS;have a2:uF f k y 0=0:=rfl;have a3: ∀i,uF f k y i+bk f k k (k+(i+1))*y.getD i 0=uF f k y (i+1):=fun _=>rfl
 rw[<- U]at a5;have a0: ∀c,fC f n B k (aL n (c::y))->0<=qi f n B k (aL n (c::y))/\qi f n B k (aL n (c::y))<=70368744177664:=fun c h=>I.rs0 (by omega) h
 clear I hP hT;unfold Yu at*
 rw[hS]at R⊢;clear hS;generalize cz f n B k (aL n y)=lo at*
 generalize di f n B k (aL n y)=E at*
 generalize gU f n B k (aL n y)=sq at*
 generalize qi f n B (k+1) (aL n y)=X at*
 generalize isqF sq=rt at*
 generalize aQ (n+1) (dk f)=D at*
 generalize fo n f n=M at*
 generalize nF n f k=r at*
 generalize dk f (k+1)=d1 at*
 generalize dk f k=d0 at*
 generalize uF f k y=F at*
 have cA: -46911780290560<=lo/\lo<=46911780290560:=by omega
 have cx: -46911780290560<=E/\E<=46911780290560:=by omega
 clear b1 b4;have cm:(d1=0)=False:=eq_false (by omega);refine qI func139 rfl (by kernel_rfl) Vn (by simp) (by simp[selfTV,bs]) (by simp[selfTV]) (Df 0 _ _ _ _ _ _ _) (Df 0 _ _ _ _ _ _ _) (Wr 0 _ _ _ _ _ _ _ _ _ _) ?_;rw[ntmps139];refine eD.weak (aj (tm:=(.raw (.int .i64 (k:Int))::.raw (.int .i64 X)::.raw (.bool z)::.one (.ptr 0 1 0 0)::.one (.ptr 0 2 0 0)::.one (.ptr 0 0 0 0)::.one (.ptr 0 6 0 0)::.one (.ptr 0 4 0 0)::j16 (j16 (j16 (j16 (j16 (j16 (j16 (jk::jk::jk::[]))))))))) (l:=[(0,De 0 n (k+1) y D M acc ex)]) ⟨rfl,trivial⟩ (by simp[wk,ae])) ?_;refine d6 (aH e1 a9) (k:=bV (d6 (aH hM bh) (k:=?_)));refine ku (G:=jo y.length) (fun q=>⟨(.raw (.int .i64 (k:Int))::.raw (.int .i64 X)::.raw (.bool z)::.one (.ptr 0 1 0 0)::.one (.ptr 0 2 0 0)::.one (.ptr 0 0 0 0)::.one (.ptr 0 6 0 0)::.one (.ptr 0 4 0 0)::jk::jk::jk::.raw (.int .i64 d1)::.raw (.int .i64 (F q.i))::j16 (jk::jk::jk::.one (.p (.sl (ls fI r)))::rN y.length::rN q.i::j16 (j16 (j16 (j16 (j16 (j4 (j4 ([]))))))))),Hm [(0,De 0 n (k+1) y D M acc ex)]⟩) (fun _=>()) (fun q=>y.length-q.i) ⟨0,by omega⟩ ?_ rfl ?_
 ·refine aj ⟨rfl,trivial⟩ ?_;simp[wk,a2];omega
 rintro⟨i,cy⟩;simp only;by_cases hm:i<y.length
 ·have bc:=hR i hm;have s0:=Z i (by omega);have s1:=Z (i+1) (by omega);have s2:=a3 i;have e3:IntKind.i64.wrap (((k+1:Nat):Int)+(i:Int))=((k+1+i:Nat):Int):=by rw[aR (by omega) (by omega)];omega
  have bp:=OC (k+1) i y;have bq:=jP (k+1) y;have ci:y[i]?=some (y.getD i 0):=by rw[aav,aau hm];rfl
  generalize bk f k k (k+(i+1))=q at*
  generalize y.getD i 0=yi at*
  refine gD (k:=FC rfl (bV (gd (d6 bc (k:=qA (aH e1 (aH e3 (aH bp (aH ci s2)))) (k:=uL (k:=?_)))))));refine⟨⟨i+1,by omega⟩,by grind,aj ⟨rfl,trivial⟩ ?_,trivial⟩;simp[wk]
 have bt:i=y.length:=by omega
 subst bt;refine gD (k:=FA rfl (d6 (aH a8 a4) (k:=Nl [⟨1,_,_,_,cR⟩] (k:=?_))));refine nQ [⟨4,_,_,_,a6⟩,⟨10,_,_,_,a7⟩] [] (by kernel_rfl) fun _ K=>?_;simp(disch:=omega) only[kd,<- al,aa,aR,<- ap,af];apply K
 refine bV (CU (S:=⟨(.raw (.int .i64 (k:Int))::jk::.raw (.bool z)::.one (.ptr 0 1 0 0)::.one (.ptr 0 2 0 0)::.one (.ptr 0 0 0 0)::.one (.ptr 0 6 0 0)::.one (.ptr 0 4 0 0)::jk::jk::jk::.raw (.int .i64 d1)::.raw (.int .i64 (F y.length))::jk::jk::.raw (.int .i64 sq)::jk::.raw (.int .i64 (if z=true then 0 else lo))::.raw (.int .i64 E)::j16 (j16 (j16 (j16 (j16 (j16 (j4 (j4 ([]))))))))),Hm [(0,De 0 n (k+1) y D M acc ex)]⟩) ?_ ?_)
 ·cases z with
  |true=>
   refine gD (k:=gV rfl (uL (k:=?_)));refine⟨aj ⟨rfl,trivial⟩ ?_,rfl⟩;simp[wk]
  |false=>
   refine gD (k:=gC rfl (dY ?_));refine⟨aj ⟨rfl,trivial⟩ ?_,rfl⟩;simp[wk]
 refine gD (k:=?_);have bl:((acc++(rng (if z=true then 0 else lo) E).flatMap h)).length<=1000000:=R;generalize bm:acc++(rng (if z=true then 0 else lo) E).flatMap h=T at*
 refine ku (G:=SrG (if z=true then 0 else lo) E h T) (fun v=>⟨(.raw (.int .i64 (k:Int))::jk::.raw (.bool z)::.one (.ptr 0 1 0 0)::.one (.ptr 0 2 0 0)::.one (.ptr 0 0 0 0)::.one (.ptr 0 6 0 0)::.one (.ptr 0 4 0 0)::jk::jk::jk::.raw (.int .i64 d1)::.raw (.int .i64 (F y.length))::jk::jk::.raw (.int .i64 sq)::jk::jk::.raw (.int .i64 E)::.raw (.int .i64 v.x)::j16 (j16 (j16 (j16 (j16 (j16 (j4 (jk::jk::jk::[])))))))),Hm [(0,De 0 n (k+1) y D M v.acc ex)]⟩) (fun _=>()) (fun v=>(E+1-v.x).toNat) ⟨_,acc,acp _,bm⟩ ?_ rfl ?_
 ·refine aj ⟨rfl,trivial⟩ ?_;simp[wk]
 rintro⟨x,C,cM,w⟩;simp only;by_cases hx:x<=E
 ·have cg:z=true->0<=x:=fun e=>by grind
  have V:lo<=x:=by
   cases z with
   |true=>grind
   |false=>grind
  obtain⟨ba,hq⟩:=a5 x V hx;have b3:=a0 x ba;rw[ip hx,acR,<- aaL]at w;have J:(C++h x).length<=1000000:=by
   rw[<- w,aa6]at bl;omega
  have cO:(d1*x).natAbs<=65535*46911780290560:=by
   rw[abv];exact aaU (by omega) (by omega)
  have Q:=fun e=>ag e x
  generalize a1:qi f n B k (aL n (x::y))=O at*
  have b2:0<=d1*O:=aaZ (by omega) b3.1;have ad:Int.tdiv (sq-(d1*x+F y.length)*(d1*x+F y.length)) d1=O:=by rw[hq];exact ac2 _ (by omega)
  have cL:0<=(d1*x+F y.length)*(d1*x+F y.length):=by
   rcases acm 0 (d1*x+F y.length)with h|h
   ·exact aaZ h h
   exact aa4 h h
  have bq:=jP (k+1) y;have br:=n7 k x y;have bn:(gM (k+1)++lc fI y)[k]?=some [.junk]:=by
   rw[aal (by simp[gM])];simp[gM]
  refine bV (gD (k:=gV rfl (dY (bV (gd (d6 (aH bn br) (k:=gD (k:=?_))))))));generalize hU:(d1*x+F y.length)*(d1*x+F y.length)=uu at*
  refine d6 (aH hU ad) (k:=gd ?_);cases k with
  |zero=>
   have L:=Q rfl;obtain⟨bb,u⟩: ∃bb:Bool,bb=((z&&decide (x=0))||(ex&&!decide (O=0))):=⟨_,rfl⟩;have an:h x=if bb=true then[]else[x::y]:=by rw[L,u];simp
   clear L Q ag ah;have bx:(0<((0:Nat):Int))=False:=eq_false (by omega);have bw:gM 0++lc fI (x::y)=lc fI (x::y):=rfl;refine d6 bx (k:=gC rfl ?_);simp only[bw];refine bV (CU (S:=⟨(.raw (.int .i64 ((0:Nat):Int))::jk::.raw (.bool z)::.one (.ptr 0 1 0 0)::.one (.ptr 0 2 0 0)::.one (.ptr 0 0 0 0)::.one (.ptr 0 6 0 0)::.one (.ptr 0 4 0 0)::jk::jk::jk::.raw (.int .i64 d1)::.raw (.int .i64 (F y.length))::jk::jk::.raw (.int .i64 sq)::jk::jk::.raw (.int .i64 E)::.raw (.int .i64 x)::j16 (j16 (j16 (j16 (j16 (j4 (j4 (j4 (.raw (.bool bb)::j4 (j4 (jk::jk::[]))))))))))),Hm [(0,De 0 n 0 (x::y) D M C ex)]⟩) ?_ ?_)
   ·cases z with
    |false=>
     refine gD (k:=gC rfl ?_);cases ex with
     |false=>
      refine uL (k:=?_);refine⟨aj ⟨rfl,trivial⟩ ?_,rfl⟩;simp[wk,u]
     |true=>
      by_cases t:O=0
      ·have A:(O=0)=True:=eq_true t;refine qA A (k:=?_);refine⟨aj ⟨rfl,trivial⟩ ?_,rfl⟩;simp[wk,u,t]
      have A:(O=0)=False:=eq_false t;refine qA A (k:=?_);refine⟨aj ⟨rfl,trivial⟩ ?_,rfl⟩;simp[wk,u,t]
    |true=>
     by_cases b:x=0
     ·have s:(x=0)=True:=eq_true b;refine d6 s (k:=gV rfl (dY ?_));refine⟨aj ⟨rfl,trivial⟩ ?_,rfl⟩;simp[wk,u,b]
     have s:(x=0)=False:=eq_false b;refine d6 s (k:=gC rfl ?_);cases ex with
     |false=>
      refine uL (k:=?_);refine⟨aj ⟨rfl,trivial⟩ ?_,rfl⟩;simp[wk,u,b]
     |true=>
      by_cases t:O=0
      ·have A:(O=0)=True:=eq_true t;refine qA A (k:=?_);refine⟨aj ⟨rfl,trivial⟩ ?_,rfl⟩;simp[wk,u,t,b]
      have A:(O=0)=False:=eq_false t;refine qA A (k:=?_);refine⟨aj ⟨rfl,trivial⟩ ?_,rfl⟩;simp[wk,u,t,b]
   rw[an]at w J;cases bb with
   |true=>
    rw[if_pos rfl,abd]at w;refine gV rfl (dY (uL (k:=?_)));refine⟨⟨x+1,C,by omega,w⟩,by simp only;omega,(nK (m:=0) rfl).trans (aj ⟨rfl,trivial⟩ ?_),trivial⟩;simp[wk]
   |false=>
    rw[if_neg (by decide)]at w J;have cC:=NL (x::y) (by simp) (by grind);have cr:(x::y).length=n:=by omega
    have cl:C.length+1<=1000000:=by grind
    generalize cc:x::y=xy at*
    refine gC rfl ?_;refine zl cf 2 0 96 3 0 2 (lc fI xy) (.sl (ls fI xy)) (f:=142) (ts:=[.one (.sl 0 3 0 n)]) [] [] (by kernel_rfl) (by kernel_rfl) rfl (by decide) fun K g=>?_
    simp only[kd];refine g _ ⟨rfl,rfl,rfl,?_,?_⟩
    ·intro vs b5;obtain rfl:vs=[]:=acg b5;refine⟨_,_,cC,⟨rfl,fun o ho e w x hx=>?_⟩,⟨.inr (.inl ⟨3,0,n,_,rfl,rfl,bF 2 1 xy,?_⟩),trivial⟩,fun H hH=>?_⟩
     ·simp only[aam]at ho;subst ho;obtain⟨z,_,rfl⟩:=aai.1 w;simp only[fI,aaC,aaR,aam]at hx;subst hx;rfl
     ·grind [kC,oS]
     simp only[aaC,aaR,renO,iH]at hH;refine⟨bG hH,?_⟩;simp only[renTV,bY,fc,dN,if_true,hH,acj];grind [kC,fT]
    clear g K;intro K g;simp(disch:=omega) only[kd,aa,Nat.reduceMul,Nat.reduceLeDiff,List.any_cons,af,List.any_nil];apply g;clear g K;show eD _ _ _ _ _ _ _;refine uL (k:=?_);subst cc;refine⟨⟨x+1,C++[x::y],by omega,w⟩,by simp only;omega,(nK (m:=0) (c:=x) (y:=y) (acc:=C++[x::y]) ?_).trans (aj ⟨rfl,trivial⟩ ?_),trivial⟩
    ·have bR:List.map (List.map (aN fun x y=>x==0&&y==5)) (gM 0++lc fI (x::y))=gM 0++lc fI (x::y):=vo _ _;simp only[aM,bR,De,aa6,aaG,ab3,aaO,<- GF];rfl
    simp[wk]
  |succ j=>
   have L:=ah j rfl x;have e4:IntKind.i64.wrap (((j+1:Nat):Int)-1)=(j:Int):=by rw[aR (by omega) (by omega)];omega
   have b0:(0<((j+1:Nat):Int))=True:=eq_true (by omega);rw[L]at J w;have Y:=av j rfl x C V hx cg J;rw[a1]at Y;generalize yE f n B ex j (x::y) (z&&decide (x=0))=W at*
   refine d6 b0 (k:=gV rfl ?_);cases z with
   |false=>
    simp only[aea]at Y;refine iX 9 Y 0 [] [] (by kernel_rfl) (by omega) (by decide) fun K g=>?_
    simp(disch:=omega) only[kd,aa,e4];refine g _ ⟨⟨rfl,(vj 0 0 _ _ _ _ _ _ _).symm⟩,?_⟩;clear g K;intro K g;simp(disch:=omega) only[kd,aa,F3,cwD,Vn,qW,nE,af,aba,iG];apply g;clear g K;show eD _ _ _ _ _ _ _;refine uL (k:=?_);refine⟨⟨x+1,C++W,by omega,w⟩,by simp only;omega,(nK rfl).trans (aj ⟨rfl,trivial⟩ ?_),trivial⟩;simp[wk]
   |true=>
    by_cases b:x=0
    ·subst b;simp only[adL,decide_true]at Y;refine iX 9 Y 0 [] [] (by kernel_rfl) (by omega) (by decide) fun K g=>?_
     simp(disch:=omega) only[kd,aa,e4];refine g _ ⟨⟨rfl,(vj 0 0 _ _ _ _ _ _ _).symm⟩,?_⟩;clear g K;intro K g;simp(disch:=omega) only[kd,aa,F3,cwD,Vn,qW,nE,af,aba,iG];apply g;clear g K;show eD _ _ _ _ _ _ _;refine uL (k:=?_);refine⟨⟨0+1,C++W,by omega,w⟩,by simp only;omega,(nK rfl).trans (aj ⟨rfl,trivial⟩ ?_),trivial⟩;simp[wk]
    have s:(x=0)=False:=eq_false b;simp only[adL,s,decide_false]at Y;refine iX 9 Y 0 [] [] (by kernel_rfl) (by omega) (by decide) fun K g=>?_
    simp(disch:=omega) only[kd,aa,e4,s];refine g _ ⟨⟨rfl,(vj 0 0 _ _ _ _ _ _ _).symm⟩,?_⟩;clear g K;intro K g;simp(disch:=omega) only[kd,aa,F3,cwD,Vn,qW,nE,af,aba,iG];apply g;clear g K;show eD _ _ _ _ _ _ _;refine uL (k:=?_);refine⟨⟨x+1,C++W,by omega,w⟩,by simp only;omega,(nK rfl).trans (aj ⟨rfl,trivial⟩ ?_),trivial⟩;simp[wk]
 rw[jM hx,acH,abd]at w;subst w;refine bV (gD (k:=gC rfl (nO ?_)));show _/\_;refine⟨.inl rfl,trivial,_,aj (tm:=(jk::jk::jk::.one (.ptr 0 1 0 0)::.one (.ptr 0 2 0 0)::.one (.ptr 0 0 0 0)::.one (.ptr 0 6 0 0)::.one (.ptr 0 4 0 0)::j16 (j16 (j16 (j16 (j16 (j16 (j16 (jk::jk::jk::[]))))))))) (l:=[(0,De 0 n (k+1) y D M C ex)]) ⟨rfl,trivial⟩ (by simp[wk]),⟨eh _,rfl⟩,by simp⟩
end
end
end Go.Proofs.YtalmoejhjceflaaGreat
