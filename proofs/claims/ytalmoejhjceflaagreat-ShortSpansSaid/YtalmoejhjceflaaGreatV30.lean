/-
  Part 31 of a proof (walks and plain facts).
-/
import Derived.Test.YtalmoejhjceflaaGreatV29
import Derived.Shelf.Spec.BitsCarry
import Derived.Shelf.Bits.Mul64
set_option linter.all false
set_option maxRecDepth 100000
set_option maxHeartbeats 64000000
open Nat renaming reduceAdd → aa
namespace Go.Proofs.YtalmoejhjceflaaGreat
open Go.RowKit Go.Proofs.Tryz
variable {b:List (List Int)} {n:Nat} {c:List Nat} {e:List Int} {f:Nat->Nat} {x:Int} {s:AS}
section
theorem aba:zW prog 79 2 2:=⟨by kernel_rfl,by kernel_rfl,by kernel_rfl,fun w=>by kernel_rfl⟩
def gF (nm:List Int->Int) (g:MapS) (l:List (List Int)):MapS:=l.foldl (fun g z=>rp g (nm z) (g.2 (nm z)+1)) g
theorem aci (nm:List Int->Int) (g:MapS) (l m:List (List Int)):gF nm g (l++m)=gF nm (gF nm g l) m:=List.foldl_append
def GB (g:MapS):Prop:= ∀j,0<=g.2 j/\g.2 j<=(g.1:Int)
theorem GB.step {g:MapS} (h:GB g) (k:Int):GB (rp g k (g.2 k+1)):=fun j=>by
 have:=h j;have:=h k;show 0<=(if j=k then g.2 k+1 else g.2 j)/\(if j=k then g.2 k+1 else g.2 j)<=((g.1+1:Nat):Int);omega
theorem UL {nm:List Int->Int}: ∀(l:List (List Int)) {g:MapS},GB g->GB (gF nm g l)/\(gF nm g l).1=g.1+l.length
 |[],g,h=>⟨h,rfl⟩
 |z::l,g,h=>by
  obtain⟨b,c⟩:=UL (nm:=nm) l (h.step (nm z));refine⟨b,c.trans ?_⟩;show g.1+1+l.length=_;grind
abbrev N1 (a n m:Nat) (y:List Int) (I:List (Int×Int)) (R:List (List Int)) (r b:Nat):List OObj:=[⟨131,1,[[.fn 95 a [(1,0,0),(2,0,0),(3,0,0),(0,0,0),(5,0,0),(6,0,0)]]]⟩,⟨76,1,[[.p (.sl (ls fV I))]]⟩,⟨3,1,[[.p (.raw (.int .i64 (b:Int)))]]⟩,⟨35,1,[[.sl a 4 0 n]]⟩,⟨2,1,jo m++lc fI y⟩,⟨79,1,[[.p (.raw (.map (some r)))]]⟩,⟨26,1,[[.p (.sl (ls (fR fI) R))]]⟩]
theorem N2 (a d n m:Nat) (y:List Int) (I:List (Int×Int)) (R:List (List Int)) (r b:Nat):(N1 a n m y I R r b).map (renO d)=N1 d n m y I R r b:=by
 simp only[N1,aeX,afh,renO,dA,jh,afv,j5,ah0,afq,if_false]
theorem Ib (a n m:Nat) (y:List Int) (I:List (Int×Int)) (R:List (List Int)) (r g:Nat): ∀o∈N1 a n m y I R r g,selfO a o:=fun o f e b x c=>by
 simp only[afn,afx,or_false]at f;rcases f with rfl|rfl|rfl|rfl|rfl|rfl|rfl
 ·simp only[aeK]at b;subst b;simp only[aeK]at c;subst c;exact⟨rfl,by simp⟩
 ·simp only[aeK]at b;subst b;simp only[aeK]at c;subst c;trivial
 ·simp only[aeK]at b;subst b;simp only[aeK]at c;subst c;trivial
 ·simp only[aeK]at b;subst b;simp only[aeK]at c;subst c;rfl
 ·simp only[afD]at b;rcases b with b|b
  ·obtain⟨_,rfl⟩:=agM.1 b;simp only[aeK]at c;subst c;trivial
  exact dj (bF 2 1 _ e b x c)
 ·simp only[aeK]at b;subst b;simp only[aeK]at c;subst c;trivial
 simp only[aeK]at b;subst b;simp only[aeK]at c;subst c;trivial
abbrev cnP:List (Nat×Nat):=[(1,1),(2,2),(3,3),(0,4),(5,5),(6,6)]
theorem ab3 (a n m f:Nat) (y j:List Int) (I:List (Int×Int)) (R:List (List Int)) (r g b:Nat): ∀q∈cnP.map Prod.fst,∀o,(N1 a n m y I R r g)[q]?=some o-> ∃c,(N1 a n f j I R r b)[q]?=some c/\c.es=o.es/\o.elems.length<=c.elems.length:=fun q e o h=>by
 simp only[cnP,aeX,afh,afn,afx,or_false]at e;rcases e with rfl|rfl|rfl|rfl|rfl|rfl<;>(grind)
abbrev cnA (k:Nat):List TV:=[.raw (.int .i64 (k:Int)),.one (.ptr 0 1 0 0),.one (.ptr 0 2 0 0),.one (.ptr 0 3 0 0),.one (.ptr 0 0 0 0),.one (.ptr 0 5 0 0),.one (.ptr 0 6 0 0)]
abbrev gp (n:Nat) (f:FF) (z:List Int):Int:=SW f z n n
abbrev CnC (n:Nat) (f:FF) (B:Int) (r:Nat) (I:List (Int×Int)) (k:Nat) (y:List Int) (b:Nat) (g:MapS):Prop:=
 lZ prog (pW prog 2 2 r) (cnP.map Prod.fst) 95 (cnA k) (N1 0 n (k+1) y I (mat n n f) r b) (N1 0 n (k+1) y I (mat n n f) r (b+(uz f n B k y).length)) g (gF (gp n f) g (e9 f n B (k+1) y)) (.tup [])
theorem Th {m:Nat} {I:List (Int×Int)} {r f:Nat} (g:s.H 0=N1 0 n m (x::e) I b r f):bN s ⟨s.tmps,aK s.H 0 (N1 0 n (m+1) e I b r f)⟩:=by
 have h:=pi (s:=s) 0 4 (o:=⟨2,1,jo m++lc fI (x::e)⟩) (o':=⟨2,1,jo (m+1)++lc fI e⟩) (by rw[g];rfl) rfl rfl (by simp only[lT,ae6];omega) fun i j l=>by
  rw[<- q9 m x e];grind [jo]
 grind
structure CnG (lo hi:Int) (h:Int->List (List Int)) (em:Int->List (Int×Int)) (I post:List (Int×Int)) (nm:List Int->Int) (G:MapS) (tot:Nat) where
 x:Int
 pre:List (Int×Int)
 g:MapS
 h1:lo<=x
 h2:x<=hi+1
 eI:I=pre++(rng x hi).flatMap em++post
 eg:gF nm g ((rng x hi).flatMap h)=G
 hb:GB g
 hl:g.1+((rng x hi).flatMap h).length<=tot
theorem adV (m:Nat) (x:Int) (y:List Int):(jo m++lc fI (x::y))[m]?=some [.p (.raw (.int .i64 x))]:=by
 grind [jo,lc,fI]
theorem Q9 (m:Nat) (x z:Int) (y:List Int):(jo m++lc fI (x::y)).set m [.p (.raw (.int .i64 z))]=jo m++lc fI (z::y):=by
 simp_all[jo,lc,fI]
section
variable {n:Nat} {f:FF} {B:Int}
theorem aa1 (hv:qH n f B) (r k:Nat) (y:List Int) (I pre post:List (Int×Int)) (g:MapS) (hk:y.length+(k+1)=n) (hT:tn y) (hP:fq f n B (k+1) (aL n y)) (hI:I=pre++uz f n B k y++post) (a4:I.length<=4000000) (hb:GB g) (S:g.1+(e9 f n B (k+1) y).length<=4000000)
  (hN:k=0-> ∀c,cu f n B k (aL n y)<=c->c<=dy f n B k (aL n y)->CallC prog 40 [bV (mat n n f),d7 (c::y)] ⟨[],.raw (.int .i64 (gp n f (c::y)))⟩/\ju (gp n f (c::y)))
  (X: ∀j,k=j+1-> ∀c F L N,cu f n B k (aL n y)<=c->c<=dy f n B k (aL n y)->I=F++uz f n B j (c::y)++L->GB N->N.1+(e9 f n B (j+1) (c::y)).length<=4000000->CnC n f B r I j (c::y) F.length N):CnC n f B r I k y pre.length g:=by
 have bb:=hv.n8;have a0:=hv.lohi hk hT hP;have a2:=aal (m:=y.length+1) (by omega);have hS: ∃H:Int->List (Int×Int),uz f n B k y=(cu f n B k (aL n y),dy f n B k (aL n y))::(rng (cu f n B k (aL n y)) (dy f n B k (aL n y))).flatMap H/\(k=0-> ∀c,H c=[])/\ ∀j,k=j+1-> ∀c,H c=uz f n B j (c::y):=by
  cases k with
  |zero=>exact⟨fun _=>[],by show[_]=_;simp,fun _ _=>rfl,fun j e=>absurd e (by omega)⟩
  |succ j=>
   refine⟨_,rfl,fun e=>absurd e (by omega),fun j' e c=>?_⟩;grind
 obtain⟨H,hS,P,Q⟩:=hS;have hE:e9 f n B (k+1) y=(rng (cu f n B k (aL n y)) (dy f n B k (aL n y))).flatMap fun c=>e9 f n B k (c::y):=rfl
 have a7:k=0-> ∀c,e9 f n B k (c::y)=[c::y]:=fun e c=>by subst e;rfl
 have ag: ∀j,k=j+1-> ∀c,e9 f n B k (c::y)=e9 f n B (j+1) (c::y):=fun j e c=>by subst e;rfl
 unfold CnC at*
 rw[hS]at hI⊢;rw[hE]at S⊢;clear hv hP hT hS hE;generalize T:(fun c=>e9 f n B k (c::y))=h at*
 have ah: ∀c,h c=e9 f n B k (c::y):=fun c=>by rw[<- T]
 clear T;generalize cu f n B k (aL n y)=t at*
 generalize dy f n B k (aL n y)=o at*
 generalize mat n n f=R at*
 have ba: -46911780290560<=t/\t<=46911780290560:=by omega
 have a8: -46911780290560<=o/\o<=46911780290560:=by omega
 have V:t<=o+1:=by omega
 clear a0 a2;have O:I[pre.length]?=some (t,o):=by
  grind
 have bc:pre.length<I.length:=(aeI.1 O).1;have ad:I=(pre++[(t,o)])++(rng t o).flatMap H++post:=by grind
 have s:pre.length+((t,o)::(rng t o).flatMap H).length=I.length-post.length:=by
  grind
 rw[s];clear s hI;refine qQ func95 rfl (by kernel_rfl) cnP (by simp) (by simp[selfTV,bJ]) (by simp[selfTV]) (Ib 0 _ _ _ _ _ _ _) (Ib 0 _ _ _ _ _ _ _) (ab3 0 _ _ _ _ _ _ _ _ _ _) ?_;rw[ntmps95];refine eF.weak (ak (tm:=(.raw (.int .i64 (k:Int))::.one (.ptr 0 1 0 0)::.one (.ptr 0 2 0 0)::.one (.ptr 0 3 0 0)::.one (.ptr 0 0 0 0)::.one (.ptr 0 5 0 0)::.one (.ptr 0 6 0 0)::j16 (j16 (j4 (jk::jk::[]))))) (l:=[(0,N1 0 n (k+1) y I R r pre.length)]) ⟨rfl,trivial⟩ (by simp[wk,List.replicate])) ?_;refine dh (aG O @fV.eq_1) (k:=?_);have e1:IntKind.i64.wrap ((pre.length:Int)+1)=((pre.length+1:Nat):Int):=aH (by omega) (by omega);refine dh e1 (k:=?_);have J:=lT (k+1) y;have q:=q9 k t y;have b:(jo (k+1)++lc fI y)[k]?=some [.junk]:=by
  grind [jo]
 refine dh (aG b q) (k:=?_);clear J q b e1;generalize ac:gF (gp n f) g ((rng t o).flatMap h)=GT at*
 refine dT (G:=CnG t o h H I post (gp n f) GT 4000000) (fun v=>⟨(.raw (.int .i64 (k:Int))::.one (.ptr 0 1 0 0)::.one (.ptr 0 2 0 0)::.one (.ptr 0 3 0 0)::.one (.ptr 0 0 0 0)::.one (.ptr 0 5 0 0)::.one (.ptr 0 6 0 0)::jk::.one (.ptr 8 0 0 0)::j16 (j16 (j4 ([])))),Hm [(0,N1 0 n k (v.x::y) I R r v.pre.length),(8,[⟨133,2,[[.p (.raw (.int .i64 t)),.p (.raw (.int .i64 o))]]⟩])]⟩) (fun v=>v.g) (fun v=>(o+1-v.x).toNat) ⟨t,pre++[(t,o)],g,afY _,V,ad,ac,hb,S⟩ ?_ rfl ?_
 ·refine ak ⟨?_,rfl,trivial⟩ ?_
  ·simp only[afg,ae6,afP];rfl
  simp[wk]
 rintro⟨x,E,A,Z,bh,M,z,C,w⟩;simp only;have bl: -46911780290560<=x/\x<=46911780290561:=by omega
 have J:(jo k++lc fI (x::y)).length=n:=by rw[lT,ae6];omega
 have b:=adV k x y;have D:k<n:=by omega
 by_cases Y:x<=o
 ·rw[jM Y,agQ]at M z w;rw[aci]at z;rw[afg]at w;refine aR (tA bZ (by kernel_rfl) (by kernel_rfl) fun _ K=>?_);simp(disch:=omega) only[kd,aa,reduceCtorEq,D,b];apply K;refine d8 rfl (cb ?_);refine aR (cQ ?_);have q:=Q9 k x (x+1) y;cases k with
  |zero=>
   obtain⟨cN,ae⟩:=hN rfl x Z Y;have ai:h x=[x::y]:=by grind
   rw[ai]at z w;rw[P rfl,afQ]at M;have ap:(0<((0:Nat):Int))=False:=eq_false (by omega);have U:jo 0++lc fI (x::y)=lc fI (x::y):=rfl;have an:jo 0++lc fI ((x+1)::y)=lc fI ((x+1)::y):=rfl;have a6:=C (gp n f (x::y));have a1:=C.step (gp n f (x::y));have a5:A.1+1<=4000000:=by
    grind
   have a3:List.take n (x::y)=x::y:=aeS (by grind);refine dh ap (k:=dO rfl ?_);simp only[an]at q;simp only[U]at J b q;simp only[N1,U];have ab:gF (gp n f) (rp A (gp n f (x::y)) (A.2 (gp n f (x::y))+1)) ((rng (x+1) o).flatMap h)=GT:=z;generalize gp n f (x::y)=nv at*
   refine Qp bZ aba 4 43 nv (A.2 nv+1) [⟨3,_,_,_,cN⟩] [] (by kernel_rfl) (by kernel_rfl) rfl ae ⟨by omega,by omega⟩ (by grind [maxLen]) fun K u=>?_
   simp only[kd,bV,d7,aa,reduceCtorEq,a3];refine u _ ⟨rfl,?_⟩;clear u K;intro K u;simp(disch:=omega) only[kd,bV,d7,aa,afT,Nat.reduceSub,aH];refine u _ ⟨rfl,?_⟩;clear u K;show eF _ _ _ _ _ _ _;refine jW (aG D (aG b q)) (k:=?_);refine⟨⟨x+1,E,rp A nv (A.2 nv+1),by omega,by omega,M,ab,a1,by simp only[ae6,afP]at w;show A.1+1+_<=_;omega⟩,by simp only;omega,ak ⟨rfl,rfl,trivial⟩ ?_,rfl⟩;simp[wk]
  |succ j=>
   rw[Q j rfl x,ae8,ae8,<- ae8 E]at M;rw[ah,ag j rfl]at z w;have e4:IntKind.i64.wrap (((j+1:Nat):Int)-1)=(j:Int):=by grind [aH]
   have av:(0<((j+1:Nat):Int))=True:=eq_true (by omega);have cV:=X j rfl x E _ A Z Y M C (by omega);obtain⟨af,a9⟩:=UL (nm:=gp n f) (e9 f n B (j+1) (x::y)) C;have eW:E++uz f n B j (x::y)=E++uz f n B j (x::y):=rfl;generalize gF (gp n f) A (e9 f n B (j+1) (x::y))=N at*
   generalize(e9 f n B (j+1) (x::y)).length=LL at*
   generalize uz f n B j (x::y)=W at*
   clear eW;refine dh av (k:=d8 rfl (iF 3 cV 0 [] [] (by kernel_rfl) (by omega) (by decide) fun K u=>?_));simp only[kd,aa,reduceCtorEq,e4];refine u _ ⟨⟨rfl,?_⟩,?_⟩
   ·grind [N2]
   clear u K;intro K u;simp(disch:=omega) only[kd,aa,CO,cwD,cnP,qy,oJ,Nat.reduceBEq,reduceCtorEq,afv,j5];apply u;clear u K;show eF _ _ _ _ _ _ _;refine jW (aG D (aG b q)) (k:=?_);refine⟨⟨x+1,E++W,N,by omega,by omega,by grind,z,af,by omega⟩,by simp only;omega,ak ⟨?_,rfl,trivial⟩ ?_,rfl⟩
   ·simp only[afg];rfl
   simp[wk]
 obtain rfl:x=o+1:=by omega
 rw[lP Y,agJ,afz]at M;rw[lP Y,agJ]at z;have z:A=GT:=z;have s:I.length-post.length=E.length:=by grind
 rw[s];refine aR (tA bZ (by kernel_rfl) (by kernel_rfl) fun _ K=>?_);simp(disch:=omega) only[kd,aa,reduceCtorEq,D,b];apply K;refine dO rfl (gV ?_);show _/\_;refine⟨.inl rfl,z,_,(Th rfl).trans (ak (tm:=(jk::.one (.ptr 0 1 0 0)::.one (.ptr 0 2 0 0)::.one (.ptr 0 3 0 0)::.one (.ptr 0 0 0 0)::.one (.ptr 0 5 0 0)::.one (.ptr 0 6 0 0)::j16 (j16 (j4 (jk::jk::[]))))) (l:=[(0,N1 0 n (k+1) y I R r E.length)]) ⟨rfl,trivial⟩ (by simp[wk])),⟨eZ _,rfl⟩,by simp⟩
end
end
def dvG (G:FF) (p:Nat->Nat):Nat->Int
 |0=>1
 |k+1=>G k (p k)
def Om (G:FF) (p:Nat->Nat) (r:Nat->Int):Nat->Nat->Int
 |0=>r
 |k+1=>fun j=>(G k (p k)*Om G p r k j-Om G p r k (p k)*G k j)/dvG G p k
theorem aa5 {X:FF} {p:Nat->Nat} {G:FF} {n s a:Nat} (b: ∀t,t<s->p t<n/\pvD X p (t+1)≠0) (c: ∀k,k<s-> ∀j,j<n->G k j=spM X p k k j): ∀k,k<=s-> ∀j,j<n->Om G p (X a) k j=spM X p k a j
 |0,_,j,_=>(JJ a j).symm
 |k+1,h,j,f=>by
  have g:=aa5 b c k (by omega) (a:=a);have e:dvG G p k=pvD X p k:=by
   cases k with
   |zero=>rfl
   |succ k=>exact c k (by omega) _ (b k (by omega)).1
  rw[acW fun t l=>(b t (by omega)).2,<- g j f,<- g (p k) (b k (by omega)).1,<- c k (by omega) j f,<- e];show(G k (p k)*_-_)/_=_;rw[c k (by omega) _ (b k (by omega)).1];rfl
abbrev pL (b:List Nat) (i:Nat):Nat:=b.getD i 0
def szB:Nat->Nat
 |0=>32768
 |k+1=>2*(szB k*szB k)
theorem Gx {k:Nat} (b:k<=2):32768<=szB k/\szB k<=9223372036854775808:=by
 obtain rfl|rfl|rfl:k=0\/k=1\/k=2:=by omega
 all_goals decide
theorem WQ {a c d:Int} (g:a.natAbs<n) (h:x.natAbs<n) (j:c.natAbs<n) (l:d.natAbs<n):(a*x-c*d).natAbs<2*(n*n):=by
 have e:=ahB g h;have f:=ahB j l;rw[<- afr]at e f;omega
theorem Ej (h:x.natAbs<n) (b:n<=9223372036854775808):Sz x 2:=show _<4294967296^2 by omega
structure SpOk (n:Nat) (L:List (List Int)) (ps:List Nat):Prop where
 len:ps.length=L.length
 row: ∀r∈L,r.length=n
 piv: ∀i,i<L.length->pL ps i<n/\xL L i (pL ps i)≠0
 sz: ∀i j,i<L.length->j<n->(xL L i j).natAbs<szB i
theorem SpOk.dv (h:SpOk n b c) {k:Nat} (m:k<=b.length) (l:k<=2):dvG (xL b) (pL c) k≠0/\Sz (dvG (xL b) (pL c) k) 2:=by
 cases k with
 |zero=>exact⟨by show(1:Int)≠0;omega,ni (by omega)⟩
 |succ k=>
  obtain⟨e,f⟩:=h.piv k (by omega);have g:=h.sz k _ (by omega) e;have j:=Gx (k:=k) (by omega);exact⟨f,Ej g j.2⟩
theorem SpOk.el (h:SpOk n b c) {r:Nat->Int} (f: ∀j,j<n->(r j).natAbs<32768): ∀k,k<=b.length-> ∀j,j<n->(Om (xL b) (pL c) r k j).natAbs<szB k
 |0,_,j,e=>f j e
 |k+1,m,j,e=>by
  obtain⟨g,l⟩:=h.piv k (by omega);exact agd (ahV _ _) (WQ (h.sz k _ (by omega) g) (h.el f k (by omega) j e) (h.el f k (by omega) _ g) (h.sz k j (by omega) e))
abbrev GU (a:Nat) (L:List (List Int)) (b:List Nat):List OObj:=[⟨108,2,[[.sl a 1 0 L.length,.sl a 2 0 L.length]]⟩,⟨85,1,lc (fR fZ) L⟩,⟨3,1,lc fN b⟩]
theorem Pu (a d:Nat) (L:List (List Int)) (b:List Nat):(GU a L b).map (renO d)=GU d L b:=by
 simp only[GU,aeX,afh,renO,dA,jh]
theorem JI (a:Nat) (L:List (List Int)) (g:List Nat): ∀o∈GU a L g,selfO a o:=fun o f e b x c=>by
 simp only[afn,afx,or_false]at f;rcases f with rfl|rfl|rfl
 ·simp only[aeK]at b;subst b;simp only[afn,afx,or_false]at c;rcases c with rfl|rfl<;>rfl
 ·exact dj (bF 85 1 _ e b x c)
 exact dj (bF 3 1 _ e b x c)
theorem acV (a:Nat) (L e:List (List Int)) (f c:List Nat): ∀r∈[0],∀o,(GU a L f)[r]?=some o-> ∃b,(GU a e c)[r]?=some b/\b.es=o.es/\o.elems.length<=b.elems.length:=fun r g o h=>by
 grind
def wN (n:Nat) (L:List (List Int)) (b:List Nat) (x:List Int):List (List Int)×List Nat×Bool:=
 match pvC (Om (xL L) (pL b) (fun j=>x.getD j 0) L.length) n 0 with
 |none=>(L,b,false)
 |some j=>(L++[aA n (Om (xL L) (pL b) (fun j=>x.getD j 0) L.length)],b++[j],true)
abbrev SpC (n:Nat) (L:List (List Int)) (b:List Nat) (x:List Int):Prop:=
 lZ prog VI [0] 63 [.one (.ptr 0 0 0 0),d7 x] (GU 0 L b) (GU 0 (wN n L b x).1 (wN n L b x).2.1) () () (.raw (.bool (wN n L b x).2.2))
theorem Nr {i:Nat} (h:i<b.length):xL (b++[e]) i n=xL b i n:=by
 unfold xL;rw[(vh b e []).1 h]
theorem GO:xL (b++[e]) b.length n=e.getD n 0:=by
 unfold xL;rw[(vh b e [] (a:=0)).2]
theorem xE {i:Nat} (h:i<c.length):pL (c++[n]) i=pL c i:=(vh c n 0).1 h
theorem O6:pL (c++[n]) c.length=n:=(vh c n 0 (a:=0)).2
theorem SpOk.add (h:SpOk n b c) (p: ∀j,j<n->(e.getD j 0).natAbs<32768):SpOk n (wN n b c e).1 (wN n b c e).2.1:=by
 unfold wN;cases s:pvC (Om (xL b) (pL c) (fun j=>e.getD j 0) b.length) n 0 with
 |none=>exact h
 |some q=>
  obtain⟨v,w,u⟩:=vP _ _ _ s;have t:=h.el p b.length (aeJ _);generalize Om (xL b) (pL c) (fun j=>e.getD j 0) b.length=E at*
  have g:=h.len;refine⟨by simp[g],fun r p=>?_,fun i m=>?_,fun i j m o=>?_⟩
  ·rcases afD.1 p with l|l
   ·exact h.row r l
   rw[aeK.1 l,az]
  ·simp only[afg,ahd]at m;by_cases f:i=b.length
   ·subst f;rw[show pL (c++[q]) b.length=q by rw[<- g];exact O6,GO,dm _ (by omega)];exact⟨by omega,u⟩
   rw[xE (by omega),Nr (by omega)];exact h.piv i (by omega)
  simp only[afg,ahd]at m;by_cases f:i=b.length
  ·subst f;rw[GO,dm _ o];exact t j o
  rw[Nr (by omega)];exact h.sz i j (by omega) o
structure SpI (s:Nat) where
 i:Nat
 hi:i<=s
theorem Js {n i:Nat} (g h:Nat->Int):(aA n fun b=>if b<i then g b else h b).set i (g i)=aA n fun b=>if b<i+1 then g b else h b:=by
 rw[lQ];exact bG fun b _=>by
  by_cases e:b=i
  ·subst e;simp
  have:b<i+1↔b<i:=by omega
  simp[e,this]
section
theorem aaY (an:1<=n) (hn:n<=16) (hl:b.length<=2) (h:SpOk n b c) (hx:e.length=n) (hb: ∀g∈e,g.natAbs<32768):SpC n b c e:=by
 have Q: ∀j,j<n->e[j]?=some (e.getD j 0)/\(e.getD j 0).natAbs<32768:=fun j o=>by
  grind
 have B:=h.el (r:=fun j=>e.getD j 0) fun j o=>(Q j o).2
 have M:=fun k (z:k<=b.length)=>h.dv (k:=k) z (by omega)
 have F:=fun k (z:k<=b.length)=>Gx (k:=k) (by omega)
 unfold SpC wN;have N: ∀k j,(xL b k (pL c k)*Om (xL b) (pL c) (fun j=>e.getD j 0) k j-Om (xL b) (pL c) (fun j=>e.getD j 0) k (pL c k)*xL b k j)/dvG (xL b) (pL c) k=Om (xL b) (pL c) (fun j=>e.getD j 0) (k+1) j:=fun _ _=>rfl
 have ac:Om (xL b) (pL c) (fun j=>e.getD j 0) 0=fun j=>e.getD j 0:=rfl
 have J: ∀k,xL b k (pL c k)=dvG (xL b) (pL c) (k+1):=fun _=>rfl
 have I:dvG (xL b) (pL c) 0=1:=rfl;have H:=qX 1 (by omega) (by omega);have ai:=h.len;generalize Om (xL b) (pL c) (fun j=>e.getD j 0)=E at*
 generalize dvG (xL b) (pL c)=D at*
 obtain⟨R,hR⟩: ∃R,R=pvC (E b.length) n 0:=⟨_,rfl⟩;rw[<- hR];refine qQ func63 rfl (by kernel_rfl) [(0,0)] (by simp) (by simp[selfTV,bJ]) (by cases R<;>simp[selfTV,bJ]) (JI 0 _ _) (JI 0 _ _) (acV 0 _ _ _ _) ?_;rw[ntmps63];refine eF.weak (ak (tm:=(.one (.ptr 0 0 0 0)::d7 e::j16 (j16 (j16 (j16 (j16 (j16 (j16 (j4 (j4 (j4 ([])))))))))))) (l:=[(0,GU 0 b c)]) ⟨rfl,trivial⟩ (by simp[wk,List.replicate])) ?_;refine bU (k:=dh hx (k:=aR (dh hx (k:=?_))));refine dT (G:=SpI n) (fun q=>⟨(.one (.ptr 0 0 0 0)::j4 (.one (.sl 19 0 0 n)::j4 (j4 (j4 (jk::jk::d7 e::rN n::rN q.i::j16 (j16 (j16 (j16 (j16 (j16 (j4 (jk::jk::jk::[])))))))))))),Hm [(0,GU 0 b c),(19,[⟨65,2,lc fZ (aA n fun f=>if f<q.i then e.getD f 0 else 0)⟩])]⟩) (fun _=>()) (fun q=>n-q.i) ⟨0,by omega⟩ ?_ rfl ?_
 ·refine(io 19).trans (ak ⟨rfl,?_,trivial⟩ ?_)
  ·show[_]=[_];rw[show(aA n fun f=>if f<0 then e.getD f 0 else 0)=List.replicate n 0 from aeW fun j=>by grind [aw,az]];simp[zO,lc,fZ,GP,GV,cX,ls]
  simp[wk]
 rintro⟨i,hi⟩;simp only;by_cases O:i<n
 ·obtain⟨ah,a0⟩:=Q i O;have V:=qX (e.getD i 0) (by omega) (by omega);have A:=Js (n:=n) (i:=i) (fun f=>e.getD f 0) (fun _=>0);have s:(aA n fun f=>if f<i then e.getD f 0 else 0)[i]?=some 0:=by grind [aw]
  have W:IntKind.i64.wrap ((i:Int)+1)=((i+1:Nat):Int):=by grind [aH]
  refine bU (k:=nT rfl (aR (cQ (dh ah (k:=Tx [⟨3,_,_,_,V⟩] (aG s (aG @zo A)) (k:=jW W (k:=?_)))))));refine⟨⟨i+1,by omega⟩,by grind,ak ⟨rfl,rfl,trivial⟩ ?_,trivial⟩;simp[wk]
 have ad:i=n:=by omega
 subst ad;rw[show(aA i fun f=>if f<i then e.getD f 0 else 0)=aA i (E 0)from bG fun f hb=>by grind];refine bU (k:=po rfl (Ak [⟨0,_,_,_,H⟩] (k:=aR (bU (k:=?_)))));refine dT (G:=SpI b.length) (fun q=>⟨(.one (.ptr 0 0 0 0)::j4 (.one (.sl 19 0 0 i)::jk::jk::.one (.ptr 8 0 0 0)::j16 (j4 (j4 (j4 (.one (.sl 0 1 0 b.length)::rN b.length::rN q.i::j16 (j16 (j16 (j16 (j16 (j4 (jk::jk::[])))))))))))),Hm [(0,GU 0 b c),(8,oh (D q.i)),(19,[⟨65,2,lc fZ (aA i (E q.i))⟩])]⟩) (fun _=>()) (fun q=>b.length-q.i) ⟨0,by omega⟩ ?_ rfl ?_
 ·rw[I];refine ak ⟨rfl,rfl,rfl,trivial⟩ ?_;simp[wk]
 rintro⟨k,z⟩;simp only;by_cases O:k<b.length
 ·obtain⟨r,hr⟩:=getElem?_of_lt O;have ap:=h.row r (adQ hr);have P: ∀j,j<i->r[j]?=some (xL b k j):=fun j o=>by
   grind [xL]
  obtain⟨U,p2⟩:=h.piv k O;have hq:c[k]?=some (pL c k):=by
   grind
  have ag:=P _ U;have ab:=aw (E k) U;have C:=Gx (k:=k) (by omega);have h4:=(Gx (k:=k+1) (by omega)).2;have S:=B k z;have gz:=fun j o=>h.sz k j O o
  obtain⟨d1,d2⟩:=M k z;have Z:=N k;have Y:=J k;have W:IntKind.i64.wrap ((k:Int)+1)=((k+1:Nat):Int):=by grind [aH]
  generalize pL c k=q at*
  refine bU (k:=nT rfl (aR (cQ (dh hr (k:=?_)))));refine aR (Dd [(0,0,65),(55,0,65),(56,0,65),(57,0,65),(58,0,65),(9,0,65),(59,0,65),(60,0,65),(61,0,65),(5,19,65),(54,19,65),(62,19,65),(11,11,65)] bZ [] [] (by kernel_rfl) (PF (t:=65) (n:=2) (by simp only[CG,CI,o8,wH,PR,XF,PP,yJ,PU,JV,CH,PW,JW,yK,PT,JU,CF,XI,PQ,rQ,wE,Ep,PS,Kh,Xq]) (by decide) rfl) (Gj rfl) (by kernel_rfl) fun _ K=>?_);simp(disch:=omega) only[kd,aa,reduceCtorEq,hq,ag,fZ,Nat.reduceEqDiff,ab];apply K;refine aR (bU (k:=?_));refine dT (G:=SpI i) (fun v=>⟨(.one (.ptr 0 0 0 0)::j4 (.one (.sl 19 0 0 i)::jk::jk::.one (.ptr 8 0 0 0)::jk::.one (.p (.sl (ls fZ r)))::.one (.ptr 11 0 0 0)::.one (.ptr 12 0 0 0)::j16 (j4 (j4 (.one (.sl 0 1 0 b.length)::rN b.length::rN k::j16 (j4 (j4 (jk::rN i::rN v.i::j16 (j16 (j16 (j4 (j4 (jk::jk::jk::[]))))))))))))),Hm [(0,GU 0 b c),(8,oh (D k)),(11,oh (xL b k q)),(12,oh (E k q)),(19,[⟨65,2,lc fZ (aA i fun f=>if f<v.i then E (k+1) f else E k f)⟩])]⟩) (fun _=>()) (fun v=>i-v.i) ⟨0,by omega⟩ ?_ rfl ?_
  ·refine ak ⟨rfl,rfl,rfl,rfl,rfl,trivial⟩ ?_;simp[wk]
  rintro⟨j,ae⟩;simp only;by_cases o:j<i
  ·have s:(aA i fun f=>if f<j then E (k+1) f else E k f)[j]?=some (E k j):=by grind [aw]
   have a2:=P j o;have A:=Js (n:=i) (i:=j) (E (k+1)) (E k);have z1:=gz q U;have z2:=S j o;have z3:=S q U;have z4:=gz j o;have y1:=Ej z1 C.2;have y2:=Ej z2 C.2;have y3:=Ej z3 C.2;have y4:=Ej z4 C.2;have V:=Fj (xL b k q) (E k j) (y1.mono (by omega)) (y2.mono (by omega));have c2:=Fj (E k q) (xL b k j) (y3.mono (by omega)) (y4.mono (by omega));have c3:=UV (xL b k q*E k j) (E k q*xL b k j) ((y1.mul y2).mono (by omega)) ((y3.mul y4).mono (by omega));have c4:=DB (xL b k q*E k j-E k q*xL b k j) (D k) d1 (aeT (WQ z1 z2 z3 z4) (aeN h4 (by decide))) d2;rw[Z j]at c4;have X:IntKind.i64.wrap ((j:Int)+1)=((j+1:Nat):Int):=by grind [aH]
   refine bU (k:=nT rfl (aR (cQ (bU (k:=?_)))));refine ov bZ [⟨5,_,_,_,V⟩,⟨11,_,_,_,c2⟩,⟨12,_,_,_,c3⟩] [] (by kernel_rfl) (by kernel_rfl) fun _ K=>?_;simp(disch:=omega) only[kd,tZ,aa,reduceCtorEq,Nat.reduceEqDiff,fZ,s,a2,Nat.reduceBEq];apply K
   refine Tx [⟨4,_,_,_,c4⟩] (aG s (aG @zo A)) (k:=jW X (k:=?_));refine⟨⟨j+1,by omega⟩,by grind,ak ⟨rfl,rfl,rfl,rfl,rfl,trivial⟩ ?_,trivial⟩;simp[wk]
  have y:j=i:=by omega
  subst y;rw[show(aA j fun f=>if f<j then E (k+1) f else E k f)=aA j (E (k+1))from bG fun f hb=>by omega];refine bU (k:=po rfl (tD (k:=jW W (k:=?_))));refine⟨⟨k+1,by omega⟩,by grind,ak ⟨rfl,?_,rfl,trivial⟩ ?_,trivial⟩
  ·rw[<- Y];rfl
  simp[wk]
 have af:k=b.length:=by omega
 subst af;refine bU (k:=po rfl (aR (bU (k:=?_))));have S:=B b.length z;have C:=F b.length z;generalize E b.length=m at*
 clear B M F N J I ac H;refine dT (G:=PvJ i 0 m R) (fun v=>⟨(.one (.ptr 0 0 0 0)::j4 (.one (.sl 19 0 0 i)::j16 (j16 (j16 (j16 (j16 (j4 (j4 (jk::.one (.sl 19 0 0 i)::rN i::rN v.j::j16 (j4 (j4 (j4 ([]))))))))))))),Hm [(0,GU 0 b c),(19,[⟨65,2,lc fZ (aA i m)⟩])]⟩) (fun _=>()) (fun v=>i-v.j) ⟨0,by omega,by omega,hR.symm⟩ ?_ rfl ?_
 ·refine ak ⟨rfl,rfl,trivial⟩ ?_;simp[wk]
 rintro⟨j,_,ae,w⟩;simp only;by_cases o:j<i
 ·have s:=aw m o;have X:IntKind.i64.wrap ((j:Int)+1)=((j+1:Nat):Int):=by grind [aH]
  have u:=Oz (m j) ((Ej (S j o) C.2).mono (by omega));rw[show i-j=i-(j+1)+1 by omega,pvC]at w;by_cases T:m j=0
  ·rw[if_pos T]at w;rw[T]at u s;refine bU (k:=nT rfl (aR (cQ (dh s (k:=Tz [⟨1,_,_,_,u⟩] @we (k:=dO rfl (cb (jW X (k:=?_)))))))));refine⟨⟨j+1,by omega,by omega,w⟩,by grind,ak ⟨rfl,rfl,trivial⟩ ?_,trivial⟩;simp[wk]
  rw[if_neg T]at w;subst w;have av:=yF T;refine bU (k:=nT rfl (aR (cQ (dh s (k:=Ak [⟨1,_,_,_,u⟩] (k:=d8 rfl ?_))))));refine eF.weak ((bR 19 (bj rfl)).trans (ak (tm:=(.one (.ptr 0 0 0 0)::j4 (.one (.p (.sl (ls fZ (aA i m))))::j4 (j4 (jk::rN j::j16 (j16 (j16 (j16 (j16 (j16 (j4 (j4 (j4 (jk::jk::[])))))))))))))) (l:=[(0,GU 0 b c)]) ⟨rfl,trivial⟩ (by simp[wk,f5,gn,aK,Hm,ld,jp,aeS,az]))) ?_;refine dh @IS (k:=dh @oL (k:=bU (k:=?_)));refine dX ⟨.inr rfl,trivial,_,ak (tm:=(.one (.ptr 0 0 0 0)::jk::jk::jk::.raw (.bool true)::j16 (j16 (j16 (j16 (j16 (j16 (j16 (j4 (j4 (jk::[]))))))))))) (l:=[(0,GU 0 (b++[aA i m]) (c++[j]))]) ⟨?_,trivial⟩ (by simp[wk]),⟨eZ _,?_⟩,by simp⟩
  ·grind [be]
  simp(disch:=omega) only[kd,results63]
 have y:j=i:=by omega
 subst y;rw[afO,pvC]at w;subst w;refine bU (k:=po rfl (bU (k:=?_)));refine dX ⟨.inr rfl,trivial,_,ak (tm:=(.one (.ptr 0 0 0 0)::jk::jk::jk::.raw (.bool false)::j16 (j16 (j16 (j16 (j16 (j16 (j16 (j4 (j4 (jk::[]))))))))))) (l:=[(0,GU 0 b c)]) ⟨rfl,trivial⟩ (by simp[wk]),⟨eZ _,?_⟩,by simp⟩;simp(disch:=omega) only[kd,results63]
end
section
section
variable {n:Nat} {X Y:FF} {L:List (List Int)} {ps:List Nat}
structure SpX (n:Nat) (X:FF) (L:List (List Int)) (ps:List Nat):Prop where
 len:ps.length=L.length
 piv: ∀t,t<L.length->pL ps t<n/\pvD X (pL ps) (t+1)≠0
 eq: ∀k,k<L.length-> ∀j,j<n->xL L k j=spM X (pL ps) k k j
theorem O2 {q:Nat->Nat} {k:Nat} (b: ∀a,a<k->X a=Y a) (c: ∀t,t<k->f t=q t):om X k=om Y k/\(jc k).map f=(jc k).map q:=
 ⟨rz b,ae1 fun t e=>c t (iK e)⟩
theorem wn {q:Nat->Nat} {k a:Nat} (g:X a=Y a) (e: ∀a,a<k->X a=Y a) (h: ∀t,t<k->f t=q t):spM X f k a n=spM Y q k a n:=by
 obtain⟨b,c⟩:=O2 e h;unfold spM;rw[g,b,c]
theorem Jh {q:Nat->Nat} {k:Nat} (e: ∀a,a<k->X a=Y a) (g: ∀t,t<k->f t=q t):pvD X f k=pvD Y q k:=by
 obtain⟨b,c⟩:=O2 e g;unfold pvD;rw[b,c]
theorem SpX.congr (h:SpX n X L ps) (e: ∀a,a<L.length->X a=Y a):SpX n Y L ps:=
 ⟨h.len,fun t g=>by
  rw[<- Jh (fun a c=>e a (by omega)) fun _ _=>rfl];exact h.piv t g,fun k b j f=>by
  rw[<- wn (e k b) (fun a c=>e a (by omega)) fun _ _=>rfl];exact h.eq k b j f⟩
theorem SpX.nil:SpX n X [] []:=⟨rfl,fun t c=>absurd c (by simp),fun k b=>absurd b (by simp)⟩
theorem SpX.ind (h:SpX n X L ps):IndV n L.length X:=WE _ fun t b=>⟨(h.piv t b).2,(h.piv t b).1⟩
theorem SpX.add (h:SpX n X L ps) (f:X L.length=fun j=>e.getD j 0):
  ((wN n L ps e).2.2=false->(wN n L ps e).1=L/\(wN n L ps e).2.1=ps/\ ∃(q:Int) (c:Nat->Int),q≠0/\ ∀i,i<n->q*X L.length i=smF (fun b=>c b*X b i) L.length)/\
  ((wN n L ps e).2.2=true->SpX n X (wN n L ps e).1 (wN n L ps e).2.1/\(wN n L ps e).1.length=L.length+1):=by
 have o:=aa5 (fun t g=>h.piv t g) h.eq L.length (aeJ _) (a:=L.length);have l:=h.len;unfold wN;rw[<- f];generalize Om (xL L) (pL ps) (X L.length) L.length=E at*
 cases p:pvC E n 0 with
 |none=>
  refine⟨fun _=>⟨rfl,rfl,Z9 (fun t g=>(h.piv t g).2) fun j m=>?_⟩,fun f=>by cases f⟩;rw[<- o j m];exact BH _ _ p j (by omega) (by omega)
 |some q=>
  obtain⟨_,y,w⟩:=vP _ _ _ p;refine⟨fun f=>(by cases f),fun _=>⟨⟨by simp[l],fun t g=>?_,fun k u j m=>?_⟩,by simp⟩⟩
  ·simp only[afg,ahd]at g;by_cases s:t=L.length
   ·subst s;have v:pL (ps++[q]) L.length=q:=by rw[<- l];exact O6
    refine⟨by show pL (ps++[q]) L.length<n;omega,?_⟩;show spM X _ L.length L.length (pL (ps++[q]) L.length)≠0;rw[v,wn (q:=pL ps) rfl (fun _ _=>rfl) fun t g=>xE (by omega),<- o q (by omega)];exact w
   rw[xE (by omega),Jh (q:=pL ps) (fun _ _=>rfl) fun t g=>xE (by omega)];exact h.piv t (by omega)
  simp only[afg,ahd]at u;by_cases r:k=L.length
  ·subst r;rw[GO,dm _ m,o j m];exact wn rfl (fun _ _=>rfl) fun t g=>(xE (by omega)).symm
  rw[Nr (by omega),h.eq k (by omega) j m];exact wn rfl (fun _ _=>rfl) fun t g=>(xE (by omega)).symm
theorem vl {m:Nat} (b:IndV n m X):m<=n:=aeN (Mj (gK n _) b) (Mi n _)
theorem QZ (e:IndV n n X): ∃(q:Int) (c:Nat->Int),q≠0/\ ∀i,i<n->q*X n i=smF (fun b=>c b*X b i) n:=
 Fl e fun h=>by have:=vl h;omega
theorem ack {f:List (Int×List Int)} {x:Int×List Int} (j:IndV n f.length (vL (f++[x]))):f.length<rkF n (kp (f.length+1) (vL (f++[x])))↔IndV n (f.length+1) (vL (f++[x])):=by
 refine⟨fun h=>afJ fun g=>?_,fun h=>Mj (gK n _) h⟩;obtain⟨q,c,o,l⟩:=Fl j g;have:=sK (s:=f.length) (gK n _) (Y:=vL (f++[x])) (m:=f.length+1) (X:=vL (f++[x])) (fun a p=>by
  by_cases e:a=f.length
  ·rw[e];exact⟨q,c,o,l⟩
  exact⟨1,fun b=>if b=a then 1 else 0,by decide,fun i _=>rZ (by omega) fun b=>vL (f++[x]) b i⟩)
 omega
theorem UT {m:Nat} {c:Nat->Int} (g:x≠0) (e: ∀i,i<n->x*X m i=smF (fun b=>c b*X b i) m): ¬IndV n (m+1) X:=fun h=>by
 have:=h (fun b=>if b=m then x else-c b) (fun i f=>by
  rw[smF,if_pos rfl,e i f,au m (G:=fun b=> -1*(c b*X b i)) fun b j=>by rw[if_neg (by omega)];grind,aW];omega) m (by omega)
 simp only[if_pos]at this;exact g this
structure SpCh (n:Nat) (ch:List (Int×List Int)) (L:List (List Int)) (ps:List Nat):Prop where
 x:SpX n (vL ch) L ps
 ok:SpOk n L ps
 l:ch.length=L.length
theorem SpCh.nil:SpCh n [] [] []:=⟨SpX.nil,⟨rfl,by simp,fun i b=>absurd b (by simp),fun i j b=>absurd b (by simp)⟩,rfl⟩
theorem SpCh.add {f:List (Int×List Int)} (h:SpCh n f L ps) (x:Int×List Int) (v: ∀j,j<n->(x.2.getD j 0).natAbs<32768) (r:List (Int×List Int)):
  (L.length<n/\(wN n L ps x.2).2.2=true->SpCh n (f++[x]) (wN n L ps x.2).1 (wN n L ps x.2).2.1/\grS n (x::r) f=grS n r (f++[x]))/\
  (¬(L.length<n/\(wN n L ps x.2).2.2=true)->grS n (x::r) f=grS n r f/\ ∃(q:Int) (c:Nat->Int),q≠0/\ ∀i,i<n->q*x.2.getD i 0=smF (fun b=>c b*vL f b i) f.length)/\
  (L.length<n->(wN n L ps x.2).2.2=false->(wN n L ps x.2).1=L/\(wN n L ps x.2).2.1=ps):=by
 have A:=h.x.congr (Y:=vL (f++[x])) fun a E=>(x7 f x (by have:=h.l;omega)).symm
 have m:=A.ind;rw[<- h.l]at m;have o:=ack m;have e:vL (f++[x]) L.length=fun j=>x.2.getD j 0:=by rw[<- h.l];exact wJ f x
 obtain⟨s,C⟩:=A.add e;have B: ∀(hng: ∃(q:Int) (c:Nat->Int),q≠0/\ ∀i,i<n->q*vL (f++[x]) L.length i=smF (fun b=>c b*vL (f++[x]) b i) L.length),grS n (x::r) f=grS n r f/\ ∃(q:Int) (c:Nat->Int),q≠0/\ ∀i,i<n->q*x.2.getD i 0=smF (fun b=>c b*vL f b i) f.length:=fun⟨q,c,hq,w⟩=>by
  rw[<- h.l]at w;refine⟨?_,q,c,hq,fun i D=>?_⟩
  ·rw[grS,if_neg fun h=>UT hq w (o.1 h)]
  have:=w i D;rw[wJ]at this;rw[this];exact au _ fun b v=>by rw[x7 f x v]
 refine⟨fun⟨t,g⟩=>?_,fun t=>?_,fun t g=>⟨(s g).1,(s g).2.1⟩⟩
 ·obtain⟨u,p⟩:=C g;refine⟨⟨u,h.ok.add v,by rw[p,afg,h.l];rfl⟩,?_⟩;have z:=u.ind;rw[p,<- h.l]at z;rw[grS,if_pos (o.2 z)]
 by_cases g:L.length<n
 ·exact B (s (by simpa[g] using t)).2.2
 have u:=vl m;have p:f.length=n:=by have:=h.l;omega
 have y:L.length=n:=by have:=h.l;omega
 rw[p]at m;have:=QZ m;refine B ?_;rw[y];exact this
end
end
section
section
variable {P:Program} {γ:Type} {L:iz γ} {g g':γ} {w0 w:World} {O X Y:Nat->Prop} {a:Act} {ks:List Nat}
theorem WW {R1 R2:AS->Act->World->Prop} (C:yc ks R1) (D:yc ks R2) (m:Nat) (c:List (ar P)) (A:List Nat) {id:Nat} {b:Array Oper} (y:cY ks b=true) (hm:m<b.toList.length) {f t u:AS} (H:ja P (c.map ar.a) A b ((b.toList.take m).zipIdx 0) s=some f) {o:Oper} (M:b[m]?=some o) (R: ∀a w,R1 f a w->Region.wanted o (yielded b a.tmps)=true) (q:CR P o (R1 f) (R2 t)) (I:ja P (c.map ar.a) A b ((b.toList.drop (m+1)).zipIdx (m+1)) t=some u) {Q:Exit->Act->World->Prop} (N:R1 s a w) (J: ∀e h,R2 u e h->Q .normal e h):(Code.region id b false).wp P Q a w:=by
 refine(wpIn_wide (n:=0)).1 (wpIn_region (F:=FW none) ?_);obtain⟨wa,Oa,Xa,U,z⟩:=C s a w N;have r:b.size=(b.toList.take m).length+(1+(b.toList.drop (m+1)).length):=by grind
 rw[r,afi,<- afk,afm];have l:(b.toList.take m).length=m:=by grind
 refine qc y (b.toList.take m) 0 s f a w (fun j o K=>?_) H U fun e h x B=>?_
 ·grind
 rw[l,agn 1,afj,wpOpsIn_cons];unfold wpOpIn;rw[M];simp only;rw[if_pos (R _ _ (z _ _ _ x B))];refine q e h _ _ (z _ _ _ x B) fun v W p=>?_
 obtain⟨wb,Ob,Xb,V,S⟩:=D _ _ _ p;have:=qc (n:=0) (Q:=Q) (suf:=[]) y (b.toList.drop (m+1)) (m+1) t u _ W (fun j o K=>by
  grind) I V (fun E Z G T=>J E Z (S _ _ _ G T))
 grind
structure adq (ops:Array Oper) (m:Nat) (f:FuncId) (args:List TV) (fa:Nat) (F:List OObj) (s:AS):Prop where
 ok: ∃o gd d,ops[m]?=some o/\o.guard=some (gd,true)/\(ops[gd]?).bind (·.dst)=some d/\s.tmps[d]?=some (.one (.p (.raw (.bool true))))/\cfTs o s=some (f,args.map (renTV fa))
 fam:s.H fa=F.map (renO fa)
theorem Hk {Q:Exit->AS->γ->Prop} (m:Nat) {f:FuncId} {args:List TV} {F p:List OObj} {r:TV} (q:lZ P L c f args F p g g' r) (l:Nat) (e:List (ar P)) (n:List Nat) {id:Nat} {b:Array Oper} (J:cY ks b=true) (z:l<=4999) (Z:m<b.toList.length) (h: ∀K:AS->Prop,(∀j,(adq b m f args l F j/\ ∀K:AS->Prop,(∀x,Q .normal x g'->K x)->bM P (e.map ar.a) n (aV b (b.toList.drop (m+1)) (m+1)) (some (CO b m r l c p j)) K)->K j)->bM P (e.map ar.a) n (aV b (b.toList.take m) 0) (some s) K):eF P L ks (.region id b false) Q s g:=fun M Y w0 O X a w r0=>by
 obtain⟨j,S,⟨⟨o,R,d,A,hg,hd,W,D⟩,t⟩,T⟩:=aO P (e.map ar.a) n b _ 0 s _ (h (fun j=>adq b m f args l F j/\bM P (e.map ar.a) n (aV b (b.toList.drop (m+1)) (m+1)) (some (CO b m r l c p j)) (fun s=>Q .normal s g')) fun j ⟨E,q3⟩=>⟨E,q3 _ fun _ h=>h⟩);obtain⟨x,G,U⟩:=aO P (e.map ar.a) n b _ (m+1) _ _ T;have y:CO b m r l c p j=AS.put ⟨j.tmps.map (qy l c),aK j.H l (p.map (renO l))⟩ o.dst (renTV l r):=by
  unfold CO cwD;rw[A];rfl
 rw[y]at G;refine WW (R1:=jy L ks M Y w0 O X g) (R2:=jy L ks M Y w0 O X g') eP eP m e n J Z S A (fun a w hr=>?_) (fun a w K Q ⟨E,q2⟩ V=>Cp q z D t a w K Q E fun v N r=>V v N ⟨r,fun k u=>(i6 J A v k u).trans (q2 k u)⟩) G r0 fun a' N r'=>⟨x,g',U,r'⟩
 obtain⟨_,_,ρ,I,C⟩:=hr.1.1;obtain⟨v,hv,B⟩:=C d _ W;have aa:=(bo B).1;have hy:yielded b a.tmps R=some true:=by
  grind [yielded]
 grind [Region.wanted]
end
end
theorem Dl (x y c:Int) (f:0<=x) (g:x<18446744073709551616) (h:0<=y) (j:y<18446744073709551616) (b:0<=c) (l:c<=1) (w:World):(callFunc 227 #[.int .u64 x,.int .u64 y,.int .u64 c]).run prog w=
  .ok (.value (.tuple #[.int .u64 ((x+y+c)%18446744073709551616),.int .u64 ((x+y+c)/18446744073709551616)])) w:=by
 obtain⟨x,rfl⟩:=afw f;obtain⟨y,rfl⟩:=afw h;obtain⟨c,rfl⟩:=afw b;rw[run_callFunc_extern func227 (by kernel_rfl) (by kernel_rfl) (by kernel_rfl) (e:=add64Entry) (by kernel_rfl),run_add64 x y c (by omega) (by omega) (by omega) (by omega)];rfl
theorem xX (x y b:Int) (h:0<=x) (j:0<=y) (l:y<18446744073709551616) (c:0<=b) (m:b<=1) (w:World):(callFunc 228 #[.int .u64 x,.int .u64 y,.int .u64 b]).run prog w=
  .ok (.value (.tuple #[.int .u64 ((x-y-b)%18446744073709551616),.int .u64 (if x<y+b then 1 else 0)])) w:=by
 obtain⟨x,rfl⟩:=afw h;obtain⟨y,rfl⟩:=afw j;obtain⟨b,rfl⟩:=afw c;have f:(((x+18446744073709551616-y-b)%18446744073709551616:Nat):Int)=((x:Int)-y-b)%18446744073709551616:=by omega
 have g:((if x<y+b then 1 else 0:Nat):Int)=if(x:Int)<y+b then 1 else 0:=by grind
 rw[<- f,<- g];rw[run_callFunc_extern func228 (by kernel_rfl) (by kernel_rfl) (by kernel_rfl) (e:=sub64Entry) (by kernel_rfl),run_sub64 x y b (by omega)];rfl
theorem Rk (x y:Nat) (hx:x<18446744073709551616) (hy:y<18446744073709551616) (w:World):
  Calls prog 226 #[.int .u64 x,.int .u64 y] w fun e w'=>e= .returned (.tuple #[.int .u64 ((x*y/18446744073709551616:Nat):Int),.int .u64 ((x*y%18446744073709551616:Nat):Int)])/\w=w':=by
 obtain⟨bd,bt,bw,hhi⟩:=Lib.mul64_hi x y hx hy;have ba:=Lib.half_mul_le (a:=x/4294967296) (b:=y/4294967296) (by omega) (by omega);have bb:=Lib.half_mul_le (a:=x/4294967296) (b:=y%4294967296) (by omega) (by omega);have bc:=Lib.half_mul_le (a:=x%4294967296) (b:=y/4294967296) (by omega) (by omega);have ba':x/4294967296*(y/4294967296)<18446744073709551616:=by omega
 have bb':x/4294967296*(y%4294967296)<18446744073709551616:=by omega
 have bc':x%4294967296*(y/4294967296)<18446744073709551616:=by omega
 have bh1:x/4294967296*(y/4294967296)+(x/4294967296*(y%4294967296)+x%4294967296*(y%4294967296)/4294967296)/4294967296<18446744073709551616:=by omega
 have bh:x/4294967296*(y/4294967296)+(x/4294967296*(y%4294967296)+x%4294967296*(y%4294967296)/4294967296)/4294967296+((x/4294967296*(y%4294967296)+x%4294967296*(y%4294967296)/4294967296)%4294967296+x%4294967296*(y/4294967296))/4294967296<18446744073709551616:=by omega
 go_enter func226,ntmps226
 go_wp2
 simp only[Mul64.maskN x hx,Mul64.maskN y hy,Mul64.divN,Mul64.mulN,Mul64.addN,Mul64.wrapN _ bd,Mul64.wrapN _ bb',Mul64.wrapN _ bt,Mul64.maskN _ bt,Mul64.wrapN _ bc',Mul64.wrapN _ bw,Mul64.wrapN _ ba',Mul64.wrapN _ bh1,Mul64.wrapN _ bh,Mul64.wrapM (x*y)];rw[hhi]
 go_ret2
 simp
abbrev wiV (p:Int):TV:= .agg [.p (.raw (.int .u64 0)),.p (.raw (.int .u64 p))]
theorem Mf {X:Nat->Prop} {w:World} {v:Value} (h:(wiV x).rel (fun _ _=>none) (fun _=>[]) X w v):v= .agg #[.int .u64 0,.int .u64 x]:=by
 obtain⟨vs,rfl,c,b⟩:=h;obtain⟨l,e,_,g⟩:=b 0 _ rfl;obtain⟨m,f,_,j⟩:=b 1 _ rfl;obtain rfl:=jw g;obtain rfl:=jw j;have c:vs.size=2:=c;refine congrArg Value.agg (Array.ext_getElem? fun i=>?_)
 match i with
 |0=>exact e
 |1=>exact f
 |i+2=>rw[Array.getElem?_eq_none (by omega)];rfl
theorem adl {c:Rho} {H:OH} {X:Nat->Prop} {w:World} (p:Int):(wiV p).rel c H X w (.agg #[.int .u64 0,.int .u64 p]):=by
 refine⟨_,rfl,rfl,fun j x b=>?_⟩
 match j,b with
 |0,b=>
  simp at b;subst b;exact⟨_,rfl,rfl,bS.raw _ rfl⟩
 |1,b=>
  simp at b;subst b;exact⟨_,rfl,rfl,bS.raw _ rfl⟩
 |j+2,b=>simp at b
theorem GI (p x y:Int) (h0:0<=p) (hx:0<=x) (hx':x<18446744073709551616) (hy:0<=y) (hy':y<18446744073709551616) (hn:p+x*y<18446744073709551616):
  CallC prog 194 [wiV p,.raw (.int .u64 x),.raw (.int .u64 y)] ⟨[],wiV (p+x*y)⟩:=by
 refine oB (by kernel_rfl) fun X w vs hX hvs ha=>?_
 obtain⟨v0,a0,r0⟩:=ha 0 _ rfl;obtain⟨v1,a1,r1⟩:=HJ ha (j:=1) rfl;obtain⟨v2,a2,r2⟩:=HJ ha (j:=2) rfl;obtain rfl:=Mf r0;obtain rfl:=jw r1;obtain rfl:=jw r2;obtain rfl:vs= #[.agg #[.int .u64 0,.int .u64 p],.int .u64 x,.int .u64 y]:=by grind
 have hq:=aeQ hx hy;obtain⟨a,rfl⟩:=afw hx;obtain⟨b,rfl⟩:=afw hy;have hM:=Rk a b (by omega) (by omega);rw[aib (by omega),ahk (by omega),Int.natCast_mul]at hM;generalize(a:Int)*(b:Int)=q at*
 have e1:=Dl p q 0 h0 (by omega) hq (by omega) (by omega) (by omega);have e2:=Dl 0 0 0 (by omega) (by omega) (by omega) (by omega) (by omega) (by omega);rw[aid,Int.emod_eq_of_lt (by omega) hn,Int.ediv_eq_zero_of_lt (by omega) hn]at e1;have e2: ∀w,(callFunc 227 #[.int .u64 0,.int .u64 0,.int .u64 0]).run prog w= .ok (.value (.tuple #[.int .u64 0,.int .u64 0])) w:=e2;have HM:=aeV hM;clear hM ha a0 a1 a2 r0 r1 r2 hvs hX;show Calls _ _ _ w fun e w'=> ∃v,e= .returned v/\(∀ρ H Y,(wiV (p+q)).rel ρ H Y w' v)/\fm w w'
 go_enter func194,ntmps194
 go_wp2_with (first|(go_at_call 226;refine(HM.out _).mono ?_;rintro e w' ⟨rfl,rfl⟩)|simp only[e1]|simp only[e2])
 refine bodyPost_ret (v:= .agg #[.int .u64 0,.int .u64 (p+q)]) ?_ rfl ⟨_,rfl,fun _ _ _=>adl _,?_⟩
 ·simp[results,results194,go_sem]
 exact((fm.refl _).alloc _).alloc _
theorem Ki (p q:Int) (h0:0<=p) (h1:p<=4611686018427387904) (g0:0<=q) (g1:q<=4611686018427387904):
  CallC prog 195 [wiV p,wiV q] ⟨[],if q<=p then tvI (p-q) true else tvI 0 false⟩:=by
 refine oB (by kernel_rfl) fun X w vs hX hvs ha=>?_
 obtain⟨v0,a0,r0⟩:=ha 0 _ rfl;obtain⟨v1,a1,r1⟩:=ha 1 _ rfl;obtain rfl:=Mf r0;obtain rfl:=Mf r1;obtain rfl:vs= #[.agg #[.int .u64 0,.int .u64 p],.agg #[.int .u64 0,.int .u64 q]]:=by grind
 have e1:=xX p q 0 h0 g0 (by omega) (by omega) (by omega);clear ha a0 a1 r0 r1 hvs hX;by_cases hle:q<=p
 ·rw[if_pos hle];rw[aiU,Int.emod_eq_of_lt (by omega) (by omega),if_neg (by omega)]at e1;have e2: ∀w,(callFunc 228 #[.int .u64 0,.int .u64 0,.int .u64 0]).run prog w= .ok (.value (.tuple #[.int .u64 0,.int .u64 0])) w:=xX 0 0 0 (by omega) (by omega) (by omega) (by omega) (by omega);obtain⟨d,hd⟩: ∃d,p-q=d:=⟨_,rfl⟩;rw[hd]at e1⊢;have d0:0<=d:=by omega
  have d1:d<=4611686018427387904:=by omega
  clear hd
  go_enter func195,ntmps195
  go_wp2_with (first|simp only[e1]|simp only[e2])
  go_ret2
  exact⟨_,rfl,fun _ _ _=>Pc _ _,((fm.refl _).alloc _).alloc _⟩
 rw[if_neg hle];rw[if_pos (by omega)]at e1;have e2: ∀w,(callFunc 228 #[.int .u64 0,.int .u64 0,.int .u64 1]).run prog w= .ok (.value (.tuple #[.int .u64 18446744073709551615,.int .u64 1])) w:=xX 0 0 1 (by omega) (by omega) (by omega) (by omega) (by omega);have d0:=aho (p-q-0) (show(18446744073709551616:Int)≠0 by omega);have d1:=ag1 (p-q-0) (show(0:Int)<18446744073709551616 by omega);generalize(p-q-0)%18446744073709551616=d at*
 go_enter func195,ntmps195
 go_wp2_with (first|simp only[e1]|simp only[e2])
 go_ret2
 exact⟨_,rfl,fun _ _ _=>Pc _ _,((fm.refl _).alloc _).alloc _⟩
end Go.Proofs.YtalmoejhjceflaaGreat
