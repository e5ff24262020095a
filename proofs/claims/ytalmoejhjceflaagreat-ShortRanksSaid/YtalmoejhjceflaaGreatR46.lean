/-
  Part 47 of a proof (walks and plain facts).
-/
import Derived.Test.YtalmoejhjceflaaGreatR45
set_option linter.all false
set_option maxRecDepth 100000
set_option maxHeartbeats 64000000
open Nat renaming reduceAdd → aa
namespace Go.Proofs.YtalmoejhjceflaaGreat
open Go.RowKit Go.Proofs.Tryz
variable {b:List (List Int)} {n:Nat} {c:List Nat} {e:List Int} {f:Nat->Nat} {s:AS}
section
theorem U8:vo prog 79 2 2:=⟨by kernel_rfl,by kernel_rfl,by kernel_rfl,fun w=>by kernel_rfl⟩
def gF (nm:List Int->Int) (g:MapS) (l:List (List Int)):MapS:=l.foldl (fun g z=>qP g (nm z) (g.2 (nm z)+1)) g
theorem WG (nm:List Int->Int) (g:MapS) (l m:List (List Int)):gF nm g (l++m)=gF nm (gF nm g l) m:=List.foldl_append
def GB (g:MapS):Prop:= ∀j,0<=g.2 j/\g.2 j<=(g.1:Int)
theorem GB.step {g:MapS} (h:GB g) (k:Int):GB (qP g k (g.2 k+1)):=fun j=>by
 have:=h j;have:=h k;show 0<=(if j=k then g.2 k+1 else g.2 j)/\(if j=k then g.2 k+1 else g.2 j)<=((g.1+1:Nat):Int);omega
theorem Od {nm:List Int->Int}: ∀(l:List (List Int)) {g:MapS},GB g->GB (gF nm g l)/\(gF nm g l).1=g.1+l.length
 |[],g,h=>⟨h,rfl⟩
 |z::l,g,h=>by
  obtain⟨b,c⟩:=Od (nm:=nm) l (h.step (nm z));refine⟨b,c.trans ?_⟩;show g.1+1+l.length=_;grind
abbrev IH (a n m:Nat) (y:List Int) (I:List (Int×Int)) (R:List (List Int)) (r nx:Nat):List OObj:=[⟨131,1,[[.fn 95 a [(1,0,0),(2,0,0),(3,0,0),(0,0,0),(5,0,0),(6,0,0)]]]⟩,⟨76,1,[[.p (.sl (ls fV I))]]⟩,⟨3,1,[[.p (.raw (.int .i64 (nx:Int)))]]⟩,⟨35,1,[[.sl a 4 0 n]]⟩,⟨2,1,gh m++lc fI y⟩,⟨79,1,[[.p (.raw (.map (some r)))]]⟩,⟨26,1,[[.p (.sl (ls (fR fI) R))]]⟩]
theorem II (a d n m:Nat) (y:List Int) (I:List (Int×Int)) (R:List (List Int)) (r nx:Nat):(IH a n m y I R r nx).map (renO d)=IH d n m y I R r nx:=by
 simp only[IH,aaI,aaY,renO,cb,iC,abe,gY,adw,aaZ,if_false]
theorem De (a n m:Nat) (y:List Int) (I:List (Int×Int)) (R:List (List Int)) (r nx:Nat): ∀o∈IH a n m y I R r nx,selfO a o:=fun o f e b x c=>by
 simp only[aaR,abj,or_false]at f;rcases f with rfl|rfl|rfl|rfl|rfl|rfl|rfl
 ·simp only[aaq]at b;subst b;simp only[aaq]at c;subst c;exact⟨rfl,by simp⟩
 ·simp only[aaq]at b;subst b;simp only[aaq]at c;subst c;trivial
 ·simp only[aaq]at b;subst b;simp only[aaq]at c;subst c;trivial
 ·simp only[aaq]at b;subst b;simp only[aaq]at c;subst c;rfl
 ·simp only[abf]at b;rcases b with b|b
  ·obtain⟨_,rfl⟩:=ach.1 b;simp only[aaq]at c;subst c;trivial
  exact cf (bo 2 1 _ e b x c)
 ·simp only[aaq]at b;subst b;simp only[aaq]at c;subst c;trivial
 simp only[aaq]at b;subst b;simp only[aaq]at c;subst c;trivial
abbrev X3:List (Nat×Nat):=[(1,1),(2,2),(3,3),(0,4),(5,5),(6,6)]
theorem Wl (a n m f:Nat) (y g:List Int) (I:List (Int×Int)) (R:List (List Int)) (r nx b:Nat): ∀q∈X3.map Prod.fst,∀o,(IH a n m y I R r nx)[q]?=some o-> ∃c,(IH a n f g I R r b)[q]?=some c/\c.es=o.es/\o.elems.length<=c.elems.length:=fun q e o h=>by
 simp only[X3,aaI,aaY,aaR,abj,or_false]at e;rcases e with rfl|rfl|rfl|rfl|rfl|rfl<;>(grind)
abbrev cnA (k:Nat):List TV:=[.raw (.int .i64 (k:Int)),.one (.ptr 0 1 0 0),.one (.ptr 0 2 0 0),.one (.ptr 0 3 0 0),.one (.ptr 0 0 0 0),.one (.ptr 0 5 0 0),.one (.ptr 0 6 0 0)]
abbrev li (n:Nat) (f:FF) (z:List Int):Int:=MH f z n n
abbrev Yg (n:Nat) (f:FF) (B:Int) (r:Nat) (I:List (Int×Int)) (k:Nat) (y:List Int) (nx:Nat) (g:MapS):Prop:=
 ku prog (mz prog 2 2 r) (X3.map Prod.fst) 95 (cnA k) (IH 0 n (k+1) y I (mat n n f) r nx) (IH 0 n (k+1) y I (mat n n f) r (nx+(p8 f n B k y).length)) g (gF (li n f) g (gE f n B (k+1) y)) (.tup [])
theorem MX {m:Nat} {c:Int} {I:List (Int×Int)} {r nx:Nat} (f:s.H 0=IH 0 n m (c::e) I b r nx):bG s ⟨s.tmps,ax s.H 0 (IH 0 n (m+1) e I b r nx)⟩:=by
 have h:=l8 (s:=s) 0 4 (o:=⟨2,1,gh m++lc fI (c::e)⟩) (o':=⟨2,1,gh (m+1)++lc fI e⟩) (by rw[f];rfl) rfl rfl (by simp only[jq,aaP];omega) fun i g j=>by
  rw[<- nG m c e];grind [gh]
 grind
theorem yN {P:Program} {j:Type} {L:f5 j} {g:j} {Q:Exit->AS->j->Prop} (f:P.follows .mixedOrders=true) (b:List (ao P)) (l:List Nat) {id:Nat} {y:Code} {e:Array Oper} (n:bY [] e=true) (o:cW c e=true) (h: ∀K:AS->Prop,(∀m,dW P L c y Q m g->K m)->aS P (b.map ao.a) l (aJ e e.toList 0) (some s) K):dW P L c (.seq (.region id e true) y) Q s g:=bA (Km f b l n o h)
theorem vD {P:Program} {f:Type} {L:f5 f} {g:f} {Q:Exit->AS->f->Prop} (e:P.follows .mixedOrders=true) {id:Nat} {y:Code} {b:Array Oper} (l:bY [] b=true) (m:cW c b=true) (h: ∀K:AS->Prop,(∀j,dW P L c y Q j g->K j)->aS P [] [] (aJ b b.toList 0) (some s) K):dW P L c (.seq (.region id b true) y) Q s g:=yN e [] [] l m h
structure CnG (lo hi:Int) (h:Int->List (List Int)) (em:Int->List (Int×Int)) (I post:List (Int×Int)) (nm:List Int->Int) (G:MapS) (tot:Nat) where
 x:Int
 pre:List (Int×Int)
 g:MapS
 h1:lo<=x
 h2:x<=hi+1
 eI:I=pre++(rng x hi).flatMap em++post
 eg:gF nm g ((rng x hi).flatMap h)=G
 hb:GB g
 hl:g.1+((rng x hi).flatMap h).length<=tot
theorem YP (m:Nat) (x:Int) (y:List Int):(gh m++lc fI (x::y))[m]?=some [.p (.raw (.int .i64 x))]:=by
 grind [gh,lc,fI]
theorem K6 (m:Nat) (x z:Int) (y:List Int):(gh m++lc fI (x::y)).set m [.p (.raw (.int .i64 z))]=gh m++lc fI (z::y):=by
 simp_all[gh,lc,fI]
section
variable {n:Nat} {f:FF} {B:Int}
theorem U1 (hv:oS n f B) (r k:Nat) (y:List Int) (I pre post:List (Int×Int)) (g:MapS) (hk:y.length+(k+1)=n) (hT:o8 y) (hP:gM f n B (k+1) (aY n y)) (hI:I=pre++p8 f n B k y++post) (a5:I.length<=4000000) (hb:GB g) (S:g.1+(gE f n B (k+1) y).length<=4000000)
  (hN:k=0-> ∀c,eB f n B k (aY n y)<=c->c<=fC f n B k (aY n y)->CallC prog 40 [cq (mat n n f),mY (c::y)] ⟨[],.raw (.int .i64 (li n f (c::y)))⟩/\I64 (li n f (c::y)))
  (X: ∀j,k=j+1-> ∀c F L N,eB f n B k (aY n y)<=c->c<=fC f n B k (aY n y)->I=F++p8 f n B j (c::y)++L->GB N->N.1+(gE f n B (j+1) (c::y)).length<=4000000->Yg n f B r I j (c::y) F.length N):Yg n f B r I k y pre.length g:=by
 have bc:=hv.n8;have a1:=hv.lohi hk hT hP;have a3:=Ui (m:=y.length+1) (by omega);have hS: ∃H:Int->List (Int×Int),p8 f n B k y=(eB f n B k (aY n y),fC f n B k (aY n y))::(rng (eB f n B k (aY n y)) (fC f n B k (aY n y))).flatMap H/\(k=0-> ∀c,H c=[])/\ ∀j,k=j+1-> ∀c,H c=p8 f n B j (c::y):=by
  cases k with
  |zero=>exact⟨fun _=>[],by show[_]=_;simp,fun _ _=>rfl,fun j e=>absurd e (by omega)⟩
  |succ j=>
   refine⟨_,rfl,fun e=>absurd e (by omega),fun j' e c=>?_⟩;grind
 obtain⟨H,hS,P,Q⟩:=hS;have hE:gE f n B (k+1) y=(rng (eB f n B k (aY n y)) (fC f n B k (aY n y))).flatMap fun c=>gE f n B k (c::y):=rfl
 have a8:k=0-> ∀c,gE f n B k (c::y)=[c::y]:=fun e c=>by subst e;rfl
 have ag: ∀j,k=j+1-> ∀c,gE f n B k (c::y)=gE f n B (j+1) (c::y):=fun j e c=>by subst e;rfl
 unfold Yg at*
 rw[hS]at hI⊢;rw[hE]at S⊢;clear hv hP hT hS hE;generalize T:(fun c=>gE f n B k (c::y))=h at*
 have ah: ∀c,h c=gE f n B k (c::y):=fun c=>by rw[<- T]
 clear T;generalize eB f n B k (aY n y)=t at*
 generalize fC f n B k (aY n y)=o at*
 generalize mat n n f=R at*
 have bb: -46911780290560<=t/\t<=46911780290560:=by omega
 have a9: -46911780290560<=o/\o<=46911780290560:=by omega
 have V:t<=o+1:=by omega
 clear a1 a3;have O:I[pre.length]?=some (t,o):=by
  grind
 have bd:pre.length<I.length:=(aao.1 O).1;have ad:I=(pre++[(t,o)])++(rng t o).flatMap H++post:=by grind
 have s:pre.length+((t,o)::(rng t o).flatMap H).length=I.length-post.length:=by
  grind
 rw[s];clear s hI;refine nt func95 rfl (by kernel_rfl) X3 (by simp) (by simp[selfTV,bs]) (by simp[selfTV]) (De 0 _ _ _ _ _ _ _) (De 0 _ _ _ _ _ _ _) (Wl 0 _ _ _ _ _ _ _ _ _ _) ?_;rw[ntmps95];refine dW.weak (aj (tm:=(.raw (.int .i64 (k:Int))::.one (.ptr 0 1 0 0)::.one (.ptr 0 2 0 0)::.one (.ptr 0 3 0 0)::.one (.ptr 0 0 0 0)::.one (.ptr 0 5 0 0)::.one (.ptr 0 6 0 0)::j16 (j16 (j4 (jk::jk::[]))))) (l:=[(0,IH 0 n (k+1) y I R r pre.length)]) ⟨rfl,trivial⟩ (by simp[wk,List.replicate])) ?_;refine de (aH O @fV.eq_1) (k:=?_);have e1:IntKind.i64.wrap ((pre.length:Int)+1)=((pre.length+1:Nat):Int):=aK (by omega) (by omega);refine de e1 (k:=?_);have J:=jq (k+1) y;have q:=nG k t y;have b:(gh (k+1)++lc fI y)[k]?=some [.junk]:=by
  grind [gh]
 refine de (aH b q) (k:=?_);clear J q b e1;generalize ac:gF (li n f) g ((rng t o).flatMap h)=GT at*
 refine fw (G:=CnG t o h H I post (li n f) GT 4000000) (fun v=>⟨(.raw (.int .i64 (k:Int))::.one (.ptr 0 1 0 0)::.one (.ptr 0 2 0 0)::.one (.ptr 0 3 0 0)::.one (.ptr 0 0 0 0)::.one (.ptr 0 5 0 0)::.one (.ptr 0 6 0 0)::jk::.one (.ptr 8 0 0 0)::j16 (j16 (j4 ([])))),Hm [(0,IH 0 n k (v.x::y) I R r v.pre.length),(8,[⟨133,2,[[.p (.raw (.int .i64 t)),.p (.raw (.int .i64 o))]]⟩])]⟩) (fun v=>v.g) (fun v=>(o+1-v.x).toNat) ⟨t,pre++[(t,o)],g,acA _,V,ad,ac,hb,S⟩ ?_ rfl ?_
 ·refine aj ⟨?_,rfl,trivial⟩ ?_
  ·simp only[aaV,aaP,abO];rfl
  simp[wk]
 rintro⟨x,E,A,Z,bh,M,z,C,w⟩;simp only;have bl: -46911780290560<=x/\x<=46911780290561:=by omega
 have J:(gh k++lc fI (x::y)).length=n:=by rw[jq,aaP];omega
 have b:=YP k x y;have D:k<n:=by omega
 by_cases Y:x<=o
 ·rw[gR Y,ac2]at M z w;rw[WG]at z;rw[aaV]at w;refine bA (vD b8 (by kernel_rfl) (by kernel_rfl) fun _ K=>?_);simp(disch:=omega) only[kd,aa,reduceCtorEq,D,b];apply K;refine fO rfl (dM ?_);refine bA (dz ?_);have q:=K6 k x (x+1) y;cases k with
  |zero=>
   obtain⟨cN,ae⟩:=hN rfl x Z Y;have al:h x=[x::y]:=by grind
   rw[al]at z w;rw[P rfl,ab1]at M;have av:(0<((0:Nat):Int))=False:=eq_false (by omega);have U:gh 0++lc fI (x::y)=lc fI (x::y):=rfl;have ap:gh 0++lc fI ((x+1)::y)=lc fI ((x+1)::y):=rfl;have a7:=C (li n f (x::y));have a2:=C.step (li n f (x::y));have a6:A.1+1<=4000000:=by
    grind
   have a4:List.take n (x::y)=x::y:=aaz (by grind);refine de av (k:=fq rfl ?_);simp only[ap]at q;simp only[U]at J b q;simp only[IH,U];have ab:gF (li n f) (qP A (li n f (x::y)) (A.2 (li n f (x::y))+1)) ((rng (x+1) o).flatMap h)=GT:=z;generalize li n f (x::y)=nv at*
   refine Kn b8 U8 4 43 nv (A.2 nv+1) [⟨3,_,_,_,cN⟩] [] (by kernel_rfl) (by kernel_rfl) rfl ae ⟨by omega,by omega⟩ (by grind [maxLen]) fun K u=>?_
   simp only[kd,cq,mY,aa,reduceCtorEq,a4];refine u _ ⟨rfl,?_⟩;clear u K;intro K u;simp(disch:=omega) only[kd,cq,mY,aa,abp,Nat.reduceSub,aK];refine u _ ⟨rfl,?_⟩;clear u K;show dW _ _ _ _ _ _ _;refine lB (aH D (aH b q)) (k:=?_);refine⟨⟨x+1,E,qP A nv (A.2 nv+1),by omega,by omega,M,ab,a2,by simp only[aaP,abO]at w;show A.1+1+_<=_;omega⟩,by simp only;omega,aj ⟨rfl,rfl,trivial⟩ ?_,rfl⟩;simp[wk]
  |succ j=>
   rw[Q j rfl x,aaM,aaM,<- aaM E]at M;rw[ah,ag j rfl]at z w;have e4:IntKind.i64.wrap (((j+1:Nat):Int)-1)=(j:Int):=by grind [aK]
   have a0:(0<((j+1:Nat):Int))=True:=eq_true (by omega);have cV:=X j rfl x E _ A Z Y M C (by omega);obtain⟨af,ba⟩:=Od (nm:=li n f) (gE f n B (j+1) (x::y)) C;have eW:E++p8 f n B j (x::y)=E++p8 f n B j (x::y):=rfl;generalize gF (li n f) A (gE f n B (j+1) (x::y))=N at*
   generalize(gE f n B (j+1) (x::y)).length=LL at*
   generalize p8 f n B j (x::y)=W at*
   clear eW;refine de a0 (k:=fO rfl (gC 3 cV 0 [] [] (by kernel_rfl) (by omega) (by decide) fun K u=>?_));simp only[kd,aa,reduceCtorEq,e4];refine u _ ⟨⟨rfl,?_⟩,?_⟩
   ·grind [II]
   clear u K;intro K u;simp(disch:=omega) only[kd,aa,Fd,cwD,X3,pB,mu,Nat.reduceBEq,reduceCtorEq,abe,gY];apply u;clear u K;show dW _ _ _ _ _ _ _;refine lB (aH D (aH b q)) (k:=?_);refine⟨⟨x+1,E++W,N,by omega,by omega,by grind,z,af,by omega⟩,by simp only;omega,aj ⟨?_,rfl,trivial⟩ ?_,rfl⟩
   ·simp only[aaV];rfl
   simp[wk]
 obtain rfl:x=o+1:=by omega
 rw[jd Y,acM,aa8]at M;rw[jd Y,acM]at z;have z:A=GT:=z;have s:I.length-post.length=E.length:=by grind
 rw[s];refine bA (vD b8 (by kernel_rfl) (by kernel_rfl) fun _ K=>?_);simp(disch:=omega) only[kd,aa,reduceCtorEq,D,b];apply K;refine fq rfl (ni ?_);show _/\_;refine⟨.inl rfl,z,_,(MX rfl).trans (aj (tm:=(jk::.one (.ptr 0 1 0 0)::.one (.ptr 0 2 0 0)::.one (.ptr 0 3 0 0)::.one (.ptr 0 0 0 0)::.one (.ptr 0 5 0 0)::.one (.ptr 0 6 0 0)::j16 (j16 (j4 (jk::jk::[]))))) (l:=[(0,IH 0 n (k+1) y I R r E.length)]) ⟨rfl,trivial⟩ (by simp[wk])),⟨fQ _,rfl⟩,by simp⟩
end
end
def U3 (G:FF) (p:Nat->Nat):Nat->Int
 |0=>1
 |k+1=>G k (p k)
def IS (G:FF) (p:Nat->Nat) (r:Nat->Int):Nat->Nat->Int
 |0=>r
 |k+1=>fun j=>(G k (p k)*IS G p r k j-IS G p r k (p k)*G k j)/U3 G p k
theorem U4 {X:FF} {p:Nat->Nat} {G:FF} {n s a:Nat} (b: ∀t,t<s->p t<n/\pvD X p (t+1)≠0) (c: ∀k,k<s-> ∀j,j<n->G k j=spM X p k k j): ∀k,k<=s-> ∀j,j<n->IS G p (X a) k j=spM X p k a j
 |0,_,j,_=>(Ez a j).symm
 |k+1,h,j,f=>by
  have g:=U4 b c k (by omega) (a:=a);have e:U3 G p k=pvD X p k:=by
   cases k with
   |zero=>rfl
   |succ k=>exact c k (by omega) _ (b k (by omega)).1
  rw[Xm fun t l=>(b t (by omega)).2,<- g j f,<- g (p k) (b k (by omega)).1,<- c k (by omega) j f,<- e];show(G k (p k)*_-_)/_=_;rw[c k (by omega) _ (b k (by omega)).1];rfl
abbrev pL (b:List Nat) (i:Nat):Nat:=b.getD i 0
structure SpOk (n:Nat) (L:List (List Int)) (ps:List Nat):Prop where
 len:ps.length=L.length
 row: ∀r∈L,r.length=n
 piv: ∀i,i<L.length->pL ps i<n/\xL L i (pL ps i)≠0
 sz: ∀i j,i<L.length->j<n->Sz (xL L i j) (3*2^i-1)
theorem SpOk.dv (h:SpOk n b c) {k:Nat} (g:k<=b.length):U3 (xL b) (pL c) k≠0/\Sz (U3 (xL b) (pL c) k) (3*2^k):=by
 cases k with
 |zero=>exact⟨by show(1:Int)≠0;omega,mL (by omega)⟩
 |succ k=>
  obtain⟨e,f⟩:=h.piv k (by omega);exact⟨f,(h.sz k _ (by omega) e).mono (by rw[abl];omega)⟩
theorem SpOk.el (h:SpOk n b c) {r:Nat->Int} (f: ∀j,j<n->Sz (r j) 2): ∀k,k<=b.length-> ∀j,j<n->Sz (IS (xL b) (pL c) r k j) (3*2^k-1)
 |0,_,j,e=>f j e
 |k+1,t,j,e=>by
  obtain⟨g,q⟩:=h.piv k (by omega);have s:=acX k;have l:=h.sz k _ (by omega) g;have m:=h.sz k j (by omega) e;have o:=h.el f k (by omega) j e;have p:=h.el f k (by omega) _ g;exact(((l.mul o).sub (p.mul m)).ediv _).mono (by rw[abl];omega)
abbrev Cq (a:Nat) (L:List (List Int)) (b:List Nat):List OObj:=[⟨108,2,[[.sl a 1 0 L.length,.sl a 2 0 L.length]]⟩,⟨85,1,lc (fR fZ) L⟩,⟨3,1,lc fN b⟩]
theorem T3 (a d:Nat) (L:List (List Int)) (b:List Nat):(Cq a L b).map (renO d)=Cq d L b:=by
 simp only[Cq,aaI,aaY,renO,cb,iC]
theorem Ey (a:Nat) (L:List (List Int)) (g:List Nat): ∀o∈Cq a L g,selfO a o:=fun o f e b x c=>by
 simp only[aaR,abj,or_false]at f;rcases f with rfl|rfl|rfl
 ·simp only[aaq]at b;subst b;simp only[aaR,abj,or_false]at c;rcases c with rfl|rfl<;>rfl
 ·exact cf (bo 85 1 _ e b x c)
 exact cf (bo 3 1 _ e b x c)
theorem Xl (a:Nat) (L e:List (List Int)) (f c:List Nat): ∀r∈[0],∀o,(Cq a L f)[r]?=some o-> ∃b,(Cq a e c)[r]?=some b/\b.es=o.es/\o.elems.length<=b.elems.length:=fun r g o h=>by
 grind
def uU (n:Nat) (L:List (List Int)) (b:List Nat) (x:List Int):List (List Int)×List Nat×Bool:=
 match pvC (IS (xL L) (pL b) (fun j=>x.getD j 0) L.length) n 0 with
 |none=>(L,b,false)
 |some j=>(L++[aN n (IS (xL L) (pL b) (fun j=>x.getD j 0) L.length)],b++[j],true)
abbrev Z2 (n:Nat) (L:List (List Int)) (b:List Nat) (x:List Int):Prop:=
 ku prog YY [0] 63 [.one (.ptr 0 0 0 0),mY x] (Cq 0 L b) (Cq 0 (uU n L b x).1 (uU n L b x).2.1) () () (.raw (.bool (uU n L b x).2.2))
theorem Ii {i:Nat} (h:i<b.length):xL (b++[e]) i n=xL b i n:=by
 unfold xL;rw[(lI b e []).1 h]
theorem Cm:xL (b++[e]) b.length n=e.getD n 0:=by
 unfold xL;rw[(lI b e [] (a:=0)).2]
theorem sV {i:Nat} (h:i<c.length):pL (c++[n]) i=pL c i:=(lI c n 0).1 h
theorem Jr:pL (c++[n]) c.length=n:=(lI c n 0 (a:=0)).2
theorem SpOk.add (h:SpOk n b c) (p: ∀j,j<n->Sz (e.getD j 0) 2):SpOk n (uU n b c e).1 (uU n b c e).2.1:=by
 unfold uU;cases s:pvC (IS (xL b) (pL c) (fun j=>e.getD j 0) b.length) n 0 with
 |none=>exact h
 |some q=>
  obtain⟨v,w,u⟩:=rc _ _ _ s;have t:=h.el p b.length (aar _);generalize IS (xL b) (pL c) (fun j=>e.getD j 0) b.length=E at*
  have g:=h.len;refine⟨by simp[g],fun r p=>?_,fun i m=>?_,fun i j m o=>?_⟩
  ·rcases abf.1 p with l|l
   ·exact h.row r l
   rw[aaq.1 l,aI]
  ·simp only[aaV,ack]at m;by_cases f:i=b.length
   ·subst f;rw[show pL (c++[q]) b.length=q by rw[<- g];exact Jr,Cm,s8 _ (by omega)];exact⟨by omega,u⟩
   rw[sV (by omega),Ii (by omega)];exact h.piv i (by omega)
  simp only[aaV,ack]at m;by_cases f:i=b.length
  ·subst f;rw[Cm,s8 _ o];exact t j o
  rw[Ii (by omega)];exact h.sz i j (by omega) o
structure ZD (s:Nat) where
 i:Nat
 hi:i<=s
theorem Ei {n i:Nat} (g h:Nat->Int):(aN n fun b=>if b<i then g b else h b).set i (g i)=aN n fun b=>if b<i+1 then g b else h b:=by
 rw[kj];exact dm fun b _=>by
  by_cases e:b=i
  ·subst e;simp
  have:b<i+1↔b<i:=by omega
  simp[e,this]
section
theorem Yy (a0:1<=n) (hn:n<=16) (hl:b.length<=16) (h:SpOk n b c) (hx:e.length=n) (I: ∀g∈e,I64 g):Z2 n b c e:=by
 have T: ∀j,j<n->e[j]?=some (e.getD j 0)/\I64 (e.getD j 0):=fun j o=>by
  have h1:e[j]?=some (e.getD j 0):=by rw[aaw,aay (by omega)];rfl
  exact⟨h1,I _ (aai h1)⟩
 have C:=h.el (r:=fun j=>e.getD j 0) fun j o=>by
  have:=(T j o).2;show _<_;unfold I64 at this;omega
 have N:=fun k u=>h.dv (k:=k) u
 have w:=fun k (u:k<=b.length)=>jR (k:=k) (by omega)
 unfold Z2 uU;have P: ∀k j,(xL b k (pL c k)*IS (xL b) (pL c) (fun j=>e.getD j 0) k j-IS (xL b) (pL c) (fun j=>e.getD j 0) k (pL c k)*xL b k j)/U3 (xL b) (pL c) k=IS (xL b) (pL c) (fun j=>e.getD j 0) (k+1) j:=fun _ _=>rfl
 have O:IS (xL b) (pL c) (fun j=>e.getD j 0) 0=fun j=>e.getD j 0:=rfl
 have M: ∀k,xL b k (pL c k)=U3 (xL b) (pL c) (k+1):=fun _=>rfl
 have J:U3 (xL b) (pL c) 0=1:=rfl;have H:=nC 1 (by omega) (by omega);have ap:=h.len;generalize IS (xL b) (pL c) (fun j=>e.getD j 0)=E at*
 generalize U3 (xL b) (pL c)=D at*
 obtain⟨R,hR⟩: ∃R,R=pvC (E b.length) n 0:=⟨_,rfl⟩;rw[<- hR];refine nt func63 rfl (by kernel_rfl) [(0,0)] (by simp) (by simp[selfTV,bs]) (by cases R<;>simp[selfTV,bs]) (Ey 0 _ _) (Ey 0 _ _) (Xl 0 _ _ _ _) ?_;rw[ntmps63];refine dW.weak (aj (tm:=(.one (.ptr 0 0 0 0)::mY e::j16 (j16 (j16 (j16 (j16 (j16 (j16 (j4 (j4 (j4 ([])))))))))))) (l:=[(0,Cq 0 b c)]) ⟨rfl,trivial⟩ (by simp[wk,List.replicate])) ?_;refine dE (k:=de hx (k:=bA (de hx (k:=?_))));refine fw (G:=ZD n) (fun q=>⟨(.one (.ptr 0 0 0 0)::j4 (.one (.sl 19 0 0 n)::j4 (j4 (j4 (jk::jk::mY e::rN n::rN q.i::j16 (j16 (j16 (j16 (j16 (j16 (j4 (jk::jk::jk::[])))))))))))),Hm [(0,Cq 0 b c),(19,[⟨65,2,lc fZ (aN n fun f=>if f<q.i then e.getD f 0 else 0)⟩])]⟩) (fun _=>()) (fun q=>n-q.i) ⟨0,by omega⟩ ?_ rfl ?_
 ·refine(gn 19).trans (aj ⟨rfl,?_,trivial⟩ ?_)
  ·show[_]=[_];rw[show(aN n fun f=>if f<0 then e.getD f 0 else 0)=List.replicate n 0 from aaC fun j=>by grind [aw,aI]];simp[zO,lc,fZ,Fa,Fi,cj,ls]
  simp[wk]
 rintro⟨i,hi⟩;simp only;by_cases F:i<n
 ·obtain⟨al,S⟩:=T i F;have X:=nC _ S.1 S.2;have B:=Ei (n:=n) (i:=i) (fun f=>e.getD f 0) (fun _=>0);have s:(aN n fun f=>if f<i then e.getD f 0 else 0)[i]?=some 0:=by rw[aw _ F,if_neg (by omega)]
  have Y:IntKind.i64.wrap ((i:Int)+1)=((i+1:Nat):Int):=by rw[aK (by omega) (by omega)];omega
  refine dE (k:=nk rfl (bA (dz (de al (k:=Nm [⟨3,_,_,_,X⟩] (aH s (aH @uG B)) (k:=lB Y (k:=?_)))))));refine⟨⟨i+1,by omega⟩,by simp only;omega,aj ⟨rfl,rfl,trivial⟩ ?_,trivial⟩;simp[wk]
 have ae:i=n:=by omega
 subst ae;rw[show(aN i fun f=>if f<i then e.getD f 0 else 0)=aN i (E 0)from dm fun f I=>by rw[if_pos I,O]];refine dE (k:=pa rfl (CY [⟨0,_,_,_,H⟩] (k:=bA (dE (k:=?_)))));refine fw (G:=ZD b.length) (fun q=>⟨(.one (.ptr 0 0 0 0)::j4 (.one (.sl 19 0 0 i)::jk::jk::.one (.ptr 8 0 0 0)::j16 (j4 (j4 (j4 (.one (.sl 0 1 0 b.length)::rN b.length::rN q.i::j16 (j16 (j16 (j16 (j16 (j4 (jk::jk::[])))))))))))),Hm [(0,Cq 0 b c),(8,qt (D q.i)),(19,[⟨65,2,lc fZ (aN i (E q.i))⟩])]⟩) (fun _=>()) (fun q=>b.length-q.i) ⟨0,by omega⟩ ?_ rfl ?_
 ·rw[J];refine aj ⟨rfl,rfl,rfl,trivial⟩ ?_;simp[wk]
 rintro⟨k,u⟩;simp only;by_cases F:k<b.length
 ·obtain⟨r,hr⟩:=getElem?_of_lt F;have a3:=h.row r (aai hr);have Q: ∀j,j<i->r[j]?=some (xL b k j):=fun j o=>by
   have:xL b k j=r.getD j 0:=by unfold xL;rw[aaw (l:=b),hr];rfl
   rw[this,aaw,aay (by omega)];rfl
  obtain⟨W,p2⟩:=h.piv k F;have hq:c[k]?=some (pL c k):=by
   unfold pL;rw[aaw,aay (by omega)];rfl
  have ah:=Q _ W;have ad:=aw (E k) W;have h3:=w k u;have U:=C k u;have gz:=fun j o=>h.sz k j F o
  obtain⟨d1,d2⟩:=N k u;have ac:=P k;have ab:=M k;have Y:IntKind.i64.wrap ((k:Int)+1)=((k+1:Nat):Int):=by rw[aK (by omega) (by omega)];omega
  generalize pL c k=q at*
  generalize av:3*2^k=bb at*
  refine dE (k:=nk rfl (bA (dz (de hr (k:=?_)))));refine bA (yK [(0,0,65),(55,0,65),(56,0,65),(57,0,65),(58,0,65),(9,0,65),(59,0,65),(60,0,65),(61,0,65),(5,19,65),(54,19,65),(62,19,65),(11,11,65)] b8 [] [] (by kernel_rfl) (JQ (t:=65) (n:=2) (by simp only[x9,yb,lZ,rV,JZ,Q4,JX,ud,J2,EN,ya,J3,EO,ue,J1,EM,x8,Q6,JY,n7,rS,Ar,J0,E6,QR]) (by decide) rfl) (BV rfl) (by kernel_rfl) fun _ K=>?_);simp(disch:=omega) only[kd,aa,reduceCtorEq,hq,ah,fZ,Nat.reduceEqDiff,ad];apply K;refine bA (dE (k:=?_));refine fw (G:=ZD i) (fun v=>⟨(.one (.ptr 0 0 0 0)::j4 (.one (.sl 19 0 0 i)::jk::jk::.one (.ptr 8 0 0 0)::jk::.one (.p (.sl (ls fZ r)))::.one (.ptr 11 0 0 0)::.one (.ptr 12 0 0 0)::j16 (j4 (j4 (.one (.sl 0 1 0 b.length)::rN b.length::rN k::j16 (j4 (j4 (jk::rN i::rN v.i::j16 (j16 (j16 (j4 (j4 (jk::jk::jk::[]))))))))))))),Hm [(0,Cq 0 b c),(8,qt (D k)),(11,qt (xL b k q)),(12,qt (E k q)),(19,[⟨65,2,lc fZ (aN i fun f=>if f<v.i then E (k+1) f else E k f)⟩])]⟩) (fun _=>()) (fun v=>i-v.i) ⟨0,by omega⟩ ?_ rfl ?_
  ·refine aj ⟨rfl,rfl,rfl,rfl,rfl,trivial⟩ ?_;simp[wk]
  rintro⟨j,af⟩;simp only;by_cases o:j<i
  ·have s:(aN i fun f=>if f<j then E (k+1) f else E k f)[j]?=some (E k j):=by rw[aw _ o,if_neg (by omega)]
   have a2:=Q j o;have B:=Ei (n:=i) (i:=j) (E (k+1)) (E k);have z1:=gz q W;have z2:=U j o;have z3:=U q W;have z4:=gz j o;have X:=A7 (xL b k q) (E k j) (z1.mono (by omega)) (z2.mono (by omega));have c2:=A7 (E k q) (xL b k j) (z3.mono (by omega)) (z4.mono (by omega));have c3:=Om (xL b k q*E k j) (E k q*xL b k j) ((z1.mul z2).mono (by omega)) ((z3.mul z4).mono (by omega));have c4:=zq (xL b k q*E k j-E k q*xL b k j) (D k) d1 (((z1.mul z2).sub (z3.mul z4)).mono (by omega)) (d2.mono (by omega));rw[ac j]at c4;have Z:IntKind.i64.wrap ((j:Int)+1)=((j+1:Nat):Int):=by rw[aK (by omega) (by omega)];omega
   refine dE (k:=nk rfl (bA (dz (dE (k:=?_)))));refine yN b8 [⟨5,_,_,_,X⟩,⟨11,_,_,_,c2⟩,⟨12,_,_,_,c3⟩] [] (by kernel_rfl) (by kernel_rfl) fun _ K=>?_;simp(disch:=omega) only[kd,tZ,aa,reduceCtorEq,Nat.reduceEqDiff,fZ,s,a2,Nat.reduceBEq];apply K
   refine Nm [⟨4,_,_,_,c4⟩] (aH s (aH @uG B)) (k:=lB Z (k:=?_));refine⟨⟨j+1,by omega⟩,by simp only;omega,aj ⟨rfl,rfl,rfl,rfl,rfl,trivial⟩ ?_,trivial⟩;simp[wk]
  have A:j=i:=by omega
  subst A;rw[show(aN j fun f=>if f<j then E (k+1) f else E k f)=aN j (E (k+1))from dm fun f I=>by rw[if_pos I]];refine dE (k:=pa rfl (sn (k:=lB Y (k:=?_))));refine⟨⟨k+1,by omega⟩,by simp only;omega,aj ⟨rfl,?_,rfl,trivial⟩ ?_,trivial⟩
  ·rw[<- ab];rfl
  simp[wk]
 have ag:k=b.length:=by omega
 subst ag;refine dE (k:=pa rfl (bA (dE (k:=?_))));have U:=C b.length u;have h3:=w b.length u;generalize E b.length=m at*
 clear C N w P M J O H;refine fw (G:=Z0 i 0 m R) (fun v=>⟨(.one (.ptr 0 0 0 0)::j4 (.one (.sl 19 0 0 i)::j16 (j16 (j16 (j16 (j16 (j4 (j4 (jk::.one (.sl 19 0 0 i)::rN i::rN v.j::j16 (j4 (j4 (j4 ([]))))))))))))),Hm [(0,Cq 0 b c),(19,[⟨65,2,lc fZ (aN i m)⟩])]⟩) (fun _=>()) (fun v=>i-v.j) ⟨0,by omega,by omega,hR.symm⟩ ?_ rfl ?_
 ·refine aj ⟨rfl,rfl,trivial⟩ ?_;simp[wk]
 rintro⟨j,_,af,z⟩;simp only;by_cases o:j<i
 ·have s:=aw m o;have Z:IntKind.i64.wrap ((j:Int)+1)=((j+1:Nat):Int):=by rw[aK (by omega) (by omega)];omega
  have y:=I1 (m j) ((U j o).mono (by omega));rw[show i-j=i-(j+1)+1 by omega,pvC]at z;by_cases V:m j=0
  ·rw[if_pos V]at z;rw[V]at y s;refine dE (k:=nk rfl (bA (dz (de s (k:=VW [⟨1,_,_,_,y⟩] @rz (k:=fq rfl (dM (lB Z (k:=?_)))))))));refine⟨⟨j+1,by omega,by omega,z⟩,by simp only;omega,aj ⟨rfl,rfl,trivial⟩ ?_,trivial⟩;simp[wk]
  rw[if_neg V]at z;subst z;have a4:=Es V;refine dE (k:=nk rfl (bA (dz (de s (k:=CY [⟨1,_,_,_,y⟩] (k:=fO rfl ?_))))));refine dW.weak ((bD 19 (bO rfl)).trans (aj (tm:=(.one (.ptr 0 0 0 0)::j4 (.one (.p (.sl (ls fZ (aN i m))))::j4 (j4 (jk::rN j::j16 (j16 (j16 (j16 (j16 (j16 (j4 (j4 (j4 (jk::jk::[])))))))))))))) (l:=[(0,Cq 0 b c)]) ⟨rfl,trivial⟩ (by simp[wk,ew,dF,ax,Hm,eY,eG,aaz,aI]))) ?_;refine de @DI (k:=de @lO (k:=dE (k:=?_)));refine jB ⟨.inr rfl,trivial,_,aj (tm:=(.one (.ptr 0 0 0 0)::jk::jk::jk::.raw (.bool true)::j16 (j16 (j16 (j16 (j16 (j16 (j16 (j4 (j4 (jk::[]))))))))))) (l:=[(0,Cq 0 (b++[aN i m]) (c++[j]))]) ⟨?_,trivial⟩ (by simp[wk]),⟨fQ _,?_⟩,by simp⟩
  ·simp only[aM,Cq,aaV,aaP,abO,aa6]
  simp(disch:=omega) only[kd,results63]
 have A:j=i:=by omega
 subst A;rw[abC,pvC]at z;subst z;refine dE (k:=pa rfl (dE (k:=?_)));refine jB ⟨.inr rfl,trivial,_,aj (tm:=(.one (.ptr 0 0 0 0)::jk::jk::jk::.raw (.bool false)::j16 (j16 (j16 (j16 (j16 (j16 (j16 (j4 (j4 (jk::[]))))))))))) (l:=[(0,Cq 0 b c)]) ⟨rfl,trivial⟩ (by simp[wk]),⟨fQ _,?_⟩,by simp⟩;simp(disch:=omega) only[kd,results63]
end
section
section
variable {n:Nat} {X Y:FF} {L:List (List Int)} {ps:List Nat}
structure SpX (n:Nat) (X:FF) (L:List (List Int)) (ps:List Nat):Prop where
 len:ps.length=L.length
 piv: ∀t,t<L.length->pL ps t<n/\pvD X (pL ps) (t+1)≠0
 eq: ∀k,k<L.length-> ∀j,j<n->xL L k j=spM X (pL ps) k k j
theorem Jo {q:Nat->Nat} {k:Nat} (b: ∀a,a<k->X a=Y a) (c: ∀t,t<k->f t=q t):om X k=om Y k/\(lg k).map f=(lg k).map q:=
 ⟨wX b,aaN fun t e=>c t (jp e)⟩
theorem rE {q:Nat->Nat} {k a:Nat} (g:X a=Y a) (e: ∀a,a<k->X a=Y a) (h: ∀t,t<k->f t=q t):spM X f k a n=spM Y q k a n:=by
 obtain⟨b,c⟩:=Jo e h;unfold spM;rw[g,b,c]
theorem Eb {q:Nat->Nat} {k:Nat} (e: ∀a,a<k->X a=Y a) (g: ∀t,t<k->f t=q t):pvD X f k=pvD Y q k:=by
 obtain⟨b,c⟩:=Jo e g;unfold pvD;rw[b,c]
theorem SpX.congr (h:SpX n X L ps) (e: ∀a,a<L.length->X a=Y a):SpX n Y L ps:=
 ⟨h.len,fun t g=>by
  rw[<- Eb (fun a c=>e a (by omega)) fun _ _=>rfl];exact h.piv t g,fun k b j f=>by
  rw[<- rE (e k b) (fun a c=>e a (by omega)) fun _ _=>rfl];exact h.eq k b j f⟩
theorem SpX.nil:SpX n X [] []:=⟨rfl,fun t c=>absurd c (by simp),fun k b=>absurd b (by simp)⟩
theorem SpX.ind (h:SpX n X L ps):uf n L.length X:=Qj _ fun t b=>⟨(h.piv t b).2,(h.piv t b).1⟩
theorem SpX.add (h:SpX n X L ps) (f:X L.length=fun j=>e.getD j 0):
  ((uU n L ps e).2.2=false->(uU n L ps e).1=L/\(uU n L ps e).2.1=ps/\ ∃(q:Int) (c:Nat->Int),q≠0/\ ∀i,i<n->q*X L.length i=smF (fun b=>c b*X b i) L.length)/\
  ((uU n L ps e).2.2=true->SpX n X (uU n L ps e).1 (uU n L ps e).2.1/\(uU n L ps e).1.length=L.length+1):=by
 have o:=U4 (fun t g=>h.piv t g) h.eq L.length (aar _) (a:=L.length);have l:=h.len;unfold uU;rw[<- f];generalize IS (xL L) (pL ps) (X L.length) L.length=E at*
 cases p:pvC E n 0 with
 |none=>
  refine⟨fun _=>⟨rfl,rfl,T4 (fun t g=>(h.piv t g).2) fun j m=>?_⟩,fun f=>by cases f⟩;rw[<- o j m];exact xo _ _ p j (by omega) (by omega)
 |some q=>
  obtain⟨_,y,w⟩:=rc _ _ _ p;refine⟨fun f=>(by cases f),fun _=>⟨⟨by simp[l],fun t g=>?_,fun k u j m=>?_⟩,by simp⟩⟩
  ·simp only[aaV,ack]at g;by_cases s:t=L.length
   ·subst s;have v:pL (ps++[q]) L.length=q:=by rw[<- l];exact Jr
    refine⟨by show pL (ps++[q]) L.length<n;omega,?_⟩;show spM X _ L.length L.length (pL (ps++[q]) L.length)≠0;rw[v,rE (q:=pL ps) rfl (fun _ _=>rfl) fun t g=>sV (by omega),<- o q (by omega)];exact w
   rw[sV (by omega),Eb (q:=pL ps) (fun _ _=>rfl) fun t g=>sV (by omega)];exact h.piv t (by omega)
  simp only[aaV,ack]at u;by_cases r:k=L.length
  ·subst r;rw[Cm,s8 _ m,o j m];exact rE rfl (fun _ _=>rfl) fun t g=>(sV (by omega)).symm
  rw[Ii (by omega),h.eq k (by omega) j m];exact rE rfl (fun _ _=>rfl) fun t g=>(sV (by omega)).symm
theorem wD {m:Nat} (b:uf n m X):m<=n:=aap (PY (nR n _) b) (Xc n _)
theorem K0 (e:uf n n X): ∃(q:Int) (c:Nat->Int),q≠0/\ ∀i,i<n->q*X n i=smF (fun b=>c b*X b i) n:=
 Oo e fun h=>by have:=wD h;omega
theorem WJ {f:List (Int×List Int)} {x:Int×List Int} (j:uf n f.length (vL (f++[x]))):f.length<rkF n (oZ (f.length+1) (vL (f++[x])))↔uf n (f.length+1) (vL (f++[x])):=by
 refine⟨fun h=>adp fun g=>?_,fun h=>PY (nR n _) h⟩;obtain⟨q,c,o,l⟩:=Oo j g;have:=Jz (s:=f.length) (nR n _) (Y:=vL (f++[x])) (m:=f.length+1) (X:=vL (f++[x])) (fun a p=>by
  by_cases e:a=f.length
  ·rw[e];exact⟨q,c,o,l⟩
  exact⟨1,fun b=>if b=a then 1 else 0,by decide,fun i _=>ze (by omega) fun b=>vL (f++[x]) b i⟩)
 omega
theorem Oj {m:Nat} {q:Int} {c:Nat->Int} (g:q≠0) (e: ∀i,i<n->q*X m i=smF (fun b=>c b*X b i) m): ¬uf n (m+1) X:=fun h=>by
 have:=h (fun b=>if b=m then q else-c b) (fun i f=>by
  rw[smF,if_pos rfl,e i f,aF m (G:=fun b=> -1*(c b*X b i)) fun b j=>by rw[if_neg (by omega)];grind,bX];omega) m (by omega)
 simp only[if_pos]at this;exact g this
structure SpCh (n:Nat) (ch:List (Int×List Int)) (L:List (List Int)) (ps:List Nat):Prop where
 x:SpX n (vL ch) L ps
 ok:SpOk n L ps
 l:ch.length=L.length
theorem SpCh.nil:SpCh n [] [] []:=⟨SpX.nil,⟨rfl,by simp,fun i b=>absurd b (by simp),fun i j b=>absurd b (by simp)⟩,rfl⟩
theorem SpCh.add {f:List (Int×List Int)} (h:SpCh n f L ps) (x:Int×List Int) (v: ∀j,j<n->Sz (x.2.getD j 0) 2) (r:List (Int×List Int)):
  (L.length<n/\(uU n L ps x.2).2.2=true->SpCh n (f++[x]) (uU n L ps x.2).1 (uU n L ps x.2).2.1/\Rw n (x::r) f=Rw n r (f++[x]))/\
  (¬(L.length<n/\(uU n L ps x.2).2.2=true)->Rw n (x::r) f=Rw n r f/\ ∃(q:Int) (c:Nat->Int),q≠0/\ ∀i,i<n->q*x.2.getD i 0=smF (fun b=>c b*vL f b i) f.length)/\
  (L.length<n->(uU n L ps x.2).2.2=false->(uU n L ps x.2).1=L/\(uU n L ps x.2).2.1=ps):=by
 have A:=h.x.congr (Y:=vL (f++[x])) fun a F=>(Ig f x (by have:=h.l;omega)).symm
 have m:=A.ind;rw[<- h.l]at m;have o:=WJ m;have e:vL (f++[x]) L.length=fun j=>x.2.getD j 0:=by rw[<- h.l];exact Ci f x
 obtain⟨s,C⟩:=A.add e;have B: ∀(E: ∃(q:Int) (c:Nat->Int),q≠0/\ ∀i,i<n->q*vL (f++[x]) L.length i=smF (fun b=>c b*vL (f++[x]) b i) L.length),Rw n (x::r) f=Rw n r f/\ ∃(q:Int) (c:Nat->Int),q≠0/\ ∀i,i<n->q*x.2.getD i 0=smF (fun b=>c b*vL f b i) f.length:=fun⟨q,c,hq,w⟩=>by
  rw[<- h.l]at w;refine⟨?_,q,c,hq,fun i D=>?_⟩
  ·rw[Rw,if_neg fun h=>Oj hq w (o.1 h)]
  have:=w i D;rw[Ci]at this;rw[this];exact aF _ fun b v=>by rw[Ig f x v]
 refine⟨fun⟨t,g⟩=>?_,fun t=>?_,fun t g=>⟨(s g).1,(s g).2.1⟩⟩
 ·obtain⟨u,p⟩:=C g;refine⟨⟨u,h.ok.add v,by rw[p,aaV,h.l];rfl⟩,?_⟩;have z:=u.ind;rw[p,<- h.l]at z;rw[Rw,if_pos (o.2 z)]
 by_cases g:L.length<n
 ·exact B (s (by simpa[g] using t)).2.2
 have u:=wD m;have p:f.length=n:=by have:=h.l;omega
 have y:L.length=n:=by have:=h.l;omega
 rw[p]at m;have:=K0 m;refine B ?_;rw[y];exact this
end
end
end Go.Proofs.YtalmoejhjceflaaGreat
