/-
  Part 48 of a proof (walks and plain facts).
-/
import Derived.Test.YtalmoejhjceflaaGreatQ46
set_option linter.all false
set_option maxRecDepth 100000
set_option maxHeartbeats 64000000
open Nat renaming reduceAdd → aa
open List renaming replicate → ae
namespace Go.Proofs.YtalmoejhjceflaaGreat
open Go.RowKit Go.Proofs.Tryz
variable {b:List Int} {n:Nat} {x:Int} {s:AS} {c:yH}
section
theorem Yx:yF prog 79 2 2:=⟨by kernel_rfl,by kernel_rfl,by kernel_rfl,fun w=>by kernel_rfl⟩
def gF (nm:List Int->Int) (g:MapS) (l:List (List Int)):MapS:=l.foldl (fun g z=>qk g (nm z) (g.2 (nm z)+1)) g
theorem ZX (nm:List Int->Int) (g:MapS) (l m:List (List Int)):gF nm g (l++m)=gF nm (gF nm g l) m:=List.foldl_append
def GB (g:MapS):Prop:= ∀j,0<=g.2 j/\g.2 j<=(g.1:Int)
theorem GB.step {g:MapS} (h:GB g) (k:Int):GB (qk g k (g.2 k+1)):=fun j=>by
 have:=h j;have:=h k;show 0<=(if j=k then g.2 k+1 else g.2 j)/\(if j=k then g.2 k+1 else g.2 j)<=((g.1+1:Nat):Int);omega
theorem RI {nm:List Int->Int}: ∀(l:List (List Int)) {g:MapS},GB g->GB (gF nm g l)/\(gF nm g l).1=g.1+l.length
 |[],g,h=>⟨h,rfl⟩
 |z::l,g,h=>by
  obtain⟨b,c⟩:=RI (nm:=nm) l (h.step (nm z));refine⟨b,c.trans ?_⟩;show g.1+1+l.length=_;grind
abbrev LS (a n m:Nat) (y:List Int) (I:List (Int×Int)) (R:List (List Int)) (r nx:Nat):List OObj:=[⟨131,1,[[.fn 95 a [(1,0,0),(2,0,0),(3,0,0),(0,0,0),(5,0,0),(6,0,0)]]]⟩,⟨76,1,[[.p (.sl (ls fV I))]]⟩,⟨3,1,[[.p (.raw (.int .i64 (nx:Int)))]]⟩,⟨35,1,[[.sl a 4 0 n]]⟩,⟨2,1,iE m++lc fI y⟩,⟨79,1,[[.p (.raw (.map (some r)))]]⟩,⟨26,1,[[.p (.sl (ls (fR fI) R))]]⟩]
theorem LT (a d n m:Nat) (y:List Int) (I:List (Int×Int)) (R:List (List Int)) (r nx:Nat):(LS a n m y I R r nx).map (renO d)=LS d n m y I R r nx:=by
 simp only[LS,acA,acT,renO,b6,gT,ac1,jp,afW,ada,if_false]
theorem F8 (a n m:Nat) (y:List Int) (I:List (Int×Int)) (R:List (List Int)) (r nx:Nat): ∀o∈LS a n m y I R r nx,selfO a o:=fun o f e b x c=>by
 simp only[acR,ado,or_false]at f;rcases f with rfl|rfl|rfl|rfl|rfl|rfl|rfl
 ·simp only[aco]at b;subst b;simp only[aco]at c;subst c;exact⟨rfl,by simp⟩
 ·simp only[aco]at b;subst b;simp only[aco]at c;subst c;trivial
 ·simp only[aco]at b;subst b;simp only[aco]at c;subst c;trivial
 ·simp only[aco]at b;subst b;simp only[aco]at c;subst c;rfl
 ·simp only[adh]at b;rcases b with b|b
  ·obtain⟨_,rfl⟩:=aev.1 b;simp only[aco]at c;subst c;trivial
  exact df (bL 2 1 _ e b x c)
 ·simp only[aco]at b;subst b;simp only[aco]at c;subst c;trivial
 simp only[aco]at b;subst b;simp only[aco]at c;subst c;trivial
abbrev cnP:List (Nat×Nat):=[(1,1),(2,2),(3,3),(0,4),(5,5),(6,6)]
theorem ZC (a n m f:Nat) (y g:List Int) (I:List (Int×Int)) (R:List (List Int)) (r nx b:Nat): ∀q∈cnP.map Prod.fst,∀o,(LS a n m y I R r nx)[q]?=some o-> ∃c,(LS a n f g I R r b)[q]?=some c/\c.es=o.es/\o.elems.length<=c.elems.length:=fun q e o h=>by
 simp only[cnP,acA,acT,acR,ado,or_false]at e;rcases e with rfl|rfl|rfl|rfl|rfl|rfl<;>(grind)
abbrev cnA (k:Nat):List TV:=[.raw (.int .i64 (k:Int)),.one (.ptr 0 1 0 0),.one (.ptr 0 2 0 0),.one (.ptr 0 3 0 0),.one (.ptr 0 0 0 0),.one (.ptr 0 5 0 0),.one (.ptr 0 6 0 0)]
abbrev fA (n:Nat) (f:FF) (z:List Int):Int:=P2 f z n n
abbrev CnC (n:Nat) (f:FF) (B:Int) (r:Nat) (I:List (Int×Int)) (k:Nat) (y:List Int) (nx:Nat) (g:MapS):Prop:=
 mY prog (oO prog 2 2 r) (cnP.map Prod.fst) 95 (cnA k) (LS 0 n (k+1) y I (mat n n f) r nx) (LS 0 n (k+1) y I (mat n n f) r (nx+(td f n B k y).length)) g (gF (fA n f) g (dO f n B (k+1) y)) (.tup [])
theorem Qj {m:Nat} {I:List (Int×Int)} {R:List (List Int)} {r nx:Nat} (e:s.H 0=LS 0 n m (x::b) I R r nx):bJ s ⟨s.tmps,aF s.H 0 (LS 0 n (m+1) b I R r nx)⟩:=by
 have h:=n4 (s:=s) 0 4 (o:=⟨2,1,iE m++lc fI (x::b)⟩) (o':=⟨2,1,iE (m+1)++lc fI b⟩) (by rw[e];rfl) rfl rfl (by simp only[kS,acC];omega) fun i f g=>by
  rw[<- p9 m x b];grind [iE]
 grind
theorem NC {P:Program} {j:Type} {L:jd j} {f:List Nat} {g:j} {Q:Exit->AS->j->Prop} (e:P.follows .mixedOrders=true) (b:List (aq P)) (l:List Nat) {id:Nat} {y:Code} {c:Array Oper} (n:bZ [] c=true) (o:dK f c=true) (h: ∀K:AS->Prop,(∀m,fw P L f y Q m g->K m)->aY P (b.map aq.a) l (aK c c.toList 0) (some s) K):fw P L f (.seq (.region id c true) y) Q s g:=bX (NA e b l n o h)
theorem yT {P:Program} {f:Type} {L:jd f} {e:List Nat} {g:f} {Q:Exit->AS->f->Prop} (c:P.follows .mixedOrders=true) {id:Nat} {y:Code} {b:Array Oper} (l:bZ [] b=true) (m:dK e b=true) (h: ∀K:AS->Prop,(∀j,fw P L e y Q j g->K j)->aY P [] [] (aK b b.toList 0) (some s) K):fw P L e (.seq (.region id b true) y) Q s g:=NC c [] [] l m h
structure CnG (lo hi:Int) (h:Int->List (List Int)) (em:Int->List (Int×Int)) (I post:List (Int×Int)) (nm:List Int->Int) (G:MapS) (tot:Nat) where
 x:Int
 pre:List (Int×Int)
 g:MapS
 h1:lo<=x
 h2:x<=hi+1
 eI:I=pre++(rng x hi).flatMap em++post
 eg:gF nm g ((rng x hi).flatMap h)=G
 hb:GB g
 hl:g.1+((rng x hi).flatMap h).length<=tot
theorem abv (m:Nat) (x:Int) (y:List Int):(iE m++lc fI (x::y))[m]?=some [.p (.raw (.int .i64 x))]:=by
 grind [iE,lc,fI]
theorem Oi (m:Nat) (x z:Int) (y:List Int):(iE m++lc fI (x::y)).set m [.p (.raw (.int .i64 z))]=iE m++lc fI (z::y):=by
 simp_all[iE,lc,fI]
section
variable {n:Nat} {f:FF} {B:Int}
theorem Yn (hv:pJ n f B) (r k:Nat) (y:List Int) (I pre post:List (Int×Int)) (g:MapS) (hk:y.length+(k+1)=n) (hT:rQ y) (hP:fj f n B (k+1) (aJ n y)) (hI:I=pre++td f n B k y++post) (a5:I.length<=4000000) (hb:GB g) (S:g.1+(dO f n B (k+1) y).length<=4000000)
  (hN:k=0-> ∀c,b9 f n B k (aJ n y)<=c->c<=cq f n B k (aJ n y)->CallC prog 40 [cw (mat n n f),eF (c::y)] ⟨[],.raw (.int .i64 (fA n f (c::y)))⟩/\I64 (fA n f (c::y)))
  (X: ∀j,k=j+1-> ∀c F L N,b9 f n B k (aJ n y)<=c->c<=cq f n B k (aJ n y)->I=F++td f n B j (c::y)++L->GB N->N.1+(dO f n B (j+1) (c::y)).length<=4000000->CnC n f B r I j (c::y) F.length N):CnC n f B r I k y pre.length g:=by
 have bc:=hv.n8;have a1:=hv.lohi hk hT hP;have a3:=Xw (m:=y.length+1) (by omega);have hS: ∃H:Int->List (Int×Int),td f n B k y=(b9 f n B k (aJ n y),cq f n B k (aJ n y))::(rng (b9 f n B k (aJ n y)) (cq f n B k (aJ n y))).flatMap H/\(k=0-> ∀c,H c=[])/\ ∀j,k=j+1-> ∀c,H c=td f n B j (c::y):=by
  cases k with
  |zero=>exact⟨fun _=>[],by show[_]=_;simp,fun _ _=>rfl,fun j e=>absurd e (by omega)⟩
  |succ j=>
   refine⟨_,rfl,fun e=>absurd e (by omega),fun j' e c=>?_⟩;grind
 obtain⟨H,hS,P,Q⟩:=hS;have hE:dO f n B (k+1) y=(rng (b9 f n B k (aJ n y)) (cq f n B k (aJ n y))).flatMap fun c=>dO f n B k (c::y):=rfl
 have a8:k=0-> ∀c,dO f n B k (c::y)=[c::y]:=fun e c=>by subst e;rfl
 have ah: ∀j,k=j+1-> ∀c,dO f n B k (c::y)=dO f n B (j+1) (c::y):=fun j e c=>by subst e;rfl
 unfold CnC at*
 rw[hS]at hI⊢;rw[hE]at S⊢;clear hv hP hT hS hE;generalize T:(fun c=>dO f n B k (c::y))=h at*
 have al: ∀c,h c=dO f n B k (c::y):=fun c=>by rw[<- T]
 clear T;generalize b9 f n B k (aJ n y)=t at*
 generalize cq f n B k (aJ n y)=o at*
 generalize mat n n f=R at*
 have bb: -46911780290560<=t/\t<=46911780290560:=by omega
 have a9: -46911780290560<=o/\o<=46911780290560:=by omega
 have V:t<=o+1:=by omega
 clear a1 a3;have O:I[pre.length]?=some (t,o):=by
  grind
 have bh:pre.length<I.length:=(aci.1 O).1;have ad:I=(pre++[(t,o)])++(rng t o).flatMap H++post:=by grind
 have s:pre.length+((t,o)::(rng t o).flatMap H).length=I.length-post.length:=by
  grind
 rw[s];clear s hI;refine tP func95 rfl (by kernel_rfl) cnP (by simp) (by simp[selfTV,bH]) (by simp[selfTV]) (F8 0 _ _ _ _ _ _ _) (F8 0 _ _ _ _ _ _ _) (ZC 0 _ _ _ _ _ _ _ _ _ _) ?_;rw[ntmps95];refine fw.weak (aj (tm:=(.raw (.int .i64 (k:Int))::.one (.ptr 0 1 0 0)::.one (.ptr 0 2 0 0)::.one (.ptr 0 3 0 0)::.one (.ptr 0 0 0 0)::.one (.ptr 0 5 0 0)::.one (.ptr 0 6 0 0)::j16 (j16 (j4 (jk::jk::[]))))) (l:=[(0,LS 0 n (k+1) y I R r pre.length)]) ⟨rfl,trivial⟩ (by simp[wk,ae])) ?_;refine eR (aC O @fV.eq_1) (k:=?_);have e1:IntKind.i64.wrap ((pre.length:Int)+1)=((pre.length+1:Nat):Int):=aL (by omega) (by omega);refine eR e1 (k:=?_);have J:=kS (k+1) y;have q:=p9 k t y;have b:(iE (k+1)++lc fI y)[k]?=some [.junk]:=by
  grind [iE]
 refine eR (aC b q) (k:=?_);clear J q b e1;generalize ac:gF (fA n f) g ((rng t o).flatMap h)=GT at*
 refine lQ (G:=CnG t o h H I post (fA n f) GT 4000000) (fun v=>⟨(.raw (.int .i64 (k:Int))::.one (.ptr 0 1 0 0)::.one (.ptr 0 2 0 0)::.one (.ptr 0 3 0 0)::.one (.ptr 0 0 0 0)::.one (.ptr 0 5 0 0)::.one (.ptr 0 6 0 0)::jk::.one (.ptr 8 0 0 0)::j16 (j16 (j4 ([])))),Hm [(0,LS 0 n k (v.x::y) I R r v.pre.length),(8,[⟨133,2,[[.p (.raw (.int .i64 t)),.p (.raw (.int .i64 o))]]⟩])]⟩) (fun v=>v.g) (fun v=>(o+1-v.x).toNat) ⟨t,pre++[(t,o)],g,adT _,V,ad,ac,hb,S⟩ ?_ rfl ?_
 ·refine aj ⟨?_,rfl,trivial⟩ ?_
  ·simp only[acJ,acC,aei];rfl
  simp[wk]
 rintro⟨x,E,A,Z,bl,M,z,C,w⟩;simp only;have bm: -46911780290560<=x/\x<=46911780290561:=by omega
 have J:(iE k++lc fI (x::y)).length=n:=by rw[kS,acC];omega
 have b:=abv k x y;have D:k<n:=by omega
 by_cases Y:x<=o
 ·rw[i5 Y,aeF]at M z w;rw[ZX]at z;rw[acJ]at w;refine bX (yT cu (by kernel_rfl) (by kernel_rfl) fun _ K=>?_);simp(disch:=omega) only[kd,aa,reduceCtorEq,D,b];apply K;refine iN rfl (eP ?_);refine bX (ib ?_);have q:=Oi k x (x+1) y;cases k with
  |zero=>
   obtain⟨cN,af⟩:=hN rfl x Z Y;have an:h x=[x::y]:=by grind
   rw[an]at z w;rw[P rfl,adP]at M;have av:(0<((0:Nat):Int))=False:=eq_false (by omega);have U:iE 0++lc fI (x::y)=lc fI (x::y):=rfl;have ap:iE 0++lc fI ((x+1)::y)=lc fI ((x+1)::y):=rfl;have a7:=C (fA n f (x::y));have a2:=C.step (fA n f (x::y));have a6:A.1+1<=4000000:=by
    grind
   have a4:List.take n (x::y)=x::y:=ack (by grind);refine eR av (k:=ir rfl ?_);simp only[ap]at q;simp only[U]at J b q;simp only[LS,U];have ab:gF (fA n f) (qk A (fA n f (x::y)) (A.2 (fA n f (x::y))+1)) ((rng (x+1) o).flatMap h)=GT:=z;generalize fA n f (x::y)=nv at*
   refine NB cu Yx 4 43 nv (A.2 nv+1) [⟨3,_,_,_,cN⟩] [] (by kernel_rfl) (by kernel_rfl) rfl af ⟨by omega,by omega⟩ (by grind [maxLen]) fun K u=>?_
   simp only[kd,cw,eF,aa,reduceCtorEq,a4];refine u _ ⟨rfl,?_⟩;clear u K;intro K u;simp(disch:=omega) only[kd,cw,eF,aa,adD,Nat.reduceSub,aL];refine u _ ⟨rfl,?_⟩;clear u K;show fw _ _ _ _ _ _ _;refine tC (aC D (aC b q)) (k:=?_);refine⟨⟨x+1,E,qk A nv (A.2 nv+1),by omega,by omega,M,ab,a2,by simp only[acC,aei]at w;show A.1+1+_<=_;omega⟩,by simp only;omega,aj ⟨rfl,rfl,trivial⟩ ?_,rfl⟩;simp[wk]
  |succ j=>
   rw[Q j rfl x,acI,acI,<- acI E]at M;rw[al,ah j rfl]at z w;have e4:IntKind.i64.wrap (((j+1:Nat):Int)-1)=(j:Int):=by grind [aL]
   have a0:(0<((j+1:Nat):Int))=True:=eq_true (by omega);have cV:=X j rfl x E _ A Z Y M C (by omega);obtain⟨ag,ba⟩:=RI (nm:=fA n f) (dO f n B (j+1) (x::y)) C;have eW:E++td f n B j (x::y)=E++td f n B j (x::y):=rfl;generalize gF (fA n f) A (dO f n B (j+1) (x::y))=N at*
   generalize(dO f n B (j+1) (x::y)).length=LL at*
   generalize td f n B j (x::y)=W at*
   clear eW;refine eR a0 (k:=iN rfl (jQ 3 cV 0 [] [] (by kernel_rfl) (by omega) (by decide) fun K u=>?_));simp only[kd,aa,reduceCtorEq,e4];refine u _ ⟨⟨rfl,?_⟩,?_⟩
   ·grind [LT]
   clear u K;intro K u;simp(disch:=omega) only[kd,aa,Jo,cwD,cnP,uh,pB,Nat.reduceBEq,reduceCtorEq,ac1,jp];apply u;clear u K;show fw _ _ _ _ _ _ _;refine tC (aC D (aC b q)) (k:=?_);refine⟨⟨x+1,E++W,N,by omega,by omega,by grind,z,ag,by omega⟩,by simp only;omega,aj ⟨?_,rfl,trivial⟩ ?_,rfl⟩
   ·simp only[acJ];rfl
   simp[wk]
 obtain rfl:x=o+1:=by omega
 rw[kL Y,aer,adc]at M;rw[kL Y,aer]at z;have z:A=GT:=z;have s:I.length-post.length=E.length:=by grind
 rw[s];refine bX (yT cu (by kernel_rfl) (by kernel_rfl) fun _ K=>?_);simp(disch:=omega) only[kd,aa,reduceCtorEq,D,b];apply K;refine ir rfl (pN ?_);show _/\_;refine⟨.inl rfl,z,_,(Qj rfl).trans (aj (tm:=(jk::.one (.ptr 0 1 0 0)::.one (.ptr 0 2 0 0)::.one (.ptr 0 3 0 0)::.one (.ptr 0 0 0 0)::.one (.ptr 0 5 0 0)::.one (.ptr 0 6 0 0)::j16 (j16 (j4 (jk::jk::[]))))) (l:=[(0,LS 0 n (k+1) y I R r E.length)]) ⟨rfl,trivial⟩ (by simp[wk])),⟨dA _,rfl⟩,by simp⟩
end
end
section
section
variable {n:Nat} {f:FF} {B:Int}
theorem gA (f:FF) (z:List Int):fA n f z=BF n f (fun i=>z.getD i 0) (fun i=>z.getD i 0):=by
 refine aO n fun i _=>?_
 show bW (fun b=>f i b*z.getD i 0*z.getD b 0) n=z.getD i 0*bW (fun j=>f i j*z.getD j 0) n;grind [gp]
theorem SL (c:RedR f n) (g:n<=8) (v: ∀i j,i<n->j<n-> -262144<=f i j/\f i j<=262144) (m:0<=B) (o:B<=65536) (l:b.length=n) (r:fj f n B 0 (aJ n b)):
  CallC prog 40 [cw (mat n n f),eF b] ⟨[],.raw (.int .i64 (fA n f b))⟩/\0<=fA n f b/\fA n f b<=B:=by
 have h:=m0.1 r;have u:aJ n b=fun i=>b.getD i 0:=funext fun i=>nS l i
 rw[u]at h;have q:B*((2^n:Nat):Int)<=((4096:Nat):Int)*((4096:Nat):Int):=by
  have e:(2^n:Nat)<=256:=acl (acF (by omega) g) (by decide);generalize(2^n:Nat)=p at*
  have:=acZ o (afj.2 e) (by omega) (by omega);omega
 have s: ∀i,(b.getD i 0).natAbs<=524288:=fun i=>by
  by_cases t:i<n
  ·have:=Cr c (fun i=>b.getD i 0) m h q (n-i-1) i (by omega);have e:2^(n-i-1)<=2^7:=acF (by omega) (by omega);omega
  grind
 refine⟨Wk n f b 262144 524288 g l (fun i j t w=>by grind) s (by decide),?_,?_⟩
 ·rw[gA];have:=(im c.pd.1 c.pd.2 (fun i=>b.getD i 0) n 0 (by omega)).1;rwa[dI (f':=f) (fun i j _ _=>cH f i j) (fun _ _=>rfl) (fun _ _=>rfl)]at this
 grind [gA]
theorem Ym (o:pJ n f B) (r:Nat) (I:List (Int×Int)) (b:I.length<=4000000) (p: ∀z,z.length=n->fj f n B 0 (aJ n z)->CallC prog 40 [cw (mat n n f),eF z] ⟨[],.raw (.int .i64 (fA n f z))⟩/\I64 (fA n f z)):
  ∀(k:Nat) (y:List Int) (pre post:List (Int×Int)) (g:MapS),y.length+(k+1)=n->rQ y->fj f n B (k+1) (aJ n y)->I=pre++td f n B k y++post->GB g->g.1+(dO f n B (k+1) y).length<=4000000->CnC n f B r I k y pre.length g
 |0,y,pre,post,g,m,u,l,v,x,C=>Yn o r 0 y I pre post g m u l v b x C (fun _ c s t=>p (c::y) (by omega) (o.step m l s t).1) fun j e=>absurd e (by omega)
 |k+1,y,pre,post,g,m,u,l,v,x,C=>Yn o r (k+1) y I pre post g m u l v b x C (fun e=>absurd e (by omega)) fun j e c q h E s t w A D=>by
  obtain rfl:k=j:=by omega
  exact Ym o r I b p k (c::y) q h E (by grind) (o.tcb m u l s t) (o.step m l s t).1 w A D
theorem Lq:GB (0,fun _=>0):=fun _=>⟨adT _,adT _⟩
theorem VB (h:pJ n f B) (u:1<=n) (e: ∀z,z.length=n->fj f n B 0 (aJ n z)->CallC prog 40 [cw (mat n n f),eF z] ⟨[],.raw (.int .i64 (fA n f z))⟩/\I64 (fA n f z)) (q:(td f n B (n-1) []).length<=4000000) (s:(dO f n B n []).length<=4000000):
  Dq prog 2 2 45 [cw (mat n n f),slV (td f n B (n-1) [])] (gF (fA n f) (0,fun _=>0) (dO f n B n [])):=by
 have t:=h.n8;have j:fj f n B n (aJ n []):=gZ h.r.pd h.b0;have c:=fun r=>Ym h r (td f n B (n-1) []) q e (n-1) [] [] [] (0,fun _=>0) (by simp;omega) rQ.nil (by grind) (by simp) Lq (by grind)
 unfold CnC at c;rw[show n-1+1=n by omega]at c;have g:=aU n n f;have o:IntKind.i64.wrap ((n:Int)-1)=((n-1:Nat):Int):=by grind [aL]
 generalize gF (fA n f) (0,fun _=>0) (dO f n B n [])=GT at*
 generalize td f n B (n-1) []=I at*
 generalize mat n n f=R at*
 clear h j e;refine NO (d:=9) (S1:=⟨(jk::jk::.one (.ptr 2 0 0 0)::.one (.ptr 3 0 0 0)::j16 ([])),Hm [(2,[⟨26,1,[[.p (.sl (ls (fR fI) R))]]⟩]),(3,[⟨76,1,[[.p (.sl (ls fV I))]]⟩])]⟩) func45 rfl (by kernel_rfl) [] [] ?_ ⟨_,rfl,rfl,rfl,rfl⟩ fun r K b=>?_
 ·rw[ntmps45];refine Yc (k:=?_);refine⟨rfl,aj ⟨rfl,rfl,trivial⟩ ?_⟩;simp[wk]
 simp(disch:=omega) only[kd,aa,Nat.reduceEqDiff];apply b;clear b K;refine eR (aC g (aC (ZU n) @acX)) (k:=iu (k:=iu (k:=?_)));refine fw.weak ((yJ 6 1 (n:=n) rfl).trans ((d7 3 8 (by decide) (by decide)).trans ((d7 7 8 (by decide) (by decide)).trans ((d7 6 8 (by decide) (by decide)).trans ((d7 5 8 (by decide) (by decide)).trans (d7 2 8 (by decide) (by decide))))))) ?_;refine fw.weak (aj (tm:=(jk::jk::.one (.ptr 8 6 0 0)::.one (.ptr 8 1 0 0)::jk::.one (.ptr 8 5 0 0)::.one (.ptr 8 3 0 0)::.one (.ptr 8 2 0 0)::.one (.ptr 8 0 0 0)::j4 (j4 (jk::jk::jk::[])))) (l:=[(8,[⟨131,1,[[.raw .nilFunc]]⟩,⟨76,1,[[.p (.sl (ls fV I))]]⟩,⟨3,1,[[.p (.raw (.int .i64 0))]]⟩,⟨35,1,[[.sl 8 4 0 n]]⟩,⟨2,1,iE n++lc fI []⟩,⟨79,1,[[.p (.raw (.map (some r)))]]⟩,⟨26,1,[[.p (.sl (ls (fR fI) R))]]⟩])]) ⟨?_,trivial⟩ (by simp[wk,oW,gW,rY,aF])) ?_
 ·simp_all[aF,vC,gW,rY,iE,lc]
 refine eR (aC @ko.eq_1 @mR.eq_1) (k:=?_);have m:=c r;refine bX (jQ 4 m 8 [] [] (by kernel_rfl) (by omega) (by decide) fun K b=>?_);simp(disch:=omega) only[kd,aa,g,o];refine b _ ⟨⟨rfl,?_⟩,?_⟩
 ·grind [LT,aS,D9]
 clear b K;intro K b;simp(disch:=omega) only[kd,aa,Jo,cwD,cnP,uh,pB,Nat.reduceBEq,jp];apply b;clear b K;show fw _ _ _ _ _ _ _;refine iu (k:=?_);refine n5 ⟨.inr rfl,rfl,_,bJ.refl _,?_⟩;simp(disch:=omega) only[kd,results45]
end
end
section
theorem uN {a:Int} (h:a<=x):rng a x=a::rng (a+1) x:=by
 unfold rng;rw[show(x-a+1).toNat=(x-(a+1)+1).toNat+1 by omega,ad3,acA,adH];rw[show a+((0:Nat):Int)=a by omega];refine congrArg (List.cons a) (acH fun i _=>?_);grind
theorem o7 {a:Int} (h:x<a):rng a x=[]:=by
 grind [rng]
theorem o6 (a b:Int):(rng a b).length=(b-a+1).toNat:=by
 simp_all[rng]
def sL (n:Nat) (c:List Int):Int:=bW (fun i=>c.getD i 0) n
def ctL (g:Int->List Int->Bool×List Int):List Int->List Int->Bool×List Int
 |[],c=>(true,c)
 |x::l,c=>if(g x c).1=true then ctL g l (g x c).2 else(false,(g x c).2)
def zw (m:Nat) (d:Int) (c:List Int):List Int:=c.set m (c.getD m 0+(d+1))
section
variable (n:Nat) (f:FF) (B bud:Int)
noncomputable def zz (k:Nat) (y c:List Int) (K:List Int->Bool×List Int):Bool×List Int:=
 if cq f n B k (aJ n y)<b9 f n B k (aJ n y)then(true,c)else if bud<=cq f n B k (aJ n y)-b9 f n B k (aJ n y)then(false,c)else
 if bud<sL n (zw y.length (cq f n B k (aJ n y)-b9 f n B k (aJ n y)) c)then(false,zw y.length (cq f n B k (aJ n y)-b9 f n B k (aJ n y)) c)else K (zw y.length (cq f n B k (aJ n y)-b9 f n B k (aJ n y)) c)
noncomputable def BD:Nat->List Int->List Int->Bool×List Int
 |0,y,c=>zz n f B bud 0 y c fun b=>(true,b)
 |k+1,y,c=>zz n f B bud (k+1) y c fun b=>ctL (fun x=>BD k (x::y)) (rng (b9 f n B (k+1) (aJ n y)) (cq f n B (k+1) (aJ n y))) b
end
section
variable {n:Nat} {f:FF} {B bud:Int}
def CtP (n:Nat) (bud:Int) (c:List Int):Prop:=c.length=n/\(∀i,i<n->0<=c.getD i 0)/\sL n c<=bud
theorem RM {i:Nat} (e:n<b.length):(b.set n x).getD i 0=if i=n then x else b.getD i 0:=by
 grind
theorem qK {d:Int}:(zw n d b).length=b.length:=by simp[zw]
theorem zx {m i:Nat} {d:Int} {c:List Int} (b:m<c.length):(zw m d c).getD i 0=if i=m then c.getD m 0+(d+1)else c.getD i 0:=RM b
theorem tU {m:Nat} {d:Int} (e:b.length=n) (g:m<n):sL n (zw m d b)=sL n b+(d+1):=by
 grind [sL,lA,zx]
theorem zy {m:Nat} {d:Int} (e:b.length=n) (l:m<n) (g:0<=d) (h: ∀i,i<n->0<=b.getD i 0): ∀i,i<n->0<=(zw m d b).getD i 0:=fun i j=>by
 grind [zx]
theorem To (h: ∀i,i<n->0<=b.getD i 0) {i:Nat} (g:i<n):b.getD i 0<=sL n b:=by
 have e:=lA (F:=fun j=>b.getD j 0) (G:=fun j=>if j=i then 0 else b.getD j 0) (i:=i) (m:=n) g fun a _ l=>by omega
 have o:=l8 (F:=fun j=>if j=i then 0 else b.getD j 0) n fun a p=>by
  grind
 simp only[if_true]at e;show _<=bW (fun i=>b.getD i 0) n;omega
theorem Rg {g:Int->List Int->Bool×List Int} {m:Int->Nat}: ∀(l:List Int) (c:List Int),(∀x∈l,∀c,CtP n bud c->(g x c).2.length=n/\((g x c).1=true->CtP n bud (g x c).2/\(g x c).2.getD (n-1) 0=c.getD (n-1) 0+(m x:Int)))->CtP n bud c->
  (ctL g l c).2.length=n/\((ctL g l c).1=true->CtP n bud (ctL g l c).2/\(ctL g l c).2.getD (n-1) 0=c.getD (n-1) 0+((l.map m).sum:Nat))
 |[],c,_,b=>⟨b.1,fun _=>⟨b,by simp[ctL]⟩⟩
 |x::l,c,e,b=>by
  obtain⟨q,j⟩:=e x (by simp) c b;rw[ctL];by_cases h:(g x c).1=true
  ·rw[if_pos h];obtain⟨o,r⟩:=j h;obtain⟨s,t⟩:=Rg l (g x c).2 (fun z p=>e z (by simp[p])) o;grind
  grind
theorem lg (k:Nat) (y:List Int):(dO f n B (k+1) y).length=((rng (b9 f n B k (aJ n y)) (cq f n B k (aJ n y))).map fun x=>(dO f n B k (x::y)).length).sum:=by
 simp_all[dO]
theorem Re {k:Nat} {c:List Int} {K:List Int->Bool×List Int} (q:b.length+(k+1)=n) (e:CtP n bud c) {M:Nat} (p:cq f n B k (aJ n b)<b9 f n B k (aJ n b)->M=0) (o:b9 f n B k (aJ n b)<=cq f n B k (aJ n b)-> ∀g,CtP n bud g->g=zw b.length (cq f n B k (aJ n b)-b9 f n B k (aJ n b)) c->(K g).2.length=n/\((K g).1=true->CtP n bud (K g).2/\(K g).2.getD (n-1) 0=c.getD (n-1) 0+(M:Int))):
  (zz n f B bud k b c K).2.length=n/\((zz n f B bud k b c K).1=true->CtP n bud (zz n f B bud k b c K).2/\(zz n f B bud k b c K).2.getD (n-1) 0=c.getD (n-1) 0+(M:Int)):=by
 unfold zz;by_cases j:cq f n B k (aJ n b)<b9 f n B k (aJ n b)
 ·rw[if_pos j];exact⟨e.1,fun _=>⟨e,by grind⟩⟩
 rw[if_neg j];by_cases l:bud<=cq f n B k (aJ n b)-b9 f n B k (aJ n b)
 ·rw[if_pos l];exact⟨e.1,fun h=>by cases h⟩
 rw[if_neg l];by_cases m:bud<sL n (zw b.length (cq f n B k (aJ n b)-b9 f n B k (aJ n b)) c)
 ·rw[if_pos m];exact⟨by rw[qK];exact e.1,fun h=>by cases h⟩
 rw[if_neg m];exact o (by omega) _ ⟨by rw[qK];exact e.1,zy e.1 (by omega) (by omega) e.2.1,by omega⟩ rfl
theorem yn {b:Type} (l:List b):(l.map fun _=>1).sum=l.length:=by
 induction l with
 |nil=>rfl
 |cons x l c=>grind
theorem oz: ∀(k:Nat) (y c:List Int),y.length+(k+1)=n->CtP n bud c->
  (BD n f B bud k y c).2.length=n/\((BD n f B bud k y c).1=true->CtP n bud (BD n f B bud k y c).2/\(BD n f B bud k y c).2.getD (n-1) 0=c.getD (n-1) 0+((dO f n B (k+1) y).length:Int))
 |0,y,c,q,j=>by
  have e:(dO f n B 1 y).length=(cq f n B 0 (aJ n y)-b9 f n B 0 (aJ n y)+1).toNat:=by
   grind [lg,dO,yn,o6]
  rw[show BD n f B bud 0 y c=zz n f B bud 0 y c fun b=>(true,b)from rfl];refine Re q j (fun h=>by grind) fun r b l o=>⟨l.1,fun _=>⟨l,?_⟩⟩
  show b.getD (n-1) 0=_;rw[o,zx (by rw[j.1];omega),if_pos (by omega),e,show y.length=n-1 by omega];omega
 |k+1,y,c,q,j=>by
  rw[show BD n f B bud (k+1) y c=zz n f B bud (k+1) y c fun b=>ctL (fun x=>BD n f B bud k (x::y)) (rng (b9 f n B (k+1) (aJ n y)) (cq f n B (k+1) (aJ n y))) b from rfl];refine Re q j (fun h=>by rw[lg,o7 h];rfl) fun r b l o=>?_
  have p:=Rg (n:=n) (bud:=bud) (g:=fun x=>BD n f B bud k (x::y)) (m:=fun x=>(dO f n B (k+1) (x::y)).length) (rng (b9 f n B (k+1) (aJ n y)) (cq f n B (k+1) (aJ n y))) b
   (fun x _ c j=>oz k (x::y) c (by grind) j) l
  refine⟨p.1,fun s=>⟨(p.2 s).1,?_⟩⟩;rw[(p.2 s).2,o,zx (by rw[j.1];omega),if_neg (by omega),lg]
end
end
section
variable {n:Nat} {f:FF} {B:Int}
theorem VV {d:Int} (b:0<d) (c:0<=x):isqF (x*d)/d=isqF (x/d):=by
 have l:=de (acP c (ad2 b));have m:=de (adW c (ad2 b));refine Ls.uniq ?_ m;obtain⟨j,p,s⟩:=l;generalize isqF (x*d)=r at*
 have g:0<=r/d:=adW j (ad2 b);have h:=agd r (show d≠0 by omega);have o:=aeh r b;generalize r/d=q at*
 refine⟨g,?_,?_⟩
 ·rw[ael b];have e:q*q*d*d<=x*d:=by
   have:(q*d)*(q*d)<=r*r:=acZ h h (acP g (ad2 b)) j;grind
  simp_all
 rw[Int.ediv_lt_iff_lt_mul b];have e:x*d<(q+1)*(q+1)*d*d:=by
  have:(r+1)*(r+1)<=((q+1)*d)*((q+1)*d):=acZ (by omega) (by omega) (by omega) (by omega);grind
 simp_all
theorem Ar (c:0<dk f 1) (b:0<=B):b9 f 1 B 0 (aJ 1 [])= -isqF (B/dk f 1)/\cq f 1 B 0 (aJ 1 [])=isqF (B/dk f 1):=by
 have g:jb f 1 0 (aJ 1 [])=0:=by rfl
 have e:fH f 1 B 0 (aJ 1 [])=B*dk f 1:=by
  grind [BF,aJ,bW,fH,ce]
 grind [b9,cq,VV]
theorem WY {a c:Int} (h:a<=c) (g:c<=x+1):rng a x=rng a (c-1)++rng c x:=by
 obtain⟨m,e⟩: ∃m:Nat,c=a+m:=⟨(c-a).toNat,by omega⟩;subst e;clear h
 induction m generalizing a with
 |zero=>
  grind [kL]
 |succ m j=>
  rw[i5 (a:=a) (b:=x) (by omega),i5 (a:=a) (by omega)];grind
noncomputable def toL (f:FF) (n:Nat) (B:Int):Nat->List Int->Nat
 |0,y=>(rng (b9 f n B 0 (aJ n y)) (cq f n B 0 (aJ n y))).length
 |k+1,y=>(rng (b9 f n B (k+1) (aJ n y)) (cq f n B (k+1) (aJ n y))).length+((rng (b9 f n B (k+1) (aJ n y)) (cq f n B (k+1) (aJ n y))).map fun c=>toL f n B k (c::y)).sum
theorem M0 {F G:Int->Nat}: ∀l:List Int,(∀c,F c<=1+G c)->(l.map F).sum<=l.length+(l.map G).sum
 |[],_=>by simp
 |c::l,h=>by
  have:=M0 l h;grind
theorem JF: ∀(k:Nat) (y:List Int),(td f n B k y).length<=1+toL f n B k y
 |0,y=>by show 1<=_;omega
 |k+1,y=>by
  have:=M0 (rng (b9 f n B (k+1) (aJ n y)) (cq f n B (k+1) (aJ n y))) fun c=>JF k (c::y)
  grind [td,toL,List.length_flatMap]
theorem ym {F G:Int->Nat}: ∀l:List Int,(∀c,c∈l->F c<=G c)->(l.map F).sum<=(l.map G).sum
 |[],_=>by simp
 |c::l,h=>by
  have:=ym l fun c b=>h c (by simp[b])
  grind
theorem M4 {G:Int->Nat} {a c:Int} (h:a<=c):((rng c x).map G).sum<=((rng a x).map G).sum:=by
 by_cases e:c<=x+1
 ·rw[WY h e,ac1,List.sum_append];omega
 grind [kL]
theorem oE: ∀(k:Nat) (y:List Int),(dO f n B (k+1) y).length<=toL f n B k y
 |0,y=>by
  rw[lg];show((rng _ _).map fun _=>1).sum<=_;rw[yn];exact acs _
 |k+1,y=>by
  rw[lg];simp only[toL];exact acl (ym _ fun c _=>oE k (c::y)) (by omega)
/-! Steps. -/
structure OkG (n:Nat) (g:yH):Prop where
 s:g.stop=false
 l:0<=g.left
 ln:g.steps.length=n
 p: ∀i,i<n->0<=g.steps.getD i 0
structure Dt (n T V:Nat) (g:yH) (r:yH×Bool):Prop where
 ok:(T:Int)<=g.left->r.2=true/\OkG n r.1/\r.1.left=g.left-T/\r.1.steps.getD (n-1) 0=g.steps.getD (n-1) 0+V/\sL n r.1.steps=sL n g.steps+T
 no:g.left<T->r.2=false/\r.1.stop=true
theorem Dt.comp {e o m p:Nat} {b r:yH×Bool} (q:Dt n e o c b) (s:b.2=true->OkG n b.1->Dt n m p b.1 r) (t:b.2=false->r=(b.1,false)):Dt n (e+m) (o+p) c r:=by
 by_cases u:(e:Int)<=c.left
 ·obtain⟨j,l,v,w,x⟩:=q.ok u;have k:=s j l;refine⟨fun h=>?_,fun h=>?_⟩
  ·obtain⟨y,z,A,C,D⟩:=k.ok (by omega);grind
  exact k.no (by omega)
 obtain⟨j,l⟩:=q.no (by omega);rw[t j];exact⟨fun h=>by omega,fun _=>⟨rfl,l⟩⟩
theorem UE {g:yH} (j:OkG n g) {m c:Nat} (r:1<=m) (q:m<=n):Dt n c (if m=n then c else 0) g (E6 n m c g):=by
 have b:=j.ln;refine⟨fun h=>?_,fun h=>?_⟩
 ·unfold E6;rw[if_neg (by omega)];have l:=tU (n:=n) (m:=m-1) (d:=(c:Int)-1) j.ln (by omega);have e:=fun i=>zx (m:=m-1) (i:=i) (d:=(c:Int)-1) (c:=g.steps) (by omega)
  unfold zw at l e;rw[show(c:Int)-1+1=c by omega]at l e;refine⟨rfl,⟨rfl,by grind,by simp[b],fun i o=>?_⟩,rfl,?_,l⟩
  ·show 0<=(g.steps.set (m-1) (g.steps.getD (m-1) 0+c)).getD i 0;rw[e i];have:=j.p i o;grind
  grind
 grind [E6]
theorem Sm {b:Int->yH->yH×Bool} {T V:Int->Nat} {hi:Int}: ∀(m:Nat) (x:Int) (g:yH),hi-x+1=m->OkG n g->(∀c g,x<=c->c<=hi->OkG n g->Dt n (T c) (V c) g (b c g))->Dt n ((rng x hi).map T).sum ((rng x hi).map V).sum g (lpM b m x g)
 |0,x,g,s,e,_=>by
  rw[kL (by omega)];refine⟨fun _=>⟨rfl,e,?_,?_,?_⟩,fun h=>?_⟩
  ·simp[lpM]
  ·simp[lpM]
  ·simp[lpM]
  have:=e.l;grind
 |m+1,x,g,s,e,j=>by
  rw[i5 (by omega)];simp only[acA,af0];refine(j x g (adT _) (by omega) e).comp (fun o p=>?_) fun o=>?_
  ·have:=Sm m (x+1) (b x g).1 (by omega) p fun c g t q r=>j c g (by omega) q r
   grind [lpM]
  grind [lpM]
theorem Nh (o:pJ n f B): ∀(k:Nat) (y:List Int) (g:yH),y.length+(k+1)=n->rQ y->fj f n B (k+1) (aJ n y)->OkG n g->Dt n (toL f n B k y) (dO f n B (k+1) y).length g (kX (E6 n) f n B k y g)
 |0,y,g,l,p,j,r=>by
  have s:=(o.lohi l p j).2.2;have h:=UE r (m:=n) (c:=(rng (b9 f n B 0 (aJ n y)) (cq f n B 0 (aJ n y))).length) (by omega) (acs _);rw[if_pos rfl]at h;have e:(dO f n B (0+1) y).length=(rng (b9 f n B 0 (aJ n y)) (cq f n B 0 (aJ n y))).length:=by
   rw[lg];show((rng _ _).map fun _=>1).sum=_;rw[yn]
  rw[e];have q:(((rng (b9 f n B 0 (aJ n y)) (cq f n B 0 (aJ n y))).length:Nat):Int)=cq f n B 0 (aJ n y)-b9 f n B 0 (aJ n y)+1:=by rw[o6];omega
  rw[q]at h;exact h
 |k+1,y,g,l,p,j,r=>by
  have s:=(o.lohi l p j).2.2;have h:=UE r (m:=n-(k+1)) (c:=(rng (b9 f n B (k+1) (aJ n y)) (cq f n B (k+1) (aJ n y))).length) (by omega) (by omega);rw[if_neg (by omega)]at h;have q:(((rng (b9 f n B (k+1) (aJ n y)) (cq f n B (k+1) (aJ n y))).length:Nat):Int)=cq f n B (k+1) (aJ n y)-b9 f n B (k+1) (aJ n y)+1:=by rw[o6];omega
  rw[q]at h;rw[lg,show((rng (b9 f n B (k+1) (aJ n y)) (cq f n B (k+1) (aJ n y))).map fun x=>(dO f n B (k+1) (x::y)).length).sum=0+((rng (b9 f n B (k+1) (aJ n y)) (cq f n B (k+1) (aJ n y))).map fun x=>(dO f n B (k+1) (x::y)).length).sum by omega];unfold toL kX;refine h.comp (fun v w=>?_) fun v=>?_
  ·have:=Sm (b:=fun c=>kX (E6 n) f n B k (c::y)) (T:=fun c=>toL f n B k (c::y)) (V:=fun c=>(dO f n B (k+1) (c::y)).length) (hi:=cq f n B (k+1) (aJ n y)) (cq f n B (k+1) (aJ n y)-b9 f n B (k+1) (aJ n y)+1).toNat (b9 f n B (k+1) (aJ n y)) _ (by omega) w fun c g t u z=>Nh o k (c::y) g (by grind) (o.tcb l p j t u) (o.step l j t u).1 z
   grind
  grind
theorem aaS (b:pJ n f B) (o:1<=n) (m:OkG n c): ∃t,Dt n (toL f n B (n-1) []) (dO f n B n []).length c (Nd (E6 n) f n B c,t):=by
 have j:fj f n B n (aJ n []):=gZ b.r.pd b.b0;have h:=Nh b (n-1) [] c (by simp;omega) rQ.nil (by grind) m;rw[show n-1+1=n by omega]at h;by_cases e:n=1
 ·subst e;have l:=b.d (k:=1) (by omega);obtain⟨l1,p⟩:=Ar (f:=f) l.1 b.b0;grind [kX,Nd]
 grind [Nd]
end
section
structure Rf (M:List (List Int)) (n:Nat) (f:FF):Prop where
 red:isReducedM M=true
 e:M=mat n n f
 n1:1<=n
 n8:n<=8
 r:RedR f n
 b: ∀i j,i<n->j<n-> -262144<=f i j/\f i j<=262144
 en:ent M=f
 l:M.length=n
theorem Tf {M:List (List Int)} (h:isReducedM M=true):Rf M M.length (ent M):=by
 obtain⟨e,b,c,g,f⟩:=Hk h;exact⟨h,e,b,c,g,f,rfl,rfl⟩
section
variable {M:List (List Int)} {n:Nat} {f:FF} {B k:Int}
theorem Rf.vs (h:Rf M n f) (b:0<=B) (c:B<=65536):pJ n f B:=aar h.r h.n8 b (by omega)
theorem Wq (b:0<=k):OkG n ⟨k,ae n 0,false⟩:=⟨rfl,b,by simp,fun i _=>by
 grind⟩
theorem Bk (h:Rf M n f) (g:0<=B) (j:B<=65536) (m:0<=k) (o:k<=1000000):
  ((toL f n B (n-1) []:Int)<=k-> ∃L:List Int,sxA M B k= .tup [(false,[.p (.sl (ls fI L))]),(false,[.p (.raw (.int .i64 0))])]/\L.length=n/\(∀i,i<n->0<=L.getD i 0)/\sL n L=toL f n B (n-1) []/\L.getD (n-1) 0=((dO f n B n []).length:Int))/\
  (k<(toL f n B (n-1) []:Int)->sxA M B k=M5 9):=by
 have q:sxA M B k=sxR (Nd (E6 n) f n B ⟨k,ae n 0,false⟩):=by
  unfold sxA;rw[if_pos h.red,if_neg (by omega),h.l,h.en,if_neg (by omega)]
 obtain⟨t,e⟩:=aaS (h.vs g j) h.n1 (Wq (n:=n) m);rw[q];have w:(ae n (0:Int)).getD (n-1) 0=0:=by
  grind
 have r:sL n (ae n (0:Int))=0:=by
  simp_all[sL,aO,dV]
 refine⟨fun c=>?_,fun c=>?_⟩
 ·obtain⟨_,b,_,u,v⟩:=e.ok c;refine⟨_,by unfold sxR;rw[if_neg (by rw[b.s];decide)],b.ln,b.p,?_,?_⟩
  ·grind
  grind
 obtain⟨_,b⟩:=e.no c;grind [sxR]
theorem Z2 (h:Rf M n f) (c:0<=B) (l:B<=65536) (o:(td f n B (n-1) []).length<=2000000):CallC prog 94 [cw M,.raw (.int .i64 B)] ⟨[],slV (td f n B (n-1) [])⟩:=by
 have g:=h.vs c l;rw[h.e];by_cases e:n=1
 ·subst e;have m:=g.d (k:=1) (acs 1);have j:dk f 1=f 0 0:=by show bk f 0 0 0=f 0 0;exact cH f 0 0
  obtain⟨l1,p⟩:=Ar (f:=f) m.1 c;have:=VS f B (by omega) (by omega) c (by omega);show CallC _ _ _ ⟨[],slV [(b9 f 1 B 0 (aJ 1 []),cq f 1 B 0 (aJ 1 []))]⟩;rw[l1,p,j];exact this
 have:=h.n1;exact VT g (Kl h.r h.n1 h.n8 h.b) (sU h.r h.n8 h.b) (by omega) o
theorem Rx (h:Rf M n f) (c:0<=B) (e:B<=65536) (g:0<=k) (b:k<=1000000):
  ((toL f n B (n-1) []:Int)<=k->CallC prog 44 [cw M,.raw (.int .i64 B),.raw (.int .i64 k)] ⟨[],.tup [(false,[.p (.sl (ls fV (td f n B (n-1) [])))]),(false,[.p (.raw (.int .i64 0))])]⟩)/\
  (k<(toL f n B (n-1) []:Int)->CallC prog 44 [cw M,.raw (.int .i64 B),.raw (.int .i64 k)] ⟨[],M5 9⟩):=by
 grind [Bk,Av,JF,UW,Z2,UV]
noncomputable def thL (f:FF) (n b:Nat):List Int:=aN (b+1) fun m=>(gF (fA n f) (0,fun _=>0) (dO f n (b:Int) n [])).2 m
theorem tw (h:Rf M n f) (b:Nat) (hb:b<=1000) (V:0<=k) (D:k<=1000000) (J:(toL f n (b:Int) (n-1) []:Int)<=k):
  CallC prog 19 [cw M,.raw (.int .i64 (b:Int)),.raw (.int .i64 k)] ⟨[],.tup [(false,[.p (.sl (ls fI (thL f n b)))]),(false,[.p (.raw (.int .i64 0))])]⟩:=by
 have L:=h.vs (B:=(b:Int)) (by omega) (by omega);have X:=h.l;have Q:=h.n1;have R:=h.n8;have H:=fg M;rw[h.red]at H;have O:=(Rx h (B:=(b:Int)) (by omega) (by omega) V D).1 J;have w:=JF (f:=f) (n:=n) (B:=(b:Int)) (n-1) [];have g:=oE (f:=f) (n:=n) (B:=(b:Int)) (n-1) [];rw[show n-1+1=n by omega]at g;have F:=VB L Q (fun z E S=>by
  obtain⟨N,Y,Z⟩:=SL h.r R h.b (by omega) (by omega) E S;exact⟨N,by constructor<;>omega⟩) (by omega) (by omega)
 rw[<- h.e]at F;have o:=(RI (nm:=fA n f) (dO f n (b:Int) n []) Lq);have q: ∀j,0<=(gF (fA n f) (0,fun _=>0) (dO f n (b:Int) n [])).2 j/\(gF (fA n f) (0,fun _=>0) (dO f n (b:Int) n [])).2 j<=4000000:=fun j=>by
  have:=o.1 j;omega
 unfold thL;generalize gF (fA n f) (0,fun _=>0) (dO f n (b:Int) n [])=G at*
 generalize td f n (b:Int) (n-1) []=I at*
 clear o g w J L;have P:IntKind.i64.wrap ((b:Int)+1)=((b+1:Nat):Int):=aL (by omega) (by omega);have t:((b:Int)<0)=False:=eq_false (by omega);have u:(1000<(b:Int))=False:=eq_false (by omega);refine ax func19 rfl ntmps19 (aA (k:=ai (am (bj [⟨1,_,_,_,H⟩] (k:=ao rfl (ai (dR t (k:=ao rfl (gL u (k:=ao rfl (ak (bj [⟨3,_,_,_,O⟩] (k:=ai (ar (k:=ao rfl (ak (Vc 2 34 F [] [] (by decide) rfl fun K c=>?_)))))))))))))))));simp only[kd];refine c _ ⟨rfl,by simp[AA,j6],?_⟩;clear c K;intro r K c;simp only[kd,aa];apply c;clear c K;have E:ae (b+1) [AV.p (.raw (.int .i64 0))]=lc fI (aN (b+1) fun j=>if j<0 then G.2 (j:Int)else 0):=by
  have h0:(aN (b+1) fun j=>if j<0 then G.2 (j:Int)else 0)=ae (b+1) 0:=acz fun i=>by
   grind [aN]
  grind [ZU]
 refine eR P (k:=bX (iu (k:=?_)));refine lQ (G:=fY (b+1)) (fun v=>⟨(j4 (j4 (jk::jk::.raw (.map (some r))::.one (.sl 37 0 0 (b+1))::j16 (j4 (j4 (jk::jk::jk::.raw (.int .i64 ((b+1:Nat):Int))::rN v.i::j4 (j4 (jk::jk::[])))))))),Hm [(37,[⟨2,1,lc fI (aN (b+1) fun j=>if j<v.i then G.2 (j:Int)else 0)⟩])]⟩) (fun _=>G) (fun v=>b+1-v.i) ⟨0,by omega⟩ ?_ rfl ?_
 ·refine aj ⟨?_,trivial⟩ ?_
  ·rw[<- E];rfl
  simp[wk]
 rintro⟨i,hi⟩;simp only;by_cases W:i<b+1
 ·have A:=aD (b+1) (fun j=>if j<i then G.2 (j:Int)else 0);have y:=aB (fun j=>if j<i then G.2 (j:Int)else 0) W;have s:(lc fI (aN (b+1) fun j=>if j<i then G.2 (j:Int)else 0)).set i [AV.p (.raw (.int .i64 (G.2 (i:Int))))]=lc fI (aN (b+1) fun j=>if j<i+1 then G.2 (j:Int)else 0):=by
   rw[show[AV.p (.raw (.int .i64 (G.2 (i:Int))))]=(fI (G.2 (i:Int))).map AV.p from rfl,wj,nL];grind
  have T:=q (i:Int);refine iu (k:=IX rfl (bX (ib (iu (k:=IW Yx 4 47 (i:Int) [] [] (by kernel_rfl) (by decide) rfl ⟨by omega,by omega⟩ fun K c=>?_)))));simp only[kd,aa];refine c _ ⟨rfl,?_⟩;clear c K;intro K c;simp(disch:=omega) only[kd,aa,y,s];apply c;clear c K;show fw _ _ _ _ _ _ _;refine xA (k:=?_);refine⟨⟨i+1,by omega⟩,by grind,aj ⟨rfl,trivial⟩ ?_,rfl⟩;simp[wk]
 have C:i=b+1:=by omega
 subst C;refine iu (k:=IV rfl ?_);show fw _ _ _ _ _ _ _;have x:(aN (b+1) fun j=>if j<b+1 then G.2 (j:Int)else 0)=aN (b+1) fun m=>G.2 (m:Int):=dT fun j U=>if_pos U
 rw[x];have A:=aD (b+1) (fun m=>G.2 (m:Int));refine iu (k:=n5 ?_);show _/\_;refine⟨.inr rfl,dp 37 (bf rfl) ?_ rfl⟩;simp(disch:=omega) only[kd,results19];grind
end
end
end Go.Proofs.YtalmoejhjceflaaGreat
