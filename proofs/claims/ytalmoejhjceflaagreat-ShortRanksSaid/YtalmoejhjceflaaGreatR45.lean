/-
  Part 46 of a proof (walks and plain facts).
-/
import Derived.Test.YtalmoejhjceflaaGreatR44
import Derived.Maps.OwnOps
import Derived.Maps.Views
set_option linter.all false
set_option maxRecDepth 100000
set_option maxHeartbeats 64000000
open Nat renaming reduceAdd → aa
namespace Go.Proofs.YtalmoejhjceflaaGreat
open Go.RowKit Go.Proofs.Tryz
variable {b:Array Oper} {n:Nat} {c:List Int} {e:FuncId} {f:Oper} {x:Int}
section
section
variable {n:Nat} {f:FF} {B:Int}
theorem oS.tcb (h:oS n f B) {k:Nat} (g:c.length+(k+1)=n) (b:o8 c) (e:gM f n B (k+1) (aY n c)) (j:eB f n B k (aY n c)<=x) (l:x<=fC f n B k (aY n c)):o8 (x::c):=by
 have:=h.lohi g b e;exact b.cons (by omega)
theorem N0 (l:oS n f B): ∀(k:Nat) (y:List Int) (acc:List (Int×Int)),y.length+(k+1)=n->o8 y->gM f n B (k+1) (aY n y)->(acc++p8 f n B k y).length<=2000000->Yk n f B k y acc
 |0,y,acc,h,m,g,o=>N1 l 0 y acc h m g o fun j e=>absurd e (by omega)
 |k+1,y,acc,h,m,g,o=>N1 l (k+1) y acc h m g o fun j e c b p q r=>by
  obtain rfl:k=j:=by omega
  exact N0 l k (c::y) b (by grind) (l.tcb h m g p q) (l.step h g p q).1 r
theorem Uk (h: ∀x∈c,x=0) (i:Nat):c.getD i 0=0:=by
 rw[aaw];cases b:c[i]? with
 |none=>rfl
 |some x=>exact h x (aai b)
theorem oB (j:oS n f B) {k:Nat} (o:c.length+(k+1)=n) (l:gM f n B (k+1) (aY n c)) (h: ∀x∈c,x=0):eB f n B k (aY n c)<=0:=by
 have g:tX f k c c.length=0:=by
  unfold tX;have: ∀m,smF (fun b=>bk f k k (k+(b+1))*c.getD b 0) m=0:=fun m=>by
   induction m with
   |zero=>rfl
   |succ m r=>
    grind [smF,Uk]
  exact this _
 rw[oN f o]at g;have e:=j.sq (k:=k) (by omega) l;have q:=nE e.1 e.2;have p:=j.d (k:=k+1) (by omega);unfold eB;rw[g];have:=abH (a:=isqF (mK f n B k (aY n c))+0) (b:=dk f (k+1)) (by omega) (by omega);omega
theorem Eo (h:oS n f B) (ex:Bool): ∀(k:Nat) (y:List Int) (z:Bool) (acc:List (List Int)),y.length+(k+1)=n->o8 y->gM f n B (k+1) (aY n y)->(z=true-> ∀x∈y,x=0)->(acc++yh f n B ex k y z).length<=1000000->Yu n f B ex k y z acc
 |0,y,z,acc,g,m,b,p,o=>Ep h 0 y z acc g m b (fun e=>oB h g b (p e)) o fun j e=>absurd e (by omega)
 |k+1,y,z,acc,g,m,b,p,o=>Ep h (k+1) y z acc g m b (fun e=>oB h g b (p e)) o fun j e c l q r _ s=>by
  obtain rfl:k=j:=by omega
  exact Eo h ex k (c::y) (z&&decide (c=0)) l (by grind) (h.tcb g m b q r) (h.step g b q r).1 (fun e=>by
   grind) s
theorem vt {s:AS} (b r:Nat) {c:TypeId} {n:Nat} (e:(s.H b)[r]?=some ⟨c,1,lc fI (List.replicate n 0)⟩):bG s ⟨s.tmps,ax s.H b ((s.H b).set r ⟨c,1,gh n++lc fI []⟩)⟩:=
 l8 b r (o':=⟨c,1,gh n++lc fI []⟩) e rfl rfl (by simp_all[gh,lc]) fun i g h=>by
  grind [gh,wL,fI]
theorem SU (b:oS n f B) (w:XY n f) (t:Zk n f) (A:2<=n) (F:(p8 f n B (n-1) []).length<=2000000):CallC prog 94 [cq (mat n n f),.raw (.int .i64 B)] ⟨[],Ya (p8 f n B (n-1) [])⟩:=by
 have z:=b.n8;have h:gM f n B n (aY n []):=kv b.r.pd b.b0;have e:=N0 b (n-1) [] [] (by simp;omega) o8.nil (by grind) (by grind);unfold Yk at e;rw[show n-1+1=n by omega,G6 b]at e;simp only[ab1]at e;have C:=b.d (k:=n) (aar n);have c:=b.b0;have j:=b.b1;have u:0<=dk f n*B:=aaS (by omega) c;have v:dk f n*B<=65536*1073741824:=aa7 (by omega) j c (by omega);have cN:=Jh (.inr rfl) w t;have m:=aT n n f;have g:=aw (dk f) (show n<n+1 by omega);have y:=aI (n+1) (dk f);have o:((n:Int)=1)=False:=eq_false (by omega);have x:IntKind.i64.wrap ((n:Int)-1)=((n-1:Nat):Int):=by grind [aK]
 unfold ZP at cN;generalize mat n n f=R at*
 generalize aN (n+1) (dk f)=D at*
 generalize fd n f n=M at*
 generalize dk f n=d at*
 generalize q:d*B=G at*
 generalize p8 f n B (n-1) []=E at*
 clear b h w t;refine aA func94 rfl ntmps94 (aC (k:=f9 m (k:=ai (f9 o (k:=aq rfl (ak (bL [⟨1,_,_,_,cN⟩] (k:=aL (aH (X6 n) @aaL) (k:=ar (k:=ar (k:=?_)))))))))));refine bf.weak ((io 9 0 0 0 133 2 (by omega) rfl rfl rfl).trans ((vt 8 1 (n:=n) rfl).trans ((dL 7 10 (by decide) (by decide)).trans ((dL 8 10 (by decide) (by decide)).trans (dL 9 10 (by decide) (by decide)))))) ?_;refine bf.weak (aj (tm:=(jk::.raw (.int .i64 B)::jk::jk::jk::rN n::jk::.one (.ptr 10 1 0 0)::.one (.ptr 10 2 0 0)::.one (.ptr 10 4 0 0)::.one (.ptr 10 0 0 0)::j16 (j16 (jk::jk::[])))) (l:=[(10,[⟨190,1,[[.raw .nilFunc]]⟩,⟨188,2,[[.p (.sl (ls fI D)),.p (.sl (ls (fR fI) M))]]⟩,⟨35,1,[[.sl 10 3 0 n]]⟩,⟨2,1,gh n++lc fI []⟩,⟨76,1,[[.sl 10 5 0 0]]⟩,⟨133,2,lc fV []⟩])]) ⟨?_,trivial⟩ (by simp[wk,lS,fp,pn,ax])) ?_
 ·simp[ax,rY,fp,pn,zH];exact⟨by simp[gh,lc,fp],rfl⟩
 refine aL (aH @iT.eq_1 @k9.eq_1) (k:=ai (AD (nj b8 e 10 [] [] (by kernel_rfl) (by omega) (by kernel_rfl) fun K s=>?_)));simp(disch:=omega) only[kd,abp,aa,Nat.reduceSub,x,g,q,aK];refine s _ ⟨⟨rfl,?_⟩,?_⟩
 ·grind [IT,aM,Bf]
 clear s K;show bf _ _ _ _;refine an fun _ K=>?_;simp(disch:=omega) only[kd,Fd,cwD,abp,aa,Nat.reduceSub,X5,pB,mu,Nat.reduceBEq,gY];apply K
 refine aW ⟨.inr rfl,_,vr 10 5 (o0:=⟨133,2,lc fV E⟩) rfl (bo _ _ _),lW (d:=1000) rfl ?_ rfl⟩;simp(disch:=omega) only[kd,results94,IX,gO,Nat.reduceEqDiff,reduceCtorEq]
 simp
theorem Sv (b:oS n f B) (w:XY n f) (t:Zk n f) (ex:Bool) (F:2<=n) (H:(yh f n B ex (n-1) [] true).length<=1000000):CallC prog 90 [cq (mat n n f),.raw (.int .i64 B),.raw (.bool ex)] ⟨[],cq (yh f n B ex (n-1) [] true)⟩:=by
 have A:=b.n8;have j:gM f n B n (aY n []):=kv b.r.pd b.b0;have g:=Eo b ex (n-1) [] true [] (by simp;omega) o8.nil (by grind) (fun _ x C=>by simp at C) (by grind);unfold Yu at g;rw[show n-1+1=n by omega,G6 b]at g;simp only[ab1]at g;have G:=b.d (k:=n) (aar n);have c:=b.b0;have m:=b.b1;have u:0<=dk f n*B:=aaS (by omega) c;have v:dk f n*B<=65536*1073741824:=aa7 (by omega) m c (by omega);have cN:=Jh (.inl rfl) w t;have e:=aT n n f;have h:=aw (dk f) (show n<n+1 by omega);have z:=aI (n+1) (dk f);have o:((n:Int)=1)=False:=eq_false (by omega);have y:IntKind.i64.wrap ((n:Int)-1)=((n-1:Nat):Int):=by grind [aK]
 unfold ZP at cN;generalize mat n n f=R at*
 generalize aN (n+1) (dk f)=D at*
 generalize fd n f n=M at*
 generalize dk f n=d at*
 generalize q:d*B=I at*
 generalize yh f n B ex (n-1) [] true=E at*
 clear b j w t;refine aA func90 rfl ntmps90 (aC (k:=ai (f9 (aH e o) (k:=aq rfl (ak (f9 e (k:=bL [⟨1,_,_,_,cN⟩] (k:=aL (aH (X6 n) @aaL) (k:=ar (k:=ar (k:=?_)))))))))));refine bf.weak ((io 10 0 0 0 35 1 (by omega) rfl rfl rfl).trans ((vt 9 1 (n:=n) rfl).trans ((dL 8 11 (by decide) (by decide)).trans ((dL 9 11 (by decide) (by decide)).trans ((dL 10 11 (by decide) (by decide)).trans (dL 5 11 (by decide) (by decide))))))) ?_;refine bf.weak (aj (tm:=(jk::.raw (.int .i64 B)::jk::jk::jk::.one (.ptr 11 6 0 0)::jk::rN n::.one (.ptr 11 1 0 0)::.one (.ptr 11 2 0 0)::.one (.ptr 11 4 0 0)::.one (.ptr 11 0 0 0)::j16 (j4 (j4 (j4 (jk::jk::[])))))) (l:=[(11,[⟨182,1,[[.raw .nilFunc]]⟩,⟨180,2,[[.p (.sl (ls fI D)),.p (.sl (ls (fR fI) M))]]⟩,⟨35,1,[[.sl 11 3 0 n]]⟩,⟨2,1,gh n++lc fI []⟩,⟨26,1,[[.sl 11 5 0 0]]⟩,⟨35,1,lc (fR fI) []⟩,⟨4,1,[[.raw (.bool ex)]]⟩])]) ⟨?_,trivial⟩ (by simp[wk,lS,fp,pn,ax])) ?_
 ·simp[ax,rY,fp,pn,zH];exact⟨by simp[gh,lc,fp],rfl⟩
 refine aL (aH @iT.eq_1 @k9.eq_1) (k:=ai (AD (nj b8 g 11 [] [] (by kernel_rfl) (by omega) (by kernel_rfl) fun K s=>?_)));simp(disch:=omega) only[kd,abp,aa,Nat.reduceSub,y,h,q,aK];refine s _ ⟨⟨rfl,?_⟩,?_⟩
 ·grind [uB,aM,Bf]
 clear s K;show bf _ _ _ _;refine an fun _ K=>?_;simp(disch:=omega) only[kd,Fd,cwD,abp,aa,Nat.reduceSub,Vm,pB,mu,Nat.reduceBEq,gY];apply K
 refine aW ⟨.inr rfl,_,vr 11 5 (o0:=⟨35,1,lc (fR fI) E⟩) rfl (bo _ _ _),lW (d:=1000) rfl ?_ rfl⟩;simp(disch:=omega) only[kd,results90,IX,gO,Nat.reduceEqDiff,reduceCtorEq,cq]
 simp
end
end
section
structure vo (P:Program) (t kt et:TypeId):Prop where
 ht:P.underlying t=some (.map kt et)
 hk:P.underlying kt=some (.int .i64)
 he:P.underlying et=some (.int .i64)
 hz: ∀w:World,(zeroValue et).run P w= .ok (.int .i64 0) w
abbrev MapS:=Nat×(Int->Int)
def vn (P:Program) (c b:TypeId) (r:Nat) (g:MapS) (w:World):Prop:= ∃D:DataW Unit,Maps.IsMap D/\w.ownsMap P c (plainElem P b) r g.1 D/\ ∀k,I64 k->D.atKey (.int .i64 k) (.lit (.int .i64 0))= .lit (.int .i64 (g.2 k))
section
variable {P:Program} {t kt et:TypeId} {r:Nat} {g:MapS} {a:Act} {w0 w w':World} {O X Y:Nat->Prop} {s s':AS} {ks:List Nat}
theorem vn.same (h:w'.heap[r]?=w.heap[r]?) (j:vn P kt et r g w):vn P kt et r g w':=by
 obtain⟨D,n,⟨e,b,l,m,o,f⟩,c⟩:=j;exact⟨D,n,⟨e,b,h.trans l,m,o,f⟩,c⟩
theorem vn.lt (c:vn P kt et r g w):r<w.heap.size:=by
 obtain⟨D,f,b,e⟩:=c;exact b.lt
def mz (P:Program) (kt et:TypeId) (r:Nat):f5 MapS:=⟨fun j=>j=r,fun g _ w=>vn P kt et r g w,fun _ _ _ _ h _ b=>b.same (h r rfl)⟩
def qP (g:MapS) (k z:Int):MapS:=(g.1+1,fun j=>if j=k then z else g.2 j)
theorem EB (T:vo P t kt et) {x m:Operand} {k:Int} (q:f.op= .lookup t x m false) (I:s.ev x=some (.raw (.map (some r)))) (G:s.ev m=some (.raw (.int .i64 k))) (y:I64 k):
  AB P f (fi (mz P kt et r) Y w0 O X g s) (fi (mz P kt et r) Y w0 O X g (s.put f.dst (.raw (.int .i64 (g.2 k))))):=fun a w K Q ⟨H,C,F,v⟩ E=>by
 obtain⟨B,u,J,h,b⟩:=H;have b:aV X J s a w:=b;have n:vn P kt et r g w:=v;obtain⟨D,L,j,p⟩:=n;obtain⟨c,l,e,_⟩:=j.lookup_int (ad2 T.hk) T.ht T.he (T.hz w) (Maps.keyOf_int_mk T.hk (adM y));rw[p k y]at e;injection e with e
 injection e with _ e
 subst e;have z:a.eval x= .map (some r):=(aX (bz b x _ I)).1;have A:a.eval m= .int .i64 k:=(aX (bz b m _ G)).1;refine jI (.inl rfl) ?_;unfold Oper.wp;simp[execOp,q,z,A,l,Result.andThen];exact E _ _ ⟨eD B u h b (bM.raw _ rfl),C,F,v⟩
theorem EC (T:vo P t kt et) {m b v:Operand} {k:Int} (H:f.op= .mapUpdate t m b v) (L:f.dst=none) (hm:s.ev m=some (.raw (.map (some r)))) (hx:s.ev b=some (.raw (.int .i64 k))) (hv:s.ev v=some (.raw (.int .i64 x))) (hk:I64 k) (hz:I64 x) (hn:g.1<maxLen):
  AB P f (fi (mz P kt et r) Y w0 O X g s) (fi (mz P kt et r) Y w0 O X (qP g k x) s):=fun a w K Q ⟨N,J,Z,V⟩ W=>by
 obtain⟨h1,aa,ρ,M,l⟩:=id N;have l:aV X ρ s a w:=l;have A:vn P kt et r g w:=V;obtain⟨D,p,u,E⟩:=A;have n:=Maps.keyOf_int_mk T.hk (adM hk);obtain⟨w',y,q,c⟩:=u.update (ad2 T.hk) T.ht hn n (plainElem_int T.he (adM hz));have R:a.eval m= .map (some r):=(aX (bz l m _ hm)).1;have S:a.eval b= .int .i64 k:=(aX (bz l b _ hx)).1;have U:a.eval v= .int .i64 x:=(aX (bz l v _ hv)).1;have I:dx w0 O X s a w':=dx.turn (B:=fun j=>j=r) N J ⟨c.os,c.tape,c.output,c.size,fun j F G=>c.block j F fun e=>G (by injection e)⟩;have C:vn P kt et r (qP g k x) w':=by
  refine⟨_,p.put _ _,q,fun j F=>?_⟩;show _=DataW.lit (Lit.int .i64 (if j=k then x else g.2 j));by_cases e:j=k
  ·subst e;rw[if_pos rfl];exact Maps.atKey_put_same p ((ad2 T.hk).key n) _ _
  rw[if_neg e];rw[Maps.atKey_put_other (fun h=>e (by injection h))];exact E j F
 refine jI (.inl rfl) ?_;unfold Oper.wp;simp[execOp,H,R,S,U,y,Result.andThen];have:=W undef w';rw[L]at this;show K (a.put f.dst undef) w';rw[L];exact this ⟨I,J,Z,C⟩
/-! A drawn region with a call or a look-up in the middle and a last operation behind all others. -/
def GE (b:Array Oper) (m:Nat) (s:AS):Option (TypeId×TV×TV):=match b[m]? with
 |some o=>match o.guard,o.op with
  |none,.lookup t x c false=>match s.ev x,s.ev c with
   |some u,some v=>some (t,u,v)
   |_,_=>none
  |_,_=>none
 |none=>none
def XN (b:Array Oper) (m:Nat) (s:AS):Option (TypeId×TV×TV×TV):=match b[m]? with
 |some o=>match o.guard,o.dst,o.op with
  |none,none,.mapUpdate t y x v=>match s.ev y,s.ev x,s.ev v with
   |some u,some k,some z=>some (t,u,k,z)
   |_,_,_=>none
  |_,_,_=>none
 |none=>none
theorem S4 {f:List Nat} (h:r7 (BI b n) f s s'):GE b n s'=GE b n s:=by
 unfold GE;have e:=h.1;unfold BI at e;cases l:b[n]? with
 |none=>rfl
 |some o=>
  rw[l]at e;simp only at e⊢;have c: ∀y∈o.op.operands,s'.ev y=s.ev y:=fun y p=>by
   cases y with
   |tmp k=>exact e k (adn.2 ⟨.tmp k,by simpa using p,rfl⟩)
   |_=>rfl
  split
  ·rename_i t x q u j;rw[j]at c;rw[c x (by simp[Op.operands]),c q (by simp[Op.operands])]
  rfl
theorem tY (T:vo P t kt et) {k:Int} (h:GE b n s=some (t,.raw (.map (some r)),.raw (.int .i64 k))) (y:I64 k):vp P b n (fi (mz P kt et r) Y w0 O X g s) (fi (mz P kt et r) Y w0 O X g (s.put (cwD b n) (.raw (.int .i64 (g.2 k))))):=by
 unfold GE at h;split at h
 case h_2=>cases h
 rename_i o e;split at h
 case h_2=>cases h
 rename_i B x A p c;split at h
 case h_2=>cases h
 rename_i u v z q;injection h with h
 injection h with f h
 injection h with j l
 subst f j l;refine⟨o,e,p,?_⟩;unfold cwD;rw[e];exact EB T c z q y
theorem EA (T:vo P t kt et) {k:Int} (h:XN b n s=some (t,.raw (.map (some r)),.raw (.int .i64 k),.raw (.int .i64 x))) (B:I64 k) (H:I64 x) (C:g.1<maxLen):vp P b n (fi (mz P kt et r) Y w0 O X g s) (fi (mz P kt et r) Y w0 O X (qP g k x) s):=by
 unfold XN at h;split at h
 case h_2=>cases h
 rename_i o D;split at h
 case h_2=>cases h
 rename_i J y c v A q e;split at h
 case h_2=>cases h
 rename_i u I K G F E;injection h with h
 injection h with f h
 injection h with j h
 injection h with l p
 subst f j l p;exact⟨o,D,A,EC T e q G F E B H C⟩
variable {Q:Exit->AS->MapS->Prop}
theorem Kn (p:P.follows .mixedOrders=true) (T:vo P t kt et) (m d:Nat) (k z:Int) (c:List (ao P)) (f:List Nat) {id:Nat} (o:cW ks b=true) (l:OZ b m (b.size-1) []=true) (n:cwD b m=some d) (u:I64 k) (D:I64 z) (B:g.1<maxLen) (h: ∀K:AS->Prop,(∀j,(GE b m j=some (t,.raw (.map (some r)),.raw (.int .i64 k))/\ ∀K:AS->Prop,(∀e,(XN b (b.size-1) e=some (t,.raw (.map (some r)),.raw (.int .i64 k),.raw (.int .i64 z))/\Q .normal e (qP g k z))->K e)->aS P (c.map ao.a) f (aJ b ((b.toList.take (b.size-1)).drop (m+1)) (m+1)) (some (j.put (some d) (.raw (.int .i64 (g.2 k))))) K)->K j)->aS P (c.map ao.a) f (aJ b (b.toList.take m) 0) (some s) K):dW P (mz P kt et r) ks (.region id b true) Q s g:=fun v Y w0 O X a w I=>by
 obtain⟨j,x,E,F⟩:=aR P (c.map ao.a) f b _ 0 s _ (h _ fun j q=>q);obtain⟨e,y,G,q4⟩:=aR P (c.map ao.a) f b _ (m+1) _ _ (F _ fun e q=>q);have A:m<b.size-1:=by
  simp only[OZ,aaO,decide_eq_true_eq]at l;exact l.1
 refine Dm (R1:=jA (mz P kt et r) ks v Y w0 O X g) (R2:=jA (mz P kt et r) ks v Y w0 O X (qP g k z)) fK p c f m (b.size-1) [] (.raw (.int .i64 (g.2 k))) o l x (fun s' C L=>?_) (by rw[n];exact y) (fun _=>pZ o (EA T G u D B)) (fun h=>by omega) I fun J w' H=>⟨e,_,q4,H⟩
 exact pZ o (tY T ((S4 C).trans E) u)
theorem FB (T:vo P t kt et) (m d:Nat) (k:Int) (c:List (ao P)) (e:List Nat) {id:Nat} (l:cW ks b=true) (x:m<b.toList.length) (j:cwD b m=some d) (v:I64 k) (h: ∀K:AS->Prop,(∀f,(GE b m f=some (t,.raw (.map (some r)),.raw (.int .i64 k))/\ ∀K:AS->Prop,(∀s',Q .normal s' g->K s')->aS P (c.map ao.a) e (aJ b (b.toList.drop (m+1)) (m+1)) (some (f.put (some d) (.raw (.int .i64 (g.2 k))))) K)->K f)->aS P (c.map ao.a) e (aJ b (b.toList.take m) 0) (some s) K):dW P (mz P kt et r) ks (.region id b false) Q s g:=fun n Y w0 O X a w B=>by
 obtain⟨f,o,y,z⟩:=aR P (c.map ao.a) e b _ 0 s _ (h _ fun f q=>q);obtain⟨s',p,u⟩:=aR P (c.map ao.a) e b _ (m+1) _ _ (z (fun s=>Q .normal s g) fun _ h=>h);refine rO (R1:=jA (mz P kt et r) ks n Y w0 O X g) (R2:=jA (mz P kt et r) ks n Y w0 O X g) fK fK m c e l x o (pZ l (tY T y v)) (by rw[j];exact p) B fun C w' A=>⟨s',g,u,A⟩
end
end
section
section
variable {P:Program} {t kt et:TypeId} {g:MapS} {a:Act} {w0 w w':World} {O X:Nat->Prop} {s s':AS}
theorem dx.lendnew (h:dx w0 O X s a w) (e:Ext w w') (E:w.heap.size<=n) (J:n<w'.heap.size):dx w0 (fun j=>O j\/j=n) (fun j=>X j\/j=n) s a w':=by
 obtain⟨I,B,m,f,C⟩:=h;have z: ∀b,b<w.heap.size->Xo (fun j=>X j\/j=n) m s.H b->Xo X m s.H b:=fun b l h=>by
  rcases h with(h|h)|h
  ·exact .inl h
  ·omega
  exact .inr h
 have mono: ∀x v,AV.rel m s.H (Xo X m s.H) w x v->AV.rel m s.H (Xo (fun j=>X j\/j=n) m s.H) w' x v:=qr fun x v A h=>by
  cases x with
  |fn=>cases A
  |p x=>exact bM.stays (Ext.stays e) (bM.weaken z h)
  |sl x n K len=>exact h
  |ptr x n i j=>exact h
  |junk=>trivial
 refine⟨I,B,m,⟨⟨e.os.trans f.keep.os,e.tape.trans f.keep.tape,e.output.trans f.keep.output,aap f.keep.size e.size,fun j D A=>?_⟩,fun x y o u=>?_,f.inj,fun x y o b c u l=>?_,fun b l=>?_,f.self⟩,fun t x q=>?_⟩
 ·rw[e.block j (aaA D f.keep.size)];exact f.keep.block j D fun h=>A (.inl h)
 ·exact dP (f.objs x y o u) rfl (fun b c l=>e.block b (bJ (f.objs x y o u) l)) (fun _ _ E=>mono _ _ E)
 ·obtain⟨F,G⟩:=f.old x y o b c u l;refine⟨F.imp id .inl,fun q=>?_⟩;rcases q with q|q
  ·exact G q
  have:=bJ (f.objs x y o u) l;omega
 ·rcases l with l|l
  ·exact aaA (f.bar b l) e.size
  omega
 obtain⟨v,L,M⟩:=C t x q;exact⟨v,L,TV.rel_map M mono⟩
theorem dx.unlend (h:dx w0 (fun j=>O j\/j=n) (fun j=>X j\/j=n) s a w) (C:w0.heap.size<=n):dx w0 O X s a w:=by
 obtain⟨F,z,f,e,A⟩:=h;have m: ∀b,b<w.heap.size->Xo X f s.H b->Xo (fun j=>X j\/j=n) f s.H b:=fun b l h=>by
  rcases h with h|h
  ·exact .inl (.inl h)
  exact .inr h
 have mono: ∀x v,AV.rel f s.H (Xo (fun j=>X j\/j=n) f s.H) w x v->AV.rel f s.H (Xo X f s.H) w x v:=qr fun x v q h=>by
  cases x with
  |fn=>cases q
  |p x=>exact bM.weaken m h
  |sl x n I len=>exact h
  |ptr x n i j=>exact h
  |junk=>trivial
 refine⟨F,z,f,⟨⟨e.keep.os,e.keep.tape,e.keep.output,e.keep.size,fun j G q=>e.keep.block j G fun h=>?_⟩,fun x y o u=>?_,e.inj,fun x y o b c u l=>?_,fun b l=>e.bar b (.inl l),e.self⟩,fun t x B=>?_⟩
 ·rcases h with h|h
  ·exact q h
  omega
 ·exact dP (e.objs x y o u) rfl (fun b c l=>rfl) (fun _ _ C=>mono _ _ C)
 ·obtain⟨D,E⟩:=e.old x y o b c u l;refine⟨?_,fun B=>E (.inl B)⟩;rcases D with g|g|g
  ·exact .inl g
  ·exact .inr g
  exact .inl (by omega)
 obtain⟨v,J,K⟩:=A t x B;exact⟨v,J,TV.rel_map K mono⟩
def Aw (P:Program) (kt et:TypeId) (f:FuncId) (args:List TV) (g:MapS):Prop:=
 callable P f=true/\ ∀(X:Nat->Prop) (w:World) (vs:Array Value),(∀b,X b->b<w.heap.size)->vs.size=args.length->
  (∀(j:Nat) t,args[j]?=some t-> ∃v:Value,vs[j]?=some v/\t.rel (fun _ _=>none) (fun _=>[]) X w v)->
  Calls P f vs w fun e w'=> ∃r,e= .returned (.map (some r))/\w.heap.size<=r/\vn P kt et r g w'/\Keep (fun _=>False) w w'
theorem KB {fn:Func} {R0 y:Code} {id:Nat} {args:List TV} (hf:P.funcs[e]?=some fn) (hb:fn.body=some (.seq R0 (.seq (.region id b false) y))) (hn:callable P e=true) {d:Nat} {S1:AS} (B:List (ao P)) (ow:List Nat) (h0:bf P R0 (fun m s'=>m= .normal/\bG s' S1) ⟨args++List.replicate (fn.ntmps-args.length) .undef,fun _=>[]⟩) (H: ∃o,b[0]?=some o/\o.guard=none/\o.op= .makeMap t none/\o.dst=some d) (J: ∀(r:Nat) (K:AS->Prop),(∀s',dW P (mz P kt et r) [] y (fun m s' g'=>(m= .normal\/m= .ret)/\g'=g/\ ∃U,bG s' U/\pS P U fn.results.toList=some (.raw (.map (some r)))) s' (0,fun _=>0)->K s')->aS P (B.map ao.a) ow (aJ b (b.toList.drop 1) 1) (some (S1.put (some d) (.raw (.map (some r))))) K):Aw P kt et e args g:=by
 refine⟨hn,fun X w vs hX al G=>?_⟩;refine calls_of_wp hf hb ?_;have R:dx w (fun _=>False) X ⟨args++List.replicate (fn.ntmps-args.length) .undef,fun _=>[]⟩ {tmps:=vs++Array.replicate (fn.ntmps-vs.size) undef,defers:=[]} w:=by
  refine⟨rfl,by simp[al],fun _ _=>none,⟨Keep.refl w,fun a r o C=>by simp at C,fun a r a' r' o o' l c c' C=>by simp at C,fun a r o l c C=>by simp at C,hX,fun a r o C=>by simp at C⟩,fun t x E=>?_⟩;have Z: ∀l,l<w.heap.size->Xo X (fun _ _=>none) (fun _=>[]) l->X l:=fun l _ h=>by
   rcases h with h|⟨a,r,o,c,J,Y⟩
   ·exact h
   cases Y
  by_cases ht:t<args.length
  ·rw[aaB ht]at E;obtain⟨v,V,v2⟩:=G t x E;refine⟨v,by rw[aa2 (by omega)];exact V,TV.rel_map v2 (fun y u T=>?_)⟩;cases y with
   |p y=>exact bM.weaken Z T
   |sl a r a6 len=>obtain⟨o,J,_⟩:=T;simp at J
   |ptr a r i j=>obtain⟨o,_,_,J,_⟩:=T;simp at J
   |fn e a qs=>exact(qA (fun _=>rfl) T).elim
   |junk=>trivial
  rw[aaE (by omega),aba]at E;split at E
  ·rename_i a4;injection E with E
   subst E;refine⟨undef,?_,eJ⟩;rw[abn (by omega),acS,if_pos (by omega)]
  cases E
 refine wp_seq (wp_mono (h0 _ _ _ _ _ R) fun m W q ⟨s1,⟨he,ap⟩,D⟩=>?_);subst he;have D:=ap _ _ _ _ _ D;have ac:Keep (fun _=>False) w q:=by obtain⟨_,_,ρ,z,_⟩:=D;exact z.keep
 show Code.wp P _ _ W q;obtain⟨o,C,hg,H,hd⟩:=H;have A:w.heap.size<=q.heap.size:=ac.size;obtain⟨U,Y,h3⟩:=aR P (B.map ao.a) ow b _ 1 _ _ (J q.heap.size _ fun _ h=>h);refine wp_seq ((wpIn_wide (n:=0)).1 (wpIn_region (F:=FW none) ?_));have Q:b.size=1+(b.toList.drop 1).length:=by
  have:=(aaD.1 C).1;simp;omega
 rw[Q,aaX,ab5 1,abb,wpOpsIn_cons];unfold wpOpIn;rw[C];simp only;rw[if_pos (by simp[Region.wanted,hg])];refine jI (.inl rfl) ?_;unfold Oper.wp;simp only[execOp,H,acF,aax,run_makeMap,aan,abc];have M:Ext q (q.alloc (.map #[] 0)):=wA (World.grownBy_alloc q _ none);have ad:=D.lendnew M (aar _) (aaD.1 (MapKept.heap_alloc q (.map #[] 0)).1).1;have hG:vn P kt et q.heap.size (0,fun _=>0) (q.alloc (.map #[] 0)):=⟨.map [],Maps.isMap_empty,World.ownsMap_made _ _ _ _,fun k _=>rfl⟩;obtain⟨q1,q2,ρ,q3,q4⟩:=ad;have ae:fi (mz P kt et q.heap.size) (fun _=>True) w (fun j=>False\/j=q.heap.size) (fun j=>X j\/j=q.heap.size) (0,fun _=>0) (S1.put (some d) (.raw (.map (some q.heap.size)))) (W.put o.dst (.map (some q.heap.size))) (q.alloc (.map #[] 0)):=by
  rw[hd];exact⟨eD q1 q2 q3 q4 (bM.raw _ rfl),fun j N=>⟨.inr N,.inr N⟩,fun _ _=>trivial,hG⟩
 obtain⟨wb,Ob,Xb,rb,kb⟩:=sQ _ _ _ ae;show wpOpsIn (FW none) 0 P b _ (List.range' (0+1) (List.drop 1 b.toList).length) (W.put o.dst (.map (some q.heap.size))) (q.alloc (.map #[] 0));rw[<- aa8 (List.range' (0+1) _)];refine BO (n:=0) (suf:=[]) (b.toList.drop 1) 1 _ U _ _ (fun j o N=>by
  rw[abR]at N;simpa using N) Y rb (fun a2 w2 r2=>?_)
 show y.wp P _ a2 w2;refine wp_mono (h3 (fun _=>none) _ _ _ _ _ _ ⟨kb _ _ _ r2,fun _ hk=>by simp at hk⟩) fun m a3 w3 ⟨s3,g3,⟨aa,ab,s4,av,S⟩,⟨af,_,_,L⟩,_⟩=>?_
 subst ab;have ag:=av _ _ _ _ _ af;have ah:=(dx.unlend (O:=fun _=>False) ag A);obtain⟨n1,a5,a0,z,I⟩:=ah;have I:aV X a0 s4 a3 w3:=I;obtain⟨v,V,v2⟩:=fF z I S;have hv:=(aX v2).1;subst hv;rcases aa with rfl|rfl
 ·exact⟨n1,_,V,_,rfl,A,L,z.keep⟩
 exact⟨n1,_,V,_,rfl,A,L,z.keep⟩
theorem Wk {J:List TV} (p:dx w0 O X s a w) (h:pu f s=some (e,J)) (m:Aw P kt et e J g) (hp: ∀t∈J,sY t=true) {d:Nat} (hd:f.dst=some d) {K:Act->World->Prop} {Q:Exit->Act->World->Prop} (hK: ∀r w',w0.heap.size<=r->fi (mz P kt et r) (fun _=>True) w0 (fun j=>O j\/j=r) (fun j=>X j\/j=r) g (s.put (some d) (.raw (.map (some r)))) (a.put (some d) (.map (some r))) w'->K (a.put (some d) (.map (some r))) w'):f.wp P a w K Q:=by
 obtain⟨h1,aa,ρ,E,n⟩:=id p;have n:aV X ρ s a w:=n;have key: ∀vs:Array Value,(execOp a.eval f).run P w= .ok (.enter e vs) w->vs.size=J.length->(∀(j:Nat) t,J[j]?=some t-> ∃v:Value,vs[j]?=some v/\t.rel ρ s.H (Xo X ρ s.H) w v)->f.wp P a w K Q:=fun vs I W x=>by
  unfold Oper.wp;rw[I];simp only[Oper.upon];refine(m.2 (fun _=>False) w vs (fun j B=>B.elim) W fun j u hu=>?_).mono ?_
  ·obtain⟨v,Z,v2⟩:=x j u hu;exact⟨v,Z,nO (hp u (aai hu)) v2⟩
  rintro b w1 ⟨r,rfl,hr,hG,F⟩;have D:Ext w w1:=⟨F.os,F.tape,F.output,F.size,fun k U=>F.block k U id⟩;obtain⟨q1,q2,ab,q3,q4⟩:=p.lendnew D hr hG.lt;rw[hd];exact hK r w1 (aap E.keep.size hr) ⟨eD q1 q2 q3 q4 (bM.raw _ rfl),fun j B=>⟨.inr B,.inr B⟩,fun _ _=>trivial,hG⟩
 unfold pu at h;split at h
 ·rename_i c G;split at h
  ·rename_i f' l;obtain⟨L,z,b⟩:=aak.1 h;injection b with b M
   subst b M;obtain⟨q,R⟩:=bV z;refine key _ (jf G l rfl m.1) (by simpa using q.symm) fun j t C=>?_
   obtain⟨y,Y,A⟩:=R j t C;refine⟨a.eval y,?_,bz n y _ A⟩;rw[ace];have:c.args[j]?=some y:=by simpa using Y
   rw[this];rfl
  ·rename_i k l;split at h
   ·rename_i f' S L T z;injection h with h
    injection h with b M
    subst b M;obtain⟨q,R⟩:=bV z;obtain⟨us,k1,k2,k3⟩:=jJ (v:=a.eval (.tmp k)) (fun t0 V=>bz n (.tmp k) t0 V) T;refine key _ (jT G l k1 m.1) (by have N:=q;simp at N⊢;omega) fun j t C=>?_
    by_cases B:j<L.length
    ·rw[aaB B]at C;obtain⟨y,Y,A⟩:=R j _ C;refine⟨a.eval y,?_,bz n y _ A⟩;rw[aa2 (by simp at q⊢;omega),ace];have:c.args[j]?=some y:=by simpa using Y
     rw[this];rfl
    rw[aaE (by omega)]at C;obtain⟨v,Z,v2⟩:=k3 _ _ C;refine⟨v,?_,v2⟩;rw[abn (by simp at q⊢;omega)];simp at q⊢;rw[<- q];exact Z
   cases h
  cases h
 cases h
theorem RX (m d:Nat) {args:List TV} (z:Aw P kt et e args g) (l:List (ao P)) (B:List Nat) {id:Nat} {y:Code} {Q:Exit->AS->Prop} (C:m<b.toList.length) (u:cwD b m=some d) (h: ∀K:AS->Prop,(∀x,(cxTs b m x=some (e,args)/\(∀t∈args,sY t=true)/\ ∀(r:Nat) (K:AS->Prop),(∀s',dW P (mz P kt et r) [] y (fun c s' _=>Q c s') s' g->K s')->aS P (l.map ao.a) B (aJ b (b.toList.drop (m+1)) (m+1)) (some (x.put (some d) (.raw (.map (some r))))) K)->K x)->aS P (l.map ao.a) B (aJ b (b.toList.take m) 0) (some s) K):bf P (.seq (.region id b false) y) Q s:=fun w0 O X a w r0=>by
 obtain⟨x,L,p,W,Y⟩:=aR P (l.map ao.a) B b _ 0 s _ (h _ fun x q=>q);obtain⟨o,E⟩: ∃o,b[m]?=some o:=⟨b[m],by simp at C;simp[C]⟩;unfold cxTs at p;rw[E]at p;simp only at p;have A:o.guard=none:=by
  split at p
  ·rename_i A;simpa using A
  cases p
 rw[A]at p;simp only[abm,if_true]at p;have S:o.dst=some d:=by unfold cwD at u;rw[E]at u;exact u
 refine wp_seq ((wpIn_wide (n:=0)).1 (wpIn_region (F:=FW none) ?_));have I:b.size=(b.toList.take m).length+(1+(b.toList.drop (m+1)).length):=by simp at C⊢;omega
 rw[I,aaX,<- abr,aa6];have D:(b.toList.take m).length=m:=by rw[acN];omega
 refine BO (b.toList.take m) 0 s x a w (fun j o v=>?_) L r0 fun a' w' Z=>?_
 ·rw[acg]at v;split at v
  ·simpa using v
  cases v
 rw[D,ab5 1,abb,wpOpsIn_cons];unfold wpOpIn;rw[E];simp only;rw[if_pos (by simp[Region.wanted,A])];refine jI (.inl rfl) (Wk Z p z W S fun r w1 U G=>?_);obtain⟨s2,M,N⟩:=aR P (l.map ao.a) B b _ (m+1) _ _ (Y r _ fun _ h=>h);obtain⟨wb,Ob,Xb,rb,V⟩:=sQ _ _ _ G;rw[<- aa8 (List.range' (m+1) _)];refine BO (n:=0) (suf:=[]) (b.toList.drop (m+1)) (m+1) _ s2 _ _ (fun j o v=>by
  rw[abR]at v;simpa using v) M rb (fun J w2 r2=>?_)
 show y.wp P _ J w2;exact wp_mono (N (fun _=>none) _ _ _ _ _ _ ⟨V _ _ _ r2,fun _ T=>by simp at T⟩) fun c a3 w3 ⟨s3,g3,R,⟨H,_,_,_⟩,_⟩=>⟨s3,R,dx.unlend H U⟩
end
end
end Go.Proofs.YtalmoejhjceflaaGreat
