/-
  Part 23 of a proof (walks and plain facts).
-/
import Derived.Test.YtalmoejhjceflaaGreatP21
import Derived.Maps.OwnOps
import Derived.Maps.Views
set_option linter.all false
set_option maxRecDepth 100000
set_option maxHeartbeats 64000000
open Nat renaming reduceAdd → aa
open List renaming replicate → ae
namespace Go.Proofs.YtalmoejhjceflaaGreat
open Go.RowKit Go.Proofs.Tryz
variable {b:List Int} {c:List (List Int)} {e:Array Oper} {n:Nat} {x:Int} {f:Code} {g:List Nat} {h:FuncId} {s:AS} {j:Oper} {l:uk}
section
section
variable {n:Nat} {f:FF} {B:Int}
theorem mD.tcb (j:mD n f B) {k:Nat} (h:b.length+(k+1)=n) (e:oy b) (g:fO f n B (k+1) (aR n b)) (l:dR f n B k (aR n b)<=x) (m:x<=eQ f n B k (aR n b)):oy (x::b):=by
 have:=j.lohi h e g;exact e.cons (by omega)
theorem LQ (l:mD n f B): ∀(k:Nat) (y:List Int) (acc:List (Int×Int)),y.length+(k+1)=n->oy y->fO f n B (k+1) (aR n y)->(acc++pf f n B k y).length<=2000000->Vi n f B k y acc
 |0,y,acc,h,m,g,o=>LR l 0 y acc h m g o fun j e=>absurd e (by omega)
 |k+1,y,acc,h,m,g,o=>LR l (k+1) y acc h m g o fun j e c b p q r=>by
  obtain rfl:k=j:=by omega
  exact LQ l k (c::y) b (by grind) (l.tcb h m g p q) (l.step h g p q).1 r
theorem Rs (h: ∀x∈b,x=0) (i:Nat):b.getD i 0=0:=by
 rw[Yf];cases c:b[i]? with
 |none=>rfl
 |some x=>exact h x (XH c)
theorem nL (j:mD n f B) {k:Nat} (o:b.length+(k+1)=n) (l:fO f n B (k+1) (aR n b)) (h: ∀x∈b,x=0):dR f n B k (aR n b)<=0:=by
 have g:sQ f k b b.length=0:=by
  unfold sQ;have: ∀m,dP (fun c=>bk f k k (k+(c+1))*b.getD c 0) m=0:=fun m=>by
   induction m with
   |zero=>rfl
   |succ m r=>
    grind [dP,Rs]
  exact this _
 rw[n5 f o]at g;have e:=j.sq (k:=k) (by omega) l;have q:=mT e.1 e.2;have p:=j.d (k:=k+1) (by omega);unfold dR;rw[g];have:=Zn (a:=isqF (kJ f n B k (aR n b))+0) (b:=dk f (k+1)) (by omega) (by omega);omega
theorem C2 (h:mD n f B) (ex:Bool): ∀(k:Nat) (y:List Int) (z:Bool) (acc:List (List Int)),y.length+(k+1)=n->oy y->fO f n B (k+1) (aR n y)->(z=true-> ∀x∈y,x=0)->(acc++wX f n B ex k y z).length<=1000000->Vt n f B ex k y z acc
 |0,y,z,acc,g,m,b,p,o=>C3 h 0 y z acc g m b (fun e=>nL h g b (p e)) o fun j e=>absurd e (by omega)
 |k+1,y,z,acc,g,m,b,p,o=>C3 h (k+1) y z acc g m b (fun e=>nL h g b (p e)) o fun j e c l q r _ s=>by
  obtain rfl:k=j:=by omega
  exact C2 h ex k (c::y) (z&&decide (c=0)) l (by grind) (h.tcb g m b q r) (h.step g b q r).1 (fun e=>by
   grind) s
theorem uo (b r:Nat) {c:TypeId} {n:Nat} (e:(s.H b)[r]?=some ⟨c,1,lc fI (ae n 0)⟩):bv s ⟨s.tmps,aw s.H b ((s.H b).set r ⟨c,1,fK n++lc fI []⟩)⟩:=
 lE b r (o':=⟨c,1,fK n++lc fI []⟩) e rfl rfl (by simp_all[fK,lc]) fun i g h=>by
  grind [fK,zQ,fI]
theorem PY (b:mD n f B) (w:U1 n f) (t:Wf n f) (A:2<=n) (F:(pf f n B (n-1) []).length<=2000000):CallC prog 94 [dq (mat n n f),.raw (.int .i64 B)] ⟨[],Va (pf f n B (n-1) [])⟩:=by
 have z:=b.n8;have h:fO f n B n (aR n []):=jl b.r.pd b.b0;have e:=LQ b (n-1) [] [] (by simp;omega) oy.nil (by grind) (by grind);unfold Vi at e;rw[show n-1+1=n by omega,Fk b]at e;simp only[ZV]at e;have C:=b.d (k:=n) (XY n);have c:=b.b0;have j:=b.b1;have u:0<=dk f n*B:=Yj (by omega) c;have v:dk f n*B<=65536*1073741824:=YG (by omega) j c (by omega);have cN:=G9 (.inr rfl) w t;have m:=aS n n f;have g:=az (dk f) (show n<n+1 by omega);have y:=aH (n+1) (dk f);have o:((n:Int)=1)=False:=eq_false (by omega);have x:IntKind.i64.wrap ((n:Int)-1)=((n-1:Nat):Int):=by grind [aP]
 unfold WK at cN;generalize mat n n f=R at*
 generalize aN (n+1) (dk f)=D at*
 generalize eF n f n=M at*
 generalize dk f n=d at*
 generalize q:d*B=G at*
 generalize pf f n B (n-1) []=E at*
 clear b h w t;refine aB func94 rfl ntmps94 (aC (k:=f5 m (k:=ai (f5 o (k:=ao rfl (ak (bL [⟨1,_,_,_,cN⟩] (k:=aK (aE (U7 n) @Yq) (k:=ar (k:=ar (k:=?_)))))))))));refine bs.weak ((kO 9 0 0 0 133 2 (by omega) rfl rfl rfl).trans ((uo 8 1 (n:=n) rfl).trans ((du 7 10 (by decide) (by decide)).trans ((du 8 10 (by decide) (by decide)).trans (du 9 10 (by decide) (by decide)))))) ?_;refine bs.weak (aj (tm:=(jk::.raw (.int .i64 B)::jk::jk::jk::rN n::jk::.one (.ptr 10 1 0 0)::.one (.ptr 10 2 0 0)::.one (.ptr 10 4 0 0)::.one (.ptr 10 0 0 0)::j16 (j16 (jk::jk::[])))) (l:=[(10,[⟨190,1,[[.raw .nilFunc]]⟩,⟨188,2,[[.p (.sl (ls fI D)),.p (.sl (ls (fR fI) M))]]⟩,⟨35,1,[[.sl 10 3 0 n]]⟩,⟨2,1,fK n++lc fI []⟩,⟨76,1,[[.sl 10 5 0 0]]⟩,⟨133,2,lc fV []⟩])]) ⟨?_,trivial⟩ (by simp[wk,mb,fi,oE,aw])) ?_
 ·simp[aw,qS,fi,oE,zH];exact⟨by simp[fK,lc,fi],rfl⟩
 refine aK (aE @iK.eq_1 @kD.eq_1) (k:=ai (Gf (mK ch e 10 [] [] (by kernel_rfl) (by omega) (by kernel_rfl) fun K s=>?_)));simp(disch:=omega) only[kd,YW,aa,Nat.reduceSub,x,g,q,aP];refine s _ ⟨⟨rfl,?_⟩,?_⟩
 ·grind [GG,aI,zR]
 clear s K;show bs _ _ _ _;refine aK (aE @En.eq_1 (aE @mw.eq_1 (aE @YW (aE @Nat.reduceSub (aE @U6.eq_1 (aE @pR.eq_1 (aE @my.eq_1 @gU))))))) (k:=?_);refine aZ ⟨.inr rfl,_,un 10 5 (o0:=⟨133,2,lc fV E⟩) rfl (bi _ _ _),lj (d:=1000) rfl ?_ rfl⟩;simp(disch:=omega) only[kd,results94,GM,gy,Nat.reduceEqDiff,reduceCtorEq]
 simp
theorem PF (b:mD n f B) (w:U1 n f) (t:Wf n f) (ex:Bool) (F:2<=n) (H:(wX f n B ex (n-1) [] true).length<=1000000):CallC prog 90 [dq (mat n n f),.raw (.int .i64 B),.raw (.bool ex)] ⟨[],dq (wX f n B ex (n-1) [] true)⟩:=by
 have A:=b.n8;have j:fO f n B n (aR n []):=jl b.r.pd b.b0;have g:=C2 b ex (n-1) [] true [] (by simp;omega) oy.nil (by grind) (fun _ x C=>by simp at C) (by grind);unfold Vt at g;rw[show n-1+1=n by omega,Fk b]at g;simp only[ZV]at g;have G:=b.d (k:=n) (XY n);have c:=b.b0;have m:=b.b1;have u:0<=dk f n*B:=Yj (by omega) c;have v:dk f n*B<=65536*1073741824:=YG (by omega) m c (by omega);have cN:=G9 (.inl rfl) w t;have e:=aS n n f;have h:=az (dk f) (show n<n+1 by omega);have z:=aH (n+1) (dk f);have o:((n:Int)=1)=False:=eq_false (by omega);have y:IntKind.i64.wrap ((n:Int)-1)=((n-1:Nat):Int):=by grind [aP]
 unfold WK at cN;generalize mat n n f=R at*
 generalize aN (n+1) (dk f)=D at*
 generalize eF n f n=M at*
 generalize dk f n=d at*
 generalize q:d*B=I at*
 generalize wX f n B ex (n-1) [] true=E at*
 clear b j w t;refine aB func90 rfl ntmps90 (aC (k:=ai (f5 (aE e o) (k:=ao rfl (ak (f5 e (k:=bL [⟨1,_,_,_,cN⟩] (k:=aK (aE (U7 n) @Yq) (k:=ar (k:=ar (k:=?_)))))))))));refine bs.weak ((kO 10 0 0 0 35 1 (by omega) rfl rfl rfl).trans ((uo 9 1 (n:=n) rfl).trans ((du 8 11 (by decide) (by decide)).trans ((du 9 11 (by decide) (by decide)).trans ((du 10 11 (by decide) (by decide)).trans (du 5 11 (by decide) (by decide))))))) ?_;refine bs.weak (aj (tm:=(jk::.raw (.int .i64 B)::jk::jk::jk::.one (.ptr 11 6 0 0)::jk::rN n::.one (.ptr 11 1 0 0)::.one (.ptr 11 2 0 0)::.one (.ptr 11 4 0 0)::.one (.ptr 11 0 0 0)::j16 (j4 (j4 (j4 (jk::jk::[])))))) (l:=[(11,[⟨182,1,[[.raw .nilFunc]]⟩,⟨180,2,[[.p (.sl (ls fI D)),.p (.sl (ls (fR fI) M))]]⟩,⟨35,1,[[.sl 11 3 0 n]]⟩,⟨2,1,fK n++lc fI []⟩,⟨26,1,[[.sl 11 5 0 0]]⟩,⟨35,1,lc (fR fI) []⟩,⟨4,1,[[.raw (.bool ex)]]⟩])]) ⟨?_,trivial⟩ (by simp[wk,mb,fi,oE,aw])) ?_
 ·simp[aw,qS,fi,oE,zH];exact⟨by simp[fK,lc,fi],rfl⟩
 refine aK (aE @iK.eq_1 @kD.eq_1) (k:=ai (Gf (mK ch g 11 [] [] (by kernel_rfl) (by omega) (by kernel_rfl) fun K s=>?_)));simp(disch:=omega) only[kd,YW,aa,Nat.reduceSub,y,h,q,aP];refine s _ ⟨⟨rfl,?_⟩,?_⟩
 ·grind [tz,aI,zR]
 clear s K;show bs _ _ _ _;refine aK (aE @En.eq_1 (aE @mw.eq_1 (aE @YW (aE @Nat.reduceSub (aE @SD.eq_1 (aE @pR.eq_1 (aE @my.eq_1 @gU))))))) (k:=?_);refine aZ ⟨.inr rfl,_,un 11 5 (o0:=⟨35,1,lc (fR fI) E⟩) rfl (bi _ _ _),lj (d:=1000) rfl ?_ rfl⟩;simp(disch:=omega) only[kd,results90,GM,gy,Nat.reduceEqDiff,reduceCtorEq,dq]
 simp
end
end
section
structure ug (P:Program) (t kt et:TypeId):Prop where
 ht:P.underlying t=some (.map kt et)
 hk:P.underlying kt=some (.int .i64)
 he:P.underlying et=some (.int .i64)
 hz: ∀w:World,(zeroValue et).run P w= .ok (.int .i64 0) w
abbrev MapS:=Nat×(Int->Int)
def uf (P:Program) (c b:TypeId) (r:Nat) (g:MapS) (w:World):Prop:= ∃D:DataW Unit,Maps.IsMap D/\w.ownsMap P c (plainElem P b) r g.1 D/\ ∀k,I64 k->D.atKey (.int .i64 k) (.lit (.int .i64 0))= .lit (.int .i64 (g.2 k))
section
variable {P:Program} {t kt et:TypeId} {r:Nat} {g:MapS} {a:Act} {w0 w w':World} {O X Y:Nat->Prop} {s s':AS} {ks:List Nat}
theorem uf.same (h:w'.heap[r]?=w.heap[r]?) (j:uf P kt et r g w):uf P kt et r g w':=by
 obtain⟨D,n,⟨e,b,l,m,o,f⟩,c⟩:=j;exact⟨D,n,⟨e,b,h.trans l,m,o,f⟩,c⟩
theorem uf.lt (c:uf P kt et r g w):r<w.heap.size:=by
 obtain⟨D,f,b,e⟩:=c;exact b.lt
def l4 (P:Program) (kt et:TypeId) (r:Nat):gM MapS:=⟨fun j=>j=r,fun g _ w=>uf P kt et r g w,fun _ _ _ _ h _ b=>b.same (h r rfl)⟩
def m8 (g:MapS) (k z:Int):MapS:=(g.1+1,fun j=>if j=k then z else g.2 j)
theorem C9 (T:ug P t kt et) {x m:Operand} {k:Int} (q:j.op= .lookup t x m false) (I:s.ev x=some (.raw (.map (some r)))) (G:s.ev m=some (.raw (.int .i64 k))) (y:I64 k):
  zg P j (eK (l4 P kt et r) Y w0 O X g s) (eK (l4 P kt et r) Y w0 O X g (s.put j.dst (.raw (.int .i64 (g.2 k))))):=fun a w K Q ⟨H,C,F,v⟩ E=>by
 obtain⟨B,u,J,f,b⟩:=H;have b:aT X J s a w:=b;have n:uf P kt et r g w:=v;obtain⟨D,L,h,p⟩:=n;obtain⟨c,l,e,_⟩:=h.lookup_int (abs T.hk) T.ht T.he (T.hz w) (Maps.keyOf_int_mk T.hk (abf y));rw[p k y]at e;injection e with e
 injection e with _ e
 subst e;have z:a.eval x= .map (some r):=(aU (bf b x _ I)).1;have A:a.eval m= .int .i64 k:=(aU (bf b m _ G)).1;refine js (.inl rfl) ?_;unfold Oper.wp;simp[execOp,q,z,A,l,Result.andThen];exact E _ _ ⟨dY B u f b (bO.raw _ rfl),C,F,v⟩
theorem Da (T:ug P t kt et) {m c v:Operand} {k:Int} (H:j.op= .mapUpdate t m c v) (L:j.dst=none) (hm:s.ev m=some (.raw (.map (some r)))) (hx:s.ev c=some (.raw (.int .i64 k))) (hv:s.ev v=some (.raw (.int .i64 x))) (hk:I64 k) (hz:I64 x) (hn:g.1<maxLen):
  zg P j (eK (l4 P kt et r) Y w0 O X g s) (eK (l4 P kt et r) Y w0 O X (m8 g k x) s):=fun a w K Q ⟨N,J,Z,V⟩ W=>by
 obtain⟨h1,aa,ρ,M,l⟩:=id N;have l:aT X ρ s a w:=l;have A:uf P kt et r g w:=V;obtain⟨D,p,u,E⟩:=A;have n:=Maps.keyOf_int_mk T.hk (abf hk);obtain⟨w',y,q,f⟩:=u.update (abs T.hk) T.ht hn n (plainElem_int T.he (abf hz));have R:a.eval m= .map (some r):=(aU (bf l m _ hm)).1;have S:a.eval c= .int .i64 k:=(aU (bf l c _ hx)).1;have U:a.eval v= .int .i64 x:=(aU (bf l v _ hv)).1;have I:de w0 O X s a w':=de.turn (B:=fun b=>b=r) N J ⟨f.os,f.tape,f.output,f.size,fun b F G=>f.block b F fun e=>G (by injection e)⟩;have C:uf P kt et r (m8 g k x) w':=by
  refine⟨_,p.put _ _,q,fun b F=>?_⟩;show _=DataW.lit (Lit.int .i64 (if b=k then x else g.2 b));by_cases e:b=k
  ·subst e;rw[if_pos rfl];exact Maps.atKey_put_same p ((abs T.hk).key n) _ _
  rw[if_neg e];rw[Maps.atKey_put_other (fun h=>e (by injection h))];exact E b F
 refine js (.inl rfl) ?_;unfold Oper.wp;simp[execOp,H,R,S,U,y,Result.andThen];have:=W undef w';rw[L]at this;show K (a.put j.dst undef) w';rw[L];exact this ⟨I,J,Z,C⟩
/-! A drawn region with a call or a look-up in the middle and a last operation behind all others. -/
def ET (b:Array Oper) (m:Nat) (s:AS):Option (TypeId×TV×TV):=match b[m]? with
 |some o=>match o.guard,o.op with
  |none,.lookup t x c false=>match s.ev x,s.ev c with
   |some u,some v=>some (t,u,v)
   |_,_=>none
  |_,_=>none
 |none=>none
def UW (b:Array Oper) (m:Nat) (s:AS):Option (TypeId×TV×TV×TV):=match b[m]? with
 |some o=>match o.guard,o.dst,o.op with
  |none,none,.mapUpdate t y x v=>match s.ev y,s.ev x,s.ev v with
   |some u,some k,some z=>some (t,u,k,z)
   |_,_,_=>none
  |_,_,_=>none
 |none=>none
theorem P8 {f:List Nat} (h:qU (Ap e n) f s s'):ET e n s'=ET e n s:=by
 unfold ET;have c:=h.1;unfold Ap at c;cases l:e[n]? with
 |none=>rfl
 |some o=>
  rw[l]at c;simp only at c⊢;have b: ∀y∈o.op.operands,s'.ev y=s.ev y:=fun y p=>by
   cases y with
   |tmp k=>exact c k (aaV.2 ⟨.tmp k,by simpa using p,rfl⟩)
   |_=>rfl
  split
  ·rename_i t x q u j;rw[j]at b;rw[b x (by simp[Op.operands]),b q (by simp[Op.operands])]
  rfl
theorem sS (T:ug P t kt et) {k:Int} (h:ET e n s=some (t,.raw (.map (some r)),.raw (.int .i64 k))) (y:I64 k):uh P e n (eK (l4 P kt et r) Y w0 O X g s) (eK (l4 P kt et r) Y w0 O X g (s.put (mw e n) (.raw (.int .i64 (g.2 k))))):=by
 unfold ET at h;split at h
 case h_2=>cases h
 rename_i o c;split at h
 case h_2=>cases h
 rename_i B x A p b;split at h
 case h_2=>cases h
 rename_i u v z q;injection h with h
 injection h with f h
 injection h with j l
 subst f j l;refine⟨o,c,p,?_⟩;unfold mw;rw[c];exact C9 T b z q y
theorem C8 (T:ug P t kt et) {k:Int} (h:UW e n s=some (t,.raw (.map (some r)),.raw (.int .i64 k),.raw (.int .i64 x))) (B:I64 k) (H:I64 x) (C:g.1<maxLen):uh P e n (eK (l4 P kt et r) Y w0 O X g s) (eK (l4 P kt et r) Y w0 O X (m8 g k x) s):=by
 unfold UW at h;split at h
 case h_2=>cases h
 rename_i o D;split at h
 case h_2=>cases h
 rename_i J y b v A q c;split at h
 case h_2=>cases h
 rename_i u I K G F E;injection h with h
 injection h with f h
 injection h with j h
 injection h with l p
 subst f j l p;exact⟨o,D,A,Da T c q G F E B H C⟩
variable {Q:Exit->AS->MapS->Prop}
theorem Io (p:P.follows .mixedOrders=true) (T:ug P t kt et) (m d:Nat) (k z:Int) (b:List (an P)) (f:List Nat) {id:Nat} (o:da ks e=true) (l:MH e m (e.size-1) []=true) (n:mw e m=some d) (u:I64 k) (D:I64 z) (B:g.1<maxLen) (h: ∀K:AS->Prop,(∀j,(ET e m j=some (t,.raw (.map (some r)),.raw (.int .i64 k))/\ ∀K:AS->Prop,(∀c,(UW e (e.size-1) c=some (t,.raw (.map (some r)),.raw (.int .i64 k),.raw (.int .i64 z))/\Q .normal c (m8 g k z))->K c)->aV P (b.map an.a) f (aJ e ((e.toList.take (e.size-1)).drop (m+1)) (m+1)) (some (j.put (some d) (.raw (.int .i64 (g.2 k))))) K)->K j)->aV P (b.map an.a) f (aJ e (e.toList.take m) 0) (some s) K):dT P (l4 P kt et r) ks (.region id e true) Q s g:=fun v Y w0 O X a w J=>by
 obtain⟨j,x,E,F⟩:=aO P (b.map an.a) f e _ 0 s _ (h _ fun j q=>q);obtain⟨c,y,G,H⟩:=aO P (b.map an.a) f e _ (m+1) _ _ (F _ fun c q=>q);have A:m<e.size-1:=by
  simp only[MH,Yh,decide_eq_true_eq]at l;exact l.1
 refine BZ (R1:=jm (l4 P kt et r) ks v Y w0 O X g) (R2:=jm (l4 P kt et r) ks v Y w0 O X (m8 g k z)) fp p b f m (e.size-1) [] (.raw (.int .i64 (g.2 k))) o l x (fun s' C M=>?_) (by rw[n];exact y) (fun _=>pc o (C8 T G u D B)) (fun h=>by omega) J fun L w' I=>⟨c,_,H,I⟩
 exact pc o (sS T ((P8 C).trans E) u)
theorem DX (T:ug P t kt et) (m d:Nat) (k:Int) (b:List (an P)) (c:List Nat) {id:Nat} (l:da ks e=true) (x:m<e.toList.length) (j:mw e m=some d) (v:I64 k) (h: ∀K:AS->Prop,(∀f,(ET e m f=some (t,.raw (.map (some r)),.raw (.int .i64 k))/\ ∀K:AS->Prop,(∀s',Q .normal s' g->K s')->aV P (b.map an.a) c (aJ e (e.toList.drop (m+1)) (m+1)) (some (f.put (some d) (.raw (.int .i64 (g.2 k))))) K)->K f)->aV P (b.map an.a) c (aJ e (e.toList.take m) 0) (some s) K):dT P (l4 P kt et r) ks (.region id e false) Q s g:=fun n Y w0 O X a w B=>by
 obtain⟨f,o,y,z⟩:=aO P (b.map an.a) c e _ 0 s _ (h _ fun f q=>q);obtain⟨s',p,u⟩:=aO P (b.map an.a) c e _ (m+1) _ _ (z (fun s=>Q .normal s g) fun _ h=>h);refine qH (R1:=jm (l4 P kt et r) ks n Y w0 O X g) (R2:=jm (l4 P kt et r) ks n Y w0 O X g) fp fp m b c l x o (pc l (sS T y v)) (by rw[j];exact p) B fun C w' A=>⟨s',g,u,A⟩
end
end
section
section
variable {P:Program} {t kt et:TypeId} {g:MapS} {a:Act} {w0 w w':World} {O X:Nat->Prop} {s s':AS}
theorem de.lendnew (h:de w0 O X s a w) (e:Ext w w') (E:w.heap.size<=n) (J:n<w'.heap.size):de w0 (fun j=>O j\/j=n) (fun j=>X j\/j=n) s a w':=by
 obtain⟨I,B,m,f,C⟩:=h;have z: ∀b,b<w.heap.size->Xo (fun j=>X j\/j=n) m s.H b->Xo X m s.H b:=fun b l h=>by
  rcases h with(h|h)|h
  ·exact .inl h
  ·omega
  exact .inr h
 have mono: ∀x v,AV.rel m s.H (Xo X m s.H) w x v->AV.rel m s.H (Xo (fun j=>X j\/j=n) m s.H) w' x v:=pC fun x v A h=>by
  cases x with
  |fn=>cases A
  |p x=>exact bO.stays (Ext.stays e) (bO.weaken z h)
  |sl x n K len=>exact h
  |ptr x n i j=>exact h
  |junk=>trivial
 refine⟨I,B,m,⟨⟨e.os.trans f.keep.os,e.tape.trans f.keep.tape,e.output.trans f.keep.output,XQ f.keep.size e.size,fun j D A=>?_⟩,fun x y o u=>?_,f.inj,fun x y o b c u l=>?_,fun b l=>?_,f.self⟩,fun t x q=>?_⟩
 ·rw[e.block j (XZ D f.keep.size)];exact f.keep.block j D fun h=>A (.inl h)
 ·exact dx (f.objs x y o u) rfl (fun b c l=>e.block b (bI (f.objs x y o u) l)) (fun _ _ E=>mono _ _ E)
 ·obtain⟨F,G⟩:=f.old x y o b c u l;refine⟨F.imp id .inl,fun q=>?_⟩;rcases q with q|q
  ·exact G q
  have:=bI (f.objs x y o u) l;omega
 ·rcases l with l|l
  ·exact XZ (f.bar b l) e.size
  omega
 obtain⟨v,L,M⟩:=C t x q;exact⟨v,L,TV.rel_map M mono⟩
theorem de.unlend (h:de w0 (fun j=>O j\/j=n) (fun j=>X j\/j=n) s a w) (C:w0.heap.size<=n):de w0 O X s a w:=by
 obtain⟨F,z,f,e,A⟩:=h;have m: ∀b,b<w.heap.size->Xo X f s.H b->Xo (fun j=>X j\/j=n) f s.H b:=fun b l h=>by
  rcases h with h|h
  ·exact .inl (.inl h)
  exact .inr h
 have mono: ∀x v,AV.rel f s.H (Xo (fun j=>X j\/j=n) f s.H) w x v->AV.rel f s.H (Xo X f s.H) w x v:=pC fun x v q h=>by
  cases x with
  |fn=>cases q
  |p x=>exact bO.weaken m h
  |sl x n I len=>exact h
  |ptr x n i j=>exact h
  |junk=>trivial
 refine⟨F,z,f,⟨⟨e.keep.os,e.keep.tape,e.keep.output,e.keep.size,fun j G q=>e.keep.block j G fun h=>?_⟩,fun x y o u=>?_,e.inj,fun x y o b c u l=>?_,fun b l=>e.bar b (.inl l),e.self⟩,fun t x B=>?_⟩
 ·rcases h with h|h
  ·exact q h
  omega
 ·exact dx (e.objs x y o u) rfl (fun b c l=>rfl) (fun _ _ C=>mono _ _ C)
 ·obtain⟨D,E⟩:=e.old x y o b c u l;refine⟨?_,fun B=>E (.inl B)⟩;rcases D with g|g|g
  ·exact .inl g
  ·exact .inr g
  exact .inl (by omega)
 obtain⟨v,J,K⟩:=A t x B;exact⟨v,J,TV.rel_map K mono⟩
def y8 (P:Program) (kt et:TypeId) (f:FuncId) (args:List TV) (g:MapS):Prop:=
 callable P f=true/\ ∀(X:Nat->Prop) (w:World) (vs:Array Value),(∀b,X b->b<w.heap.size)->vs.size=args.length->
  (∀(j:Nat) t,args[j]?=some t-> ∃v:Value,vs[j]?=some v/\t.rel (fun _ _=>none) (fun _=>[]) X w v)->
  Calls P f vs w fun e w'=> ∃r,e= .returned (.map (some r))/\w.heap.size<=r/\uf P kt et r g w'/\Keep (fun _=>False) w w'
theorem ID {fn:Func} {y:Code} {id:Nat} {args:List TV} (hf:P.funcs[h]?=some fn) (hb:fn.body=some (.seq f (.seq (.region id e false) y))) (hn:callable P h=true) {d:Nat} {S1:AS} (B:List (an P)) (ow:List Nat) (h0:bs P f (fun l s'=>l= .normal/\bv s' S1) ⟨args++ae (fn.ntmps-args.length) .undef,fun _=>[]⟩) (H: ∃o,e[0]?=some o/\o.guard=none/\o.op= .makeMap t none/\o.dst=some d) (J: ∀(r:Nat) (K:AS->Prop),(∀s',dT P (l4 P kt et r) [] y (fun l s' g'=>(l= .normal\/l= .ret)/\g'=g/\ ∃U,bv s' U/\o7 P U fn.results.toList=some (.raw (.map (some r)))) s' (0,fun _=>0)->K s')->aV P (B.map an.a) ow (aJ e (e.toList.drop 1) 1) (some (S1.put (some d) (.raw (.map (some r))))) K):y8 P kt et h args g:=by
 refine⟨hn,fun X w vs hX ap G=>?_⟩;refine calls_of_wp hf hb ?_;have R:de w (fun _=>False) X ⟨args++ae (fn.ntmps-args.length) .undef,fun _=>[]⟩ {tmps:=vs++Array.replicate (fn.ntmps-vs.size) undef,defers:=[]} w:=by
  refine⟨rfl,by simp[ap],fun _ _=>none,⟨Keep.refl w,fun a r o C=>by simp at C,fun a r a' r' o o' b c c' C=>by simp at C,fun a r o b c C=>by simp at C,hX,fun a r o C=>by simp at C⟩,fun t x E=>?_⟩;have Z: ∀b,b<w.heap.size->Xo X (fun _ _=>none) (fun _=>[]) b->X b:=fun b _ m=>by
   rcases m with m|⟨a,r,o,c,J,Y⟩
   ·exact m
   cases Y
  by_cases ht:t<args.length
  ·rw[XS ht]at E;obtain⟨v,V,v2⟩:=G t x E;refine⟨v,by rw[X8 (by omega)];exact V,TV.rel_map v2 (fun y u T=>?_)⟩;cases y with
   |p y=>exact bO.weaken Z T
   |sl a r a7 len=>obtain⟨o,J,_⟩:=T;simp at J
   |ptr a r i j=>obtain⟨o,_,_,J,_⟩:=T;simp at J
   |fn h a qs=>exact(pL (fun _=>rfl) T).elim
   |junk=>trivial
  rw[XW (by omega),YF]at E;split at E
  ·rename_i a5;injection E with E
   subst E;refine⟨undef,?_,ee⟩;rw[Yi (by omega),Y8,if_pos (by omega)]
  cases E
 refine wp_seq (wp_mono (h0 _ _ _ _ _ R) fun l W q ⟨s1,⟨he,av⟩,D⟩=>?_);subst he;have D:=av _ _ _ _ _ D;have ac:Keep (fun _=>False) w q:=by obtain⟨_,_,ρ,z,_⟩:=D;exact z.keep
 show Code.wp P _ _ W q;obtain⟨o,C,hg,H,hd⟩:=H;have A:w.heap.size<=q.heap.size:=ac.size;obtain⟨U,Y,h3⟩:=aO P (B.map an.a) ow e _ 1 _ _ (J q.heap.size _ fun _ m=>m);refine wp_seq ((wpIn_wide (n:=0)).1 (wpIn_region (F:=FW none) ?_));have Q:e.size=1+(e.toList.drop 1).length:=by
  have:=(XV.1 C).1;simp;omega
 rw[Q,Ya,Z3 1,YM,wpOpsIn_cons];unfold wpOpIn;rw[C];simp only;rw[if_pos (by simp[Region.wanted,hg])];refine js (.inl rfl) ?_;unfold Oper.wp;simp only[execOp,H,Zo,XP,run_makeMap,XM,Yb];have M:Ext q (q.alloc (.map #[] 0)):=vk (World.grownBy_alloc q _ none);have ad:=D.lendnew M (XY _) (XV.1 (MapKept.heap_alloc q (.map #[] 0)).1).1;have hG:uf P kt et q.heap.size (0,fun _=>0) (q.alloc (.map #[] 0)):=⟨.map [],Maps.isMap_empty,World.ownsMap_made _ _ _ _,fun k _=>rfl⟩;obtain⟨q1,q2,ρ,q3,q4⟩:=ad;have af:eK (l4 P kt et q.heap.size) (fun _=>True) w (fun j=>False\/j=q.heap.size) (fun j=>X j\/j=q.heap.size) (0,fun _=>0) (S1.put (some d) (.raw (.map (some q.heap.size)))) (W.put o.dst (.map (some q.heap.size))) (q.alloc (.map #[] 0)):=by
  rw[hd];exact⟨dY q1 q2 q3 q4 (bO.raw _ rfl),fun j N=>⟨.inr N,.inr N⟩,fun _ _=>trivial,hG⟩
 obtain⟨wb,Ob,Xb,rb,kb⟩:=rE _ _ _ af;show wpOpsIn (FW none) 0 P e _ (List.range' (0+1) (List.drop 1 e.toList).length) (W.put o.dst (.map (some q.heap.size))) (q.alloc (.map #[] 0));rw[<- YI (List.range' (0+1) _)];refine Av (n:=0) (suf:=[]) (e.toList.drop 1) 1 _ U _ _ (fun j o N=>by
  rw[Yr]at N;simpa using N) Y rb (fun a2 w2 r2=>?_)
 show y.wp P _ a2 w2;refine wp_mono (h3 (fun _=>none) _ _ _ _ _ _ ⟨kb _ _ _ r2,fun _ hk=>by simp at hk⟩) fun l a3 w3 ⟨s3,g3,⟨aa,ab,s4,a0,S⟩,⟨ag,_,_,L⟩,_⟩=>?_
 subst ab;have ah:=a0 _ _ _ _ _ ag;have al:=(de.unlend (O:=fun _=>False) ah A);obtain⟨n1,a6,a4,z,I⟩:=al;have I:aT X a4 s4 a3 w3:=I;obtain⟨v,V,v2⟩:=fk z I S;have hv:=(aU v2).1;subst hv;rcases aa with rfl|rfl
 ·exact⟨n1,_,V,_,rfl,A,L,z.keep⟩
 exact⟨n1,_,V,_,rfl,A,L,z.keep⟩
theorem Tr {L:List TV} (q:de w0 O X s a w) (l:oI j s=some (h,L)) (n:y8 P kt et h L g) (hp: ∀t∈L,vY t=true) {d:Nat} (hd:j.dst=some d) {K:Act->World->Prop} {Q:Exit->Act->World->Prop} (hK: ∀r w',w0.heap.size<=r->eK (l4 P kt et r) (fun _=>True) w0 (fun b=>O b\/b=r) (fun b=>X b\/b=r) g (s.put (some d) (.raw (.map (some r)))) (a.put (some d) (.map (some r))) w'->K (a.put (some d) (.map (some r))) w'):j.wp P a w K Q:=by
 obtain⟨h1,aa,ρ,F,p⟩:=id q;have p:aT X ρ s a w:=p;have key: ∀vs:Array Value,(execOp a.eval j).run P w= .ok (.enter h vs) w->vs.size=L.length->(∀(b:Nat) t,L[b]?=some t-> ∃v:Value,vs[b]?=some v/\t.rel ρ s.H (Xo X ρ s.H) w v)->j.wp P a w K Q:=fun vs J Y z=>by
  unfold Oper.wp;rw[J];simp only[Oper.upon];refine(n.2 (fun _=>False) w vs (fun b C=>C.elim) Y fun b u hu=>?_).mono ?_
  ·obtain⟨v,v1,v2⟩:=z b u hu;exact⟨v,v1,sM (hp u (XH hu)) v2⟩
  rintro e w1 ⟨r,rfl,hr,hG,G⟩;have E:Ext w w1:=⟨G.os,G.tape,G.output,G.size,fun k V=>G.block k V id⟩;obtain⟨q1,q2,ab,q3,q4⟩:=q.lendnew E hr hG.lt;rw[hd];exact hK r w1 (XQ F.keep.size hr) ⟨dY q1 q2 q3 q4 (bO.raw _ rfl),fun b C=>⟨.inr C,.inr C⟩,fun _ _=>trivial,hG⟩
 unfold oI at l;split at l
 ·rename_i c I;split at l
  ·rename_i f' m;obtain⟨M,A,e⟩:=XI.1 l;injection e with e N
   subst e N;obtain⟨x,S⟩:=bU A;refine key _ (jS I m rfl n.1) (by simpa using x.symm) fun b t D=>?_
   obtain⟨y,Z,B⟩:=S b t D;refine⟨a.eval y,?_,bf p y _ B⟩;rw[YC];have:c.args[b]?=some y:=by simpa using Z
   rw[this];rfl
  ·rename_i k m;split at l
   ·rename_i f' T M U A;injection l with l
    injection l with e N
    subst e N;obtain⟨x,S⟩:=bU A;obtain⟨us,k1,k2,k3⟩:=jt (v:=a.eval (.tmp k)) (fun t0 W=>bf p (.tmp k) t0 W) U;refine key _ (jB I m k1 n.1) (by have R:=x;simp at R⊢;omega) fun b t D=>?_
    by_cases C:b<M.length
    ·rw[XS C]at D;obtain⟨y,Z,B⟩:=S b _ D;refine⟨a.eval y,?_,bf p y _ B⟩;rw[X8 (by simp at x⊢;omega),YC];have:c.args[b]?=some y:=by simpa using Z
     rw[this];rfl
    rw[XW (by omega)]at D;obtain⟨v,v1,v2⟩:=k3 _ _ D;refine⟨v,?_,v2⟩;rw[Yi (by simp at x⊢;omega)];simp at x⊢;rw[<- x];exact v1
   cases l
  cases l
 cases l
theorem Ph (m d:Nat) {args:List TV} (z:y8 P kt et h args g) (l:List (an P)) (B:List Nat) {id:Nat} {Q:Exit->AS->Prop} (C:m<e.toList.length) (u:mw e m=some d) (c: ∀K:AS->Prop,(∀x,(cxTs e m x=some (h,args)/\(∀t∈args,vY t=true)/\ ∀(r:Nat) (K:AS->Prop),(∀s',dT P (l4 P kt et r) [] f (fun b s' _=>Q b s') s' g->K s')->aV P (l.map an.a) B (aJ e (e.toList.drop (m+1)) (m+1)) (some (x.put (some d) (.raw (.map (some r))))) K)->K x)->aV P (l.map an.a) B (aJ e (e.toList.take m) 0) (some s) K):bs P (.seq (.region id e false) f) Q s:=fun w0 O X a w r0=>by
 obtain⟨x,L,p,W,Y⟩:=aO P (l.map an.a) B e _ 0 s _ (c _ fun x q=>q);obtain⟨o,E⟩: ∃o,e[m]?=some o:=⟨e[m],by simp at C;simp[C]⟩;unfold cxTs at p;rw[E]at p;simp only at p;have A:o.guard=none:=by
  split at p
  ·rename_i A;simpa using A
  cases p
 rw[A]at p;simp only[YX,if_true]at p;have S:o.dst=some d:=by unfold mw at u;rw[E]at u;exact u
 refine wp_seq ((wpIn_wide (n:=0)).1 (wpIn_region (F:=FW none) ?_));have I:e.size=(e.toList.take m).length+(1+(e.toList.drop (m+1)).length):=by simp at C⊢;omega
 rw[I,Ya,<- Zg,Yw];have D:(e.toList.take m).length=m:=by rw[Y9];omega
 refine Av (e.toList.take m) 0 s x a w (fun j o v=>?_) L r0 fun a' w' Z=>?_
 ·rw[Yl]at v;split at v
  ·simpa using v
  cases v
 rw[D,Z3 1,YM,wpOpsIn_cons];unfold wpOpIn;rw[E];simp only;rw[if_pos (by simp[Region.wanted,A])];refine js (.inl rfl) (Tr Z p z W S fun r w1 U G=>?_);obtain⟨s2,M,N⟩:=aO P (l.map an.a) B e _ (m+1) _ _ (Y r _ fun _ c=>c);obtain⟨wb,Ob,Xb,rb,V⟩:=rE _ _ _ G;rw[<- YI (List.range' (m+1) _)];refine Av (n:=0) (suf:=[]) (e.toList.drop (m+1)) (m+1) _ s2 _ _ (fun j o v=>by
  rw[Yr]at v;simpa using v) M rb (fun J w2 r2=>?_)
 show f.wp P _ J w2;exact wp_mono (N (fun _=>none) _ _ _ _ _ _ ⟨V _ _ _ r2,fun _ T=>by simp at T⟩) fun b a3 w3 ⟨s3,g3,R,⟨H,_,_,_⟩,_⟩=>⟨s3,R,de.unlend H U⟩
end
end
section
theorem Sl:ug prog 79 2 2:=⟨by kernel_rfl,by kernel_rfl,by kernel_rfl,fun w=>by kernel_rfl⟩
def gF (nm:List Int->Int) (g:MapS) (l:List (List Int)):MapS:=l.foldl (fun g z=>m8 g (nm z) (g.2 (nm z)+1)) g
theorem TO (nm:List Int->Int) (g:MapS) (l m:List (List Int)):gF nm g (l++m)=gF nm (gF nm g l) m:=List.foldl_append
def GB (g:MapS):Prop:= ∀j,0<=g.2 j/\g.2 j<=(g.1:Int)
theorem GB.step {g:MapS} (h:GB g) (k:Int):GB (m8 g k (g.2 k+1)):=fun j=>by
 have:=h j;have:=h k;show 0<=(if j=k then g.2 k+1 else g.2 j)/\(if j=k then g.2 k+1 else g.2 j)<=((g.1+1:Nat):Int);omega
theorem L1 {nm:List Int->Int}: ∀(l:List (List Int)) {g:MapS},GB g->GB (gF nm g l)/\(gF nm g l).1=g.1+l.length
 |[],g,h=>⟨h,rfl⟩
 |z::l,g,h=>by
  obtain⟨b,c⟩:=L1 (nm:=nm) l (h.step (nm z));refine⟨b,c.trans ?_⟩;show g.1+1+l.length=_;grind
abbrev Gu (a n m:Nat) (y:List Int) (I:List (Int×Int)) (R:List (List Int)) (r nx:Nat):List OObj:=[⟨131,1,[[.fn 95 a [(1,0,0),(2,0,0),(3,0,0),(0,0,0),(5,0,0),(6,0,0)]]]⟩,⟨76,1,[[.p (.sl (ls fV I))]]⟩,⟨3,1,[[.p (.raw (.int .i64 (nx:Int)))]]⟩,⟨35,1,[[.sl a 4 0 n]]⟩,⟨2,1,fK m++lc fI y⟩,⟨79,1,[[.p (.raw (.map (some r)))]]⟩,⟨26,1,[[.p (.sl (ls (fR fI) R))]]⟩]
theorem Gv (a d n m:Nat) (y:List Int) (I:List (Int×Int)) (R:List (List Int)) (r nx:Nat):(Gu a n m y I R r nx).map (renO d)=Gu d n m y I R r nx:=by
 simp only[Gu,X9,Yu,renO,b6,jL,YN,gU,aa3,YD,if_false]
theorem BN (a n m:Nat) (y:List Int) (I:List (Int×Int)) (R:List (List Int)) (r nx:Nat): ∀o∈Gu a n m y I R r nx,selfO a o:=fun o f e b x c=>by
 simp only[Yo,Y3,or_false]at f;rcases f with rfl|rfl|rfl|rfl|rfl|rfl|rfl
 ·simp only[XT]at b;subst b;simp only[XT]at c;subst c;exact⟨rfl,by simp⟩
 ·simp only[XT]at b;subst b;simp only[XT]at c;subst c;trivial
 ·simp only[XT]at b;subst b;simp only[XT]at c;subst c;trivial
 ·simp only[XT]at b;subst b;simp only[XT]at c;subst c;rfl
 ·simp only[YK]at b;rcases b with b|b
  ·obtain⟨_,rfl⟩:=Zz.1 b;simp only[XT]at c;subst c;trivial
  exact ck (bi 2 1 _ e b x c)
 ·simp only[XT]at b;subst b;simp only[XT]at c;subst c;trivial
 simp only[XT]at b;subst b;simp only[XT]at c;subst c;trivial
abbrev U4:List (Nat×Nat):=[(1,1),(2,2),(3,3),(0,4),(5,5),(6,6)]
theorem Ts (a n m f:Nat) (y g:List Int) (I:List (Int×Int)) (R:List (List Int)) (r nx b:Nat): ∀q∈U4.map Prod.fst,∀o,(Gu a n m y I R r nx)[q]?=some o-> ∃c,(Gu a n f g I R r b)[q]?=some c/\c.es=o.es/\o.elems.length<=c.elems.length:=fun q e o h=>by
 simp only[U4,X9,Yu,Yo,Y3,or_false]at e;rcases e with rfl|rfl|rfl|rfl|rfl|rfl<;>(grind)
abbrev Xx (k:Nat):List TV:=[.raw (.int .i64 (k:Int)),.one (.ptr 0 1 0 0),.one (.ptr 0 2 0 0),.one (.ptr 0 3 0 0),.one (.ptr 0 0 0 0),.one (.ptr 0 5 0 0),.one (.ptr 0 6 0 0)]
abbrev jh (n:Nat) (f:FF) (z:List Int):Int:=KB f z n n
abbrev Vf (n:Nat) (f:FF) (B:Int) (r:Nat) (I:List (Int×Int)) (k:Nat) (y:List Int) (nx:Nat) (g:MapS):Prop:=
 kL prog (l4 prog 2 2 r) (U4.map Prod.fst) 95 (Xx k) (Gu 0 n (k+1) y I (mat n n f) r nx) (Gu 0 n (k+1) y I (mat n n f) r (nx+(pf f n B k y).length)) g (gF (jh n f) g (fm f n B (k+1) y)) (.tup [])
theorem KR {m:Nat} {I:List (Int×Int)} {r nx:Nat} (e:s.H 0=Gu 0 n m (x::b) I c r nx):bv s ⟨s.tmps,aw s.H 0 (Gu 0 n (m+1) b I c r nx)⟩:=by
 have h:=lE (s:=s) 0 4 (o:=⟨2,1,fK m++lc fI (x::b)⟩) (o':=⟨2,1,fK (m+1)++lc fI b⟩) (by rw[e];rfl) rfl rfl (by simp only[i9,Ym];omega) fun i f g=>by
  rw[<- mV m x b];grind [fK]
 grind
theorem Ip {P:Program} {l:Type} {L:gM l} {b:l} {Q:Exit->AS->l->Prop} (j:P.follows .mixedOrders=true) (c:List (an P)) (m:List Nat) {id:Nat} (o:bX [] e=true) (p:da g e=true) (h: ∀K:AS->Prop,(∀n,dT P L g f Q n b->K n)->aV P (c.map an.a) m (aJ e e.toList 0) (some s) K):dT P L g (.seq (.region id e true) f) Q s b:=bP (In j c m o p h)
theorem uv {P:Program} {j:Type} {L:gM j} {b:j} {Q:Exit->AS->j->Prop} (c:P.follows .mixedOrders=true) {id:Nat} (m:bX [] e=true) (n:da g e=true) (h: ∀K:AS->Prop,(∀l,dT P L g f Q l b->K l)->aV P [] [] (aJ e e.toList 0) (some s) K):dT P L g (.seq (.region id e true) f) Q s b:=Ip c [] [] m n h
structure W8 (lo hi:Int) (h:Int->List (List Int)) (em:Int->List (Int×Int)) (I post:List (Int×Int)) (nm:List Int->Int) (G:MapS) (tot:Nat) where
 x:Int
 pre:List (Int×Int)
 g:MapS
 h1:lo<=x
 h2:x<=hi+1
 eI:I=pre++(rng x hi).flatMap em++post
 eg:gF nm g ((rng x hi).flatMap h)=G
 hb:GB g
 hl:g.1+((rng x hi).flatMap h).length<=tot
theorem VM (m:Nat) (x:Int) (y:List Int):(fK m++lc fI (x::y))[m]?=some [.p (.raw (.int .i64 x))]:=by
 grind [fK,lc,fI]
theorem I5 (m:Nat) (x z:Int) (y:List Int):(fK m++lc fI (x::y)).set m [.p (.raw (.int .i64 z))]=fK m++lc fI (z::y):=by
 simp_all[fK,lc,fI]
section
variable {n:Nat} {f:FF} {B:Int}
theorem Sd (hv:mD n f B) (r k:Nat) (y:List Int) (I pre post:List (Int×Int)) (g:MapS) (hk:y.length+(k+1)=n) (hT:oy y) (hP:fO f n B (k+1) (aR n y)) (hI:I=pre++pf f n B k y++post) (a6:I.length<=4000000) (hb:GB g) (S:g.1+(fm f n B (k+1) y).length<=4000000)
  (hN:k=0-> ∀c,dR f n B k (aR n y)<=c->c<=eQ f n B k (aR n y)->CallC prog 40 [dq (mat n n f),rV (c::y)] ⟨[],.raw (.int .i64 (jh n f (c::y)))⟩/\I64 (jh n f (c::y)))
  (X: ∀j,k=j+1-> ∀c F L N,dR f n B k (aR n y)<=c->c<=eQ f n B k (aR n y)->I=F++pf f n B j (c::y)++L->GB N->N.1+(fm f n B (j+1) (c::y)).length<=4000000->Vf n f B r I j (c::y) F.length N):Vf n f B r I k y pre.length g:=by
 have bd:=hv.n8;have a2:=hv.lohi hk hT hP;have a4:=Rq (m:=y.length+1) (by omega);have hS: ∃H:Int->List (Int×Int),pf f n B k y=(dR f n B k (aR n y),eQ f n B k (aR n y))::(rng (dR f n B k (aR n y)) (eQ f n B k (aR n y))).flatMap H/\(k=0-> ∀c,H c=[])/\ ∀j,k=j+1-> ∀c,H c=pf f n B j (c::y):=by
  cases k with
  |zero=>exact⟨fun _=>[],by show[_]=_;simp,fun _ _=>rfl,fun j e=>absurd e (by omega)⟩
  |succ j=>
   refine⟨_,rfl,fun e=>absurd e (by omega),fun j' e c=>?_⟩;grind
 obtain⟨H,hS,P,Q⟩:=hS;have hE:fm f n B (k+1) y=(rng (dR f n B k (aR n y)) (eQ f n B k (aR n y))).flatMap fun c=>fm f n B k (c::y):=rfl
 have a9:k=0-> ∀c,fm f n B k (c::y)=[c::y]:=fun e c=>by subst e;rfl
 have ah: ∀j,k=j+1-> ∀c,fm f n B k (c::y)=fm f n B (j+1) (c::y):=fun j e c=>by subst e;rfl
 unfold Vf at*
 rw[hS]at hI⊢;rw[hE]at S⊢;clear hv hP hT hS hE;generalize T:(fun c=>fm f n B k (c::y))=h at*
 have al: ∀c,h c=fm f n B k (c::y):=fun c=>by rw[<- T]
 clear T;generalize dR f n B k (aR n y)=t at*
 generalize eQ f n B k (aR n y)=o at*
 generalize mat n n f=R at*
 have bc: -46911780290560<=t/\t<=46911780290560:=by omega
 have ba: -46911780290560<=o/\o<=46911780290560:=by omega
 have V:t<=o+1:=by omega
 clear a2 a4;have O:I[pre.length]?=some (t,o):=by
  grind
 have bh:pre.length<I.length:=(XN.1 O).1;have ad:I=(pre++[(t,o)])++(rng t o).flatMap H++post:=by grind
 have s:pre.length+((t,o)::(rng t o).flatMap H).length=I.length-post.length:=by
  grind
 rw[s];clear s hI;refine pD func95 rfl (by kernel_rfl) U4 (by simp) (by simp[selfTV,bz]) (by simp[selfTV]) (BN 0 _ _ _ _ _ _ _) (BN 0 _ _ _ _ _ _ _) (Ts 0 _ _ _ _ _ _ _ _ _ _) ?_;rw[ntmps95];refine dT.weak (aj (tm:=(.raw (.int .i64 (k:Int))::.one (.ptr 0 1 0 0)::.one (.ptr 0 2 0 0)::.one (.ptr 0 3 0 0)::.one (.ptr 0 0 0 0)::.one (.ptr 0 5 0 0)::.one (.ptr 0 6 0 0)::j16 (j16 (j4 (jk::jk::[]))))) (l:=[(0,Gu 0 n (k+1) y I R r pre.length)]) ⟨rfl,trivial⟩ (by simp[wk,ae])) ?_;refine dK (aE O @fV.eq_1) (k:=?_);have e1:IntKind.i64.wrap ((pre.length:Int)+1)=((pre.length+1:Nat):Int):=aP (by omega) (by omega);refine dK e1 (k:=?_);have J:=i9 (k+1) y;have q:=mV k t y;have b:(fK (k+1)++lc fI y)[k]?=some [.junk]:=by
  grind [fK]
 refine dK (aE b q) (k:=?_);clear J q b e1;generalize ac:gF (jh n f) g ((rng t o).flatMap h)=GT at*
 refine jD (G:=W8 t o h H I post (jh n f) GT 4000000) (fun v=>⟨(.raw (.int .i64 (k:Int))::.one (.ptr 0 1 0 0)::.one (.ptr 0 2 0 0)::.one (.ptr 0 3 0 0)::.one (.ptr 0 0 0 0)::.one (.ptr 0 5 0 0)::.one (.ptr 0 6 0 0)::jk::.one (.ptr 8 0 0 0)::j16 (j16 (j4 ([])))),Hm [(0,Gu 0 n k (v.x::y) I R r v.pre.length),(8,[⟨133,2,[[.p (.raw (.int .i64 t)),.p (.raw (.int .i64 o))]]⟩])]⟩) (fun v=>v.g) (fun v=>(o+1-v.x).toNat) ⟨t,pre++[(t,o)],g,aaa _,V,ad,ac,hb,S⟩ ?_ rfl ?_
 ·refine aj ⟨?_,rfl,trivial⟩ ?_
  ·simp only[YJ,Ym,Zu];rfl
  simp[wk]
 rintro⟨x,E,A,Z,bl,M,z,C,w⟩;simp only;have bm: -46911780290560<=x/\x<=46911780290561:=by omega
 have J:(fK k++lc fI (x::y)).length=n:=by rw[i9,Ym];omega
 have b:=VM k x y;have D:k<n:=by omega
 by_cases Y:x<=o
 ·rw[gC Y,aaA]at M z w;rw[TO]at z;rw[YJ]at w;refine bP (uv ch (by kernel_rfl) (by kernel_rfl) fun _ K=>?_);simp(disch:=omega) only[kd,aa,reduceCtorEq,D,b];apply K;refine f4 rfl (dJ ?_);refine bP (fo ?_);have q:=I5 k x (x+1) y;cases k with
  |zero=>
   obtain⟨cN,af⟩:=hN rfl x Z Y;have ap:h x=[x::y]:=by grind
   rw[ap]at z w;rw[P rfl,ZV]at M;have a0:(0<((0:Nat):Int))=False:=eq_false (by omega);have U:fK 0++lc fI (x::y)=lc fI (x::y):=rfl;have av:fK 0++lc fI ((x+1)::y)=lc fI ((x+1)::y):=rfl;have a8:=C (jh n f (x::y));have a3:=C.step (jh n f (x::y));have a7:A.1+1<=4000000:=by
    grind
   have a5:List.take n (x::y)=x::y:=X3 (by grind);refine dK a0 (k:=fB rfl ?_);simp only[av]at q;simp only[U]at J b q;simp only[Gu,U];have ab:gF (jh n f) (m8 A (jh n f (x::y)) (A.2 (jh n f (x::y))+1)) ((rng (x+1) o).flatMap h)=GT:=z;generalize jh n f (x::y)=nv at*
   refine Io ch Sl 4 43 nv (A.2 nv+1) [⟨3,_,_,_,cN⟩] [] (by kernel_rfl) (by kernel_rfl) rfl af ⟨by omega,by omega⟩ (by grind [maxLen]) fun K u=>?_
   simp only[kd,dq,rV,aa,reduceCtorEq,a5];refine u _ ⟨rfl,?_⟩;clear u K;intro K u;simp(disch:=omega) only[kd,dq,rV,aa,YW,Nat.reduceSub,aP];refine u _ ⟨rfl,?_⟩;clear u K;show dT _ _ _ _ _ _ _;refine pu (aE D (aE b q)) (k:=?_);refine⟨⟨x+1,E,m8 A nv (A.2 nv+1),by omega,by omega,M,ab,a3,by simp only[Ym,Zu]at w;show A.1+1+_<=_;omega⟩,by simp only;omega,aj ⟨rfl,rfl,trivial⟩ ?_,rfl⟩;simp[wk]
  |succ j=>
   rw[Q j rfl x,Ye,Ye,<- Ye E]at M;rw[al,ah j rfl]at z w;have e4:IntKind.i64.wrap (((j+1:Nat):Int)-1)=(j:Int):=by grind [aP]
   have a1:(0<((j+1:Nat):Int))=True:=eq_true (by omega);have cV:=X j rfl x E _ A Z Y M C (by omega);obtain⟨ag,bb⟩:=L1 (nm:=jh n f) (fm f n B (j+1) (x::y)) C;have eW:E++pf f n B j (x::y)=E++pf f n B j (x::y):=rfl;generalize gF (jh n f) A (fm f n B (j+1) (x::y))=N at*
   generalize(fm f n B (j+1) (x::y)).length=LL at*
   generalize pf f n B j (x::y)=W at*
   clear eW;refine dK a1 (k:=f4 rfl (ik 3 cV 0 [] [] (by kernel_rfl) (by omega) (by decide) fun K u=>?_));simp only[kd,aa,reduceCtorEq,e4];refine u _ ⟨⟨rfl,?_⟩,?_⟩
   ·grind [Gv]
   clear u K;intro K u;simp(disch:=omega) only[kd,aa,En,mw,U4,pR,my,Nat.reduceBEq,reduceCtorEq,YN,gU];apply u;clear u K;show dT _ _ _ _ _ _ _;refine pu (aE D (aE b q)) (k:=?_);refine⟨⟨x+1,E++W,N,by omega,by omega,by grind,z,ag,by omega⟩,by simp only;omega,aj ⟨?_,rfl,trivial⟩ ?_,rfl⟩
   ·simp only[YJ];rfl
   simp[wk]
 obtain rfl:x=o+1:=by omega
 rw[iX Y,aan,YI]at M;rw[iX Y,aan]at z;have z:A=GT:=z;have s:I.length-post.length=E.length:=by grind
 rw[s];refine bP (uv ch (by kernel_rfl) (by kernel_rfl) fun _ K=>?_);simp(disch:=omega) only[kd,aa,reduceCtorEq,D,b];apply K;refine fB rfl (mJ ?_);show _/\_;refine⟨.inl rfl,z,_,(KR rfl).trans (aj (tm:=(jk::.one (.ptr 0 1 0 0)::.one (.ptr 0 2 0 0)::.one (.ptr 0 3 0 0)::.one (.ptr 0 0 0 0)::.one (.ptr 0 5 0 0)::.one (.ptr 0 6 0 0)::j16 (j16 (j4 (jk::jk::[]))))) (l:=[(0,Gu 0 n (k+1) y I R r E.length)]) ⟨rfl,trivial⟩ (by simp[wk])),⟨gT _,rfl⟩,by simp⟩
end
end
section
section
variable {n:Nat} {f:FF} {B:Int}
theorem ld (f:FF) (z:List Int):jh n f z=BF n f (fun i=>z.getD i 0) (fun i=>z.getD i 0):=by
 refine bJ n fun i _=>?_
 show dP (fun b=>f i b*z.getD i 0*z.getD b 0) n=z.getD i 0*dP (fun j=>f i j*z.getD j 0) n;grind [ia]
theorem MV (c:RedR f n) (g:n<=8) (v: ∀i j,i<n->j<n-> -262144<=f i j/\f i j<=262144) (m:0<=B) (o:B<=65536) (l:b.length=n) (r:fO f n B 0 (aR n b)):
  CallC prog 40 [dq (mat n n f),rV b] ⟨[],.raw (.int .i64 (jh n f b))⟩/\0<=jh n f b/\jh n f b<=B:=by
 have h:=pm.1 r;have u:aR n b=fun i=>b.getD i 0:=funext fun i=>qJ l i
 rw[u]at h;have q:B*((2^n:Nat):Int)<=((4096:Nat):Int)*((4096:Nat):Int):=by
  have e:(2^n:Nat)<=256:=XQ (Yd (by omega) g) (by decide);generalize(2^n:Nat)=p at*
  have:=YG o (abP.2 e) (by omega) (by omega);omega
 have s: ∀i,(b.getD i 0).natAbs<=524288:=fun i=>by
  by_cases t:i<n
  ·have:=xU c (fun i=>b.getD i 0) m h q (n-i-1) i (by omega);have e:2^(n-i-1)<=2^7:=Yd (by omega) (by omega);omega
  grind
 refine⟨Ql n f b 262144 524288 g l (fun i j t w=>by grind) s (by decide),?_,?_⟩
 ·rw[ld];have:=(gE c.pd.1 c.pd.2 (fun i=>b.getD i 0) n 0 (by omega)).1;rwa[iF (f':=f) (fun i j _ _=>cK f i j) (fun _ _=>rfl) (fun _ _=>rfl)]at this
 grind [ld]
theorem Sb (o:mD n f B) (r:Nat) (I:List (Int×Int)) (b:I.length<=4000000) (p: ∀z,z.length=n->fO f n B 0 (aR n z)->CallC prog 40 [dq (mat n n f),rV z] ⟨[],.raw (.int .i64 (jh n f z))⟩/\I64 (jh n f z)):
  ∀(k:Nat) (y:List Int) (pre post:List (Int×Int)) (g:MapS),y.length+(k+1)=n->oy y->fO f n B (k+1) (aR n y)->I=pre++pf f n B k y++post->GB g->g.1+(fm f n B (k+1) y).length<=4000000->Vf n f B r I k y pre.length g
 |0,y,pre,post,g,m,u,l,v,x,C=>Sd o r 0 y I pre post g m u l v b x C (fun _ c s t=>p (c::y) (by omega) (o.step m l s t).1) fun j e=>absurd e (by omega)
 |k+1,y,pre,post,g,m,u,l,v,x,C=>Sd o r (k+1) y I pre post g m u l v b x C (fun e=>absurd e (by omega)) fun j e c q h E s t w A D=>by
  obtain rfl:k=j:=by omega
  exact Sb o r I b p k (c::y) q h E (by grind) (o.tcb m u l s t) (o.step m l s t).1 w A D
theorem F7:GB (0,fun _=>0):=fun _=>⟨aaa _,aaa _⟩
theorem PG (h:mD n f B) (u:1<=n) (e: ∀z,z.length=n->fO f n B 0 (aR n z)->CallC prog 40 [dq (mat n n f),rV z] ⟨[],.raw (.int .i64 (jh n f z))⟩/\I64 (jh n f z)) (q:(pf f n B (n-1) []).length<=4000000) (s:(fm f n B n []).length<=4000000):
  y8 prog 2 2 45 [dq (mat n n f),Va (pf f n B (n-1) [])] (gF (jh n f) (0,fun _=>0) (fm f n B n [])):=by
 have t:=h.n8;have j:fO f n B n (aR n []):=jl h.r.pd h.b0;have c:=fun r=>Sb h r (pf f n B (n-1) []) q e (n-1) [] [] [] (0,fun _=>0) (by simp;omega) oy.nil (by grind) (by simp) F7 (by grind)
 unfold Vf at c;rw[show n-1+1=n by omega]at c;have g:=aS n n f;have o:IntKind.i64.wrap ((n:Int)-1)=((n-1:Nat):Int):=by grind [aP]
 generalize gF (jh n f) (0,fun _=>0) (fm f n B n [])=GT at*
 generalize pf f n B (n-1) []=I at*
 generalize mat n n f=R at*
 clear h j e;refine ID (d:=9) (S1:=⟨(jk::jk::.one (.ptr 2 0 0 0)::.one (.ptr 3 0 0 0)::j16 ([])),Hm [(2,[⟨26,1,[[.p (.sl (ls (fR fI) R))]]⟩]),(3,[⟨76,1,[[.p (.sl (ls fV I))]]⟩])]⟩) func45 rfl (by kernel_rfl) [] [] ?_ ⟨_,rfl,rfl,rfl,rfl⟩ fun r K b=>?_
 ·rw[ntmps45];refine R3 (k:=?_);refine⟨rfl,aj ⟨rfl,rfl,trivial⟩ ?_⟩;simp[wk]
 simp(disch:=omega) only[kd,aa,Nat.reduceEqDiff];apply b;clear b K;refine dK (aE g (aE (U7 n) @Yq)) (k:=fC (k:=fC (k:=?_)));refine dT.weak ((uo 6 1 (n:=n) rfl).trans ((du 3 8 (by decide) (by decide)).trans ((du 7 8 (by decide) (by decide)).trans ((du 6 8 (by decide) (by decide)).trans ((du 5 8 (by decide) (by decide)).trans (du 2 8 (by decide) (by decide))))))) ?_;refine dT.weak (aj (tm:=(jk::jk::.one (.ptr 8 6 0 0)::.one (.ptr 8 1 0 0)::jk::.one (.ptr 8 5 0 0)::.one (.ptr 8 3 0 0)::.one (.ptr 8 2 0 0)::.one (.ptr 8 0 0 0)::j4 (j4 (jk::jk::jk::[])))) (l:=[(8,[⟨131,1,[[.raw .nilFunc]]⟩,⟨76,1,[[.p (.sl (ls fV I))]]⟩,⟨3,1,[[.p (.raw (.int .i64 0))]]⟩,⟨35,1,[[.sl 8 4 0 n]]⟩,⟨2,1,fK n++lc fI []⟩,⟨79,1,[[.p (.raw (.map (some r)))]]⟩,⟨26,1,[[.p (.sl (ls (fR fI) R))]]⟩])]) ⟨?_,trivial⟩ (by simp[wk,mb,fi,oE,aw])) ?_
 ·simp_all[aw,qS,fi,oE,fK,lc]
 refine dK (aE @iK.eq_1 @kD.eq_1) (k:=?_);have m:=c r;refine bP (ik 4 m 8 [] [] (by kernel_rfl) (by omega) (by decide) fun K b=>?_);simp(disch:=omega) only[kd,aa,g,o];refine b _ ⟨⟨rfl,?_⟩,?_⟩
 ·grind [Gv,aI,zR]
 clear b K;intro K b;simp(disch:=omega) only[kd,aa,En,mw,U4,pR,my,Nat.reduceBEq,gU];apply b;clear b K;show dT _ _ _ _ _ _ _;refine fC (k:=?_);refine lH ⟨.inr rfl,rfl,_,bv.refl _,?_⟩;simp(disch:=omega) only[kd,results45]
end
end
section
theorem tM (a b:Int):(rng a b).length=(b-a+1).toNat:=by
 simp_all[rng]
def sL (n:Nat) (c:List Int):Int:=dP (fun i=>c.getD i 0) n
def WG (m:Nat) (d:Int) (c:List Int):List Int:=c.set m (c.getD m 0+(d+1))
section
variable (n:Nat) (f:FF) (B bud:Int)
end
section
variable {n:Nat} {f:FF} {B bud:Int}
theorem L5 {i:Nat} (e:n<b.length):(b.set n x).getD i 0=if i=n then x else b.getD i 0:=by
 grind
theorem LB {m i:Nat} {d:Int} {c:List Int} (b:m<c.length):(WG m d c).getD i 0=if i=m then c.getD m 0+(d+1)else c.getD i 0:=L5 b
theorem PJ {m:Nat} {d:Int} (e:b.length=n) (g:m<n):sL n (WG m d b)=sL n b+(d+1):=by
 grind [sL,AH,LB]
theorem nH (k:Nat) (y:List Int):(fm f n B (k+1) y).length=((rng (dR f n B k (aR n y)) (eQ f n B k (aR n y))).map fun x=>(fm f n B k (x::y)).length).sum:=by
 simp_all[fm]
theorem AL {b:Type} (l:List b):(l.map fun _=>1).sum=l.length:=by
 induction l with
 |nil=>rfl
 |cons x l c=>grind
end
end
section
variable {n:Nat} {f:FF} {B:Int}
theorem PZ {d:Int} (b:0<d) (c:0<=x):isqF (x*d)/d=isqF (x/d):=by
 have l:=dH (Yj c (ZE b));have m:=dH (Zn c (ZE b));refine Kw.uniq ?_ m;obtain⟨j,p,s⟩:=l;generalize isqF (x*d)=r at*
 have g:0<=r/d:=Zn j (ZE b);have h:=abi r (show d≠0 by omega);have o:=ZK r b;generalize r/d=q at*
 refine⟨g,?_,?_⟩
 ·rw[ZL b];have e:q*q*d*d<=x*d:=by
   have:(q*d)*(q*d)<=r*r:=YG h h (Yj g (ZE b)) j;grind
  simp_all
 rw[Int.ediv_lt_iff_lt_mul b];have e:x*d<(q+1)*(q+1)*d*d:=by
  have:(r+1)*(r+1)<=((q+1)*d)*((q+1)*d):=YG (by omega) (by omega) (by omega) (by omega);grind
 simp_all
theorem vO (c:0<dk f 1) (b:0<=B):dR f 1 B 0 (aR 1 [])= -isqF (B/dk f 1)/\eQ f 1 B 0 (aR 1 [])=isqF (B/dk f 1):=by
 have g:tc f 1 0 (aR 1 [])=0:=by rfl
 have e:kJ f 1 B 0 (aR 1 [])=B*dk f 1:=by
  grind [BF,aR,dP,kJ,co]
 grind [dR,eQ,PZ]
theorem QW {a c:Int} (h:a<=c) (g:c<=x+1):rng a x=rng a (c-1)++rng c x:=by
 obtain⟨m,e⟩: ∃m:Nat,c=a+m:=⟨(c-a).toNat,by omega⟩;subst e;clear h
 induction m generalizing a with
 |zero=>
  grind [iX]
 |succ m j=>
  rw[gC (a:=a) (b:=x) (by omega),gC (a:=a) (by omega)];grind
noncomputable def toL (f:FF) (n:Nat) (B:Int):Nat->List Int->Nat
 |0,y=>(rng (dR f n B 0 (aR n y)) (eQ f n B 0 (aR n y))).length
 |k+1,y=>(rng (dR f n B (k+1) (aR n y)) (eQ f n B (k+1) (aR n y))).length+((rng (dR f n B (k+1) (aR n y)) (eQ f n B (k+1) (aR n y))).map fun c=>toL f n B k (c::y)).sum
theorem Hx {F G:Int->Nat}: ∀l:List Int,(∀c,F c<=1+G c)->(l.map F).sum<=l.length+(l.map G).sum
 |[],_=>by simp
 |c::l,h=>by
  have:=Hx l h;grind
theorem EC: ∀(k:Nat) (y:List Int),(pf f n B k y).length<=1+toL f n B k y
 |0,y=>by show 1<=_;omega
 |k+1,y=>by
  have:=Hx (rng (dR f n B (k+1) (aR n y)) (eQ f n B (k+1) (aR n y))) fun c=>EC k (c::y)
  grind [pf,toL,List.length_flatMap]
theorem tS {F G:Int->Nat}: ∀l:List Int,(∀c,c∈l->F c<=G c)->(l.map F).sum<=(l.map G).sum
 |[],_=>by simp
 |c::l,h=>by
  have:=tS l fun c b=>h c (by simp[b])
  grind
theorem Hy {G:Int->Nat} {a c:Int} (h:a<=c):((rng c x).map G).sum<=((rng a x).map G).sum:=by
 by_cases e:c<=x+1
 ·rw[QW h e,YN,List.sum_append];omega
 grind [iX]
theorem u6: ∀(k:Nat) (y:List Int),(fm f n B (k+1) y).length<=toL f n B k y
 |0,y=>by
  rw[nH];show((rng _ _).map fun _=>1).sum<=_;rw[AL];exact XY _
 |k+1,y=>by
  rw[nH];simp only[toL];exact XQ (tS _ fun c _=>u6 k (c::y)) (by omega)
/-! Steps. -/
structure OkG (n:Nat) (g:uk):Prop where
 s:g.stop=false
 l:0<=g.left
 ln:g.steps.length=n
 p: ∀i,i<n->0<=g.steps.getD i 0
structure ze (n T V:Nat) (g:uk) (r:uk×Bool):Prop where
 ok:(T:Int)<=g.left->r.2=true/\OkG n r.1/\r.1.left=g.left-T/\r.1.steps.getD (n-1) 0=g.steps.getD (n-1) 0+V/\sL n r.1.steps=sL n g.steps+T
 no:g.left<T->r.2=false/\r.1.stop=true
theorem ze.comp {c o m p:Nat} {b r:uk×Bool} (q:ze n c o l b) (s:b.2=true->OkG n b.1->ze n m p b.1 r) (t:b.2=false->r=(b.1,false)):ze n (c+m) (o+p) l r:=by
 by_cases u:(c:Int)<=l.left
 ·obtain⟨e,j,v,w,x⟩:=q.ok u;have k:=s e j;refine⟨fun h=>?_,fun h=>?_⟩
  ·obtain⟨y,z,A,C,D⟩:=k.ok (by omega);grind
  exact k.no (by omega)
 obtain⟨e,j⟩:=q.no (by omega);rw[t e];exact⟨fun h=>by omega,fun _=>⟨rfl,j⟩⟩
theorem OM (j:OkG n l) {m c:Nat} (s:1<=m) (r:m<=n):ze n c (if m=n then c else 0) l (AM n m c l):=by
 have b:=j.ln;refine⟨fun h=>?_,fun h=>?_⟩
 ·unfold AM;rw[if_neg (by omega)];have o:=PJ (n:=n) (m:=m-1) (d:=(c:Int)-1) j.ln (by omega);have e:=fun i=>LB (m:=m-1) (i:=i) (d:=(c:Int)-1) (c:=l.steps) (by omega)
  unfold WG at o e;rw[show(c:Int)-1+1=c by omega]at o e;refine⟨rfl,⟨rfl,by grind,by simp[b],fun i q=>?_⟩,rfl,?_,o⟩
  ·show 0<=(l.steps.set (m-1) (l.steps.getD (m-1) 0+c)).getD i 0;rw[e i];have:=j.p i q;grind
  grind
 grind [AM]
theorem MA {b:Int->uk->uk×Bool} {T V:Int->Nat} {hi:Int}: ∀(m:Nat) (x:Int) (g:uk),hi-x+1=m->OkG n g->(∀c g,x<=c->c<=hi->OkG n g->ze n (T c) (V c) g (b c g))->ze n ((rng x hi).map T).sum ((rng x hi).map V).sum g (lpM b m x g)
 |0,x,g,s,e,_=>by
  rw[iX (by omega)];refine⟨fun _=>⟨rfl,e,?_,?_,?_⟩,fun h=>?_⟩
  ·simp[lpM]
  ·simp[lpM]
  ·simp[lpM]
  have:=e.l;grind
 |m+1,x,g,s,e,j=>by
  rw[gC (by omega)];simp only[X9,List.sum_cons];refine(j x g (aaa _) (by omega) e).comp (fun o p=>?_) fun o=>?_
  ·have:=MA m (x+1) (b x g).1 (by omega) p fun c g t q r=>j c g (by omega) q r
   grind [lpM]
  grind [lpM]
theorem H9 (o:mD n f B): ∀(k:Nat) (y:List Int) (g:uk),y.length+(k+1)=n->oy y->fO f n B (k+1) (aR n y)->OkG n g->ze n (toL f n B k y) (fm f n B (k+1) y).length g (jf (AM n) f n B k y g)
 |0,y,g,l,p,j,r=>by
  have s:=(o.lohi l p j).2.2;have h:=OM r (m:=n) (c:=(rng (dR f n B 0 (aR n y)) (eQ f n B 0 (aR n y))).length) (by omega) (XY _);rw[if_pos rfl]at h;have e:(fm f n B (0+1) y).length=(rng (dR f n B 0 (aR n y)) (eQ f n B 0 (aR n y))).length:=by
   rw[nH];show((rng _ _).map fun _=>1).sum=_;rw[AL]
  rw[e];have q:(((rng (dR f n B 0 (aR n y)) (eQ f n B 0 (aR n y))).length:Nat):Int)=eQ f n B 0 (aR n y)-dR f n B 0 (aR n y)+1:=by rw[tM];omega
  rw[q]at h;exact h
 |k+1,y,g,l,p,j,r=>by
  have s:=(o.lohi l p j).2.2;have h:=OM r (m:=n-(k+1)) (c:=(rng (dR f n B (k+1) (aR n y)) (eQ f n B (k+1) (aR n y))).length) (by omega) (by omega);rw[if_neg (by omega)]at h;have q:(((rng (dR f n B (k+1) (aR n y)) (eQ f n B (k+1) (aR n y))).length:Nat):Int)=eQ f n B (k+1) (aR n y)-dR f n B (k+1) (aR n y)+1:=by rw[tM];omega
  rw[q]at h;rw[nH,show((rng (dR f n B (k+1) (aR n y)) (eQ f n B (k+1) (aR n y))).map fun x=>(fm f n B (k+1) (x::y)).length).sum=0+((rng (dR f n B (k+1) (aR n y)) (eQ f n B (k+1) (aR n y))).map fun x=>(fm f n B (k+1) (x::y)).length).sum by omega];unfold toL jf;refine h.comp (fun v w=>?_) fun v=>?_
  ·have:=MA (b:=fun c=>jf (AM n) f n B k (c::y)) (T:=fun c=>toL f n B k (c::y)) (V:=fun c=>(fm f n B (k+1) (c::y)).length) (hi:=eQ f n B (k+1) (aR n y)) (eQ f n B (k+1) (aR n y)-dR f n B (k+1) (aR n y)+1).toNat (dR f n B (k+1) (aR n y)) _ (by omega) w fun c g t u z=>H9 o k (c::y) g (by grind) (o.tcb l p j t u) (o.step l j t u).1 z
   grind
  grind
theorem UM (b:mD n f B) (o:1<=n) (m:OkG n l): ∃t,ze n (toL f n B (n-1) []) (fm f n B n []).length l (H6 (AM n) f n B l,t):=by
 have c:fO f n B n (aR n []):=jl b.r.pd b.b0;have h:=H9 b (n-1) [] l (by simp;omega) oy.nil (by grind) m;rw[show n-1+1=n by omega]at h;by_cases e:n=1
 ·subst e;have j:=b.d (k:=1) (by omega);obtain⟨l1,p⟩:=vO (f:=f) j.1 b.b0;grind [jf,H6]
 grind [H6]
end
section
structure Rf (M:List (List Int)) (n:Nat) (f:FF):Prop where
 red:isReducedM M=true
 e:M=mat n n f
 n1:1<=n
 n8:n<=8
 r:RedR f n
 b: ∀i j,i<n->j<n-> -262144<=f i j/\f i j<=262144
 en:ent M=f
 l:M.length=n
theorem Nq {M:List (List Int)} (h:isReducedM M=true):Rf M M.length (ent M):=by
 obtain⟨e,b,c,g,f⟩:=CV h;exact⟨h,e,b,c,g,f,rfl,rfl⟩
section
variable {M:List (List Int)} {n:Nat} {f:FF} {B k:Int}
theorem Rf.vs (h:Rf M n f) (b:0<=B) (c:B<=65536):mD n f B:=Uh h.r h.n8 b (by omega)
theorem Qr (b:0<=k):OkG n ⟨k,ae n 0,false⟩:=⟨rfl,b,by simp,fun i _=>by
 grind⟩
theorem Dd (h:Rf M n f) (g:0<=B) (j:B<=65536) (m:0<=k) (o:k<=1000000):
  ((toL f n B (n-1) []:Int)<=k-> ∃L:List Int,Vc M B k= .tup [(false,[.p (.sl (ls fI L))]),(false,[.p (.raw (.int .i64 0))])]/\L.length=n/\(∀i,i<n->0<=L.getD i 0)/\sL n L=toL f n B (n-1) []/\L.getD (n-1) 0=((fm f n B n []).length:Int))/\
  (k<(toL f n B (n-1) []:Int)->Vc M B k=OW 9):=by
 have q:Vc M B k=UH (H6 (AM n) f n B ⟨k,ae n 0,false⟩):=by
  unfold Vc;rw[if_pos h.red,if_neg (by omega),h.l,h.en,if_neg (by omega)]
 obtain⟨t,e⟩:=UM (h.vs g j) h.n1 (Qr (n:=n) m);rw[q];have w:(ae n (0:Int)).getD (n-1) 0=0:=by
  grind
 have r:sL n (ae n (0:Int))=0:=by
  simp_all[sL,bJ,jT]
 refine⟨fun c=>?_,fun c=>?_⟩
 ·obtain⟨_,b,_,u,v⟩:=e.ok c;refine⟨_,by unfold UH;rw[if_neg (by rw[b.s];decide)],b.ln,b.p,?_,?_⟩
  ·grind
  grind
 obtain⟨_,b⟩:=e.no c;grind [UH]
theorem TT (h:Rf M n f) (c:0<=B) (l:B<=65536) (o:(pf f n B (n-1) []).length<=2000000):CallC prog 94 [dq M,.raw (.int .i64 B)] ⟨[],Va (pf f n B (n-1) [])⟩:=by
 have g:=h.vs c l;rw[h.e];by_cases e:n=1
 ·subst e;have m:=g.d (k:=1) (XY 1);have j:dk f 1=f 0 0:=by show bk f 0 0 0=f 0 0;exact cK f 0 0
  obtain⟨l1,p⟩:=vO (f:=f) m.1 c;have:=PX f B (by omega) (by omega) c (by omega);show CallC _ _ _ ⟨[],Va [(dR f 1 B 0 (aR 1 []),eQ f 1 B 0 (aR 1 []))]⟩;rw[l1,p,j];exact this
 have:=h.n1;exact PY g (Fh h.r h.n1 h.n8 h.b) (o6 h.r h.n8 h.b) (by omega) o
theorem TI (h:Rf M n f) (c:0<=B) (e:B<=65536) (g:0<=k) (b:k<=1000000):
  ((toL f n B (n-1) []:Int)<=k->CallC prog 44 [dq M,.raw (.int .i64 B),.raw (.int .i64 k)] ⟨[],.tup [(false,[.p (.sl (ls fV (pf f n B (n-1) [])))]),(false,[.p (.raw (.int .i64 0))])]⟩)/\
  (k<(toL f n B (n-1) []:Int)->CallC prog 44 [dq M,.raw (.int .i64 B),.raw (.int .i64 k)] ⟨[],OW 9⟩):=by
 grind [Dd,CM,EC,OY,TT,OX]
noncomputable def V7 (f:FF) (n b:Nat):List Int:=aN (b+1) fun m=>(gF (jh n f) (0,fun _=>0) (fm f n (b:Int) n [])).2 m
theorem Bi (h:Rf M n f) (b:Nat) (hb:b<=1000) (V:0<=k) (D:k<=1000000) (J:(toL f n (b:Int) (n-1) []:Int)<=k):
  CallC prog 19 [dq M,.raw (.int .i64 (b:Int)),.raw (.int .i64 k)] ⟨[],.tup [(false,[.p (.sl (ls fI (V7 f n b)))]),(false,[.p (.raw (.int .i64 0))])]⟩:=by
 have L:=h.vs (B:=(b:Int)) (by omega) (by omega);have X:=h.l;have Q:=h.n1;have R:=h.n8;have H:=fq M;rw[h.red]at H;have O:=(TI h (B:=(b:Int)) (by omega) (by omega) V D).1 J;have w:=EC (f:=f) (n:=n) (B:=(b:Int)) (n-1) [];have g:=u6 (f:=f) (n:=n) (B:=(b:Int)) (n-1) [];rw[show n-1+1=n by omega]at g;have F:=PG L Q (fun z E S=>by
  obtain⟨N,Y,Z⟩:=MV h.r R h.b (by omega) (by omega) E S;exact⟨N,by constructor<;>omega⟩) (by omega) (by omega)
 rw[<- h.e]at F;have o:=(L1 (nm:=jh n f) (fm f n (b:Int) n []) F7);have q: ∀j,0<=(gF (jh n f) (0,fun _=>0) (fm f n (b:Int) n [])).2 j/\(gF (jh n f) (0,fun _=>0) (fm f n (b:Int) n [])).2 j<=4000000:=fun j=>by
  have:=o.1 j;omega
 unfold V7;generalize gF (jh n f) (0,fun _=>0) (fm f n (b:Int) n [])=G at*
 generalize pf f n (b:Int) (n-1) []=I at*
 clear o g w J L;have P:IntKind.i64.wrap ((b:Int)+1)=((b+1:Nat):Int):=aP (by omega) (by omega);have t:((b:Int)<0)=False:=eq_false (by omega);have u:(1000<(b:Int))=False:=eq_false (by omega);refine aB func19 rfl ntmps19 (aC (k:=ai (am (bQ [⟨1,_,_,_,H⟩] (k:=ao rfl (ai (f5 t (k:=ao rfl (sW u (k:=ao rfl (ak (bQ [⟨3,_,_,_,O⟩] (k:=ai (ar (k:=ao rfl (ak (Ph 2 34 F [] [] (by decide) rfl fun K c=>?_)))))))))))))))));simp only[kd];refine c _ ⟨rfl,by simp[vY,iy],?_⟩;clear c K;intro r K c;simp only[kd,aa];apply c;clear c K;have E:ae (b+1) [AV.p (.raw (.int .i64 0))]=lc fI (aN (b+1) fun j=>if j<0 then G.2 (j:Int)else 0):=by
  have h0:(aN (b+1) fun j=>if j<0 then G.2 (j:Int)else 0)=ae (b+1) 0:=X7 fun i=>by
   grind [aN]
  grind [U7]
 refine dK P (k:=bP (fC (k:=?_)));refine jD (G:=jW (b+1)) (fun v=>⟨(j4 (j4 (jk::jk::.raw (.map (some r))::.one (.sl 37 0 0 (b+1))::j16 (j4 (j4 (jk::jk::jk::.raw (.int .i64 ((b+1:Nat):Int))::rN v.i::j4 (j4 (jk::jk::[])))))))),Hm [(37,[⟨2,1,lc fI (aN (b+1) fun j=>if j<v.i then G.2 (j:Int)else 0)⟩])]⟩) (fun _=>G) (fun v=>b+1-v.i) ⟨0,by omega⟩ ?_ rfl ?_
 ·refine aj ⟨?_,trivial⟩ ?_
  ·rw[<- E];rfl
  simp[wk]
 rintro⟨i,hi⟩;simp only;by_cases W:i<b+1
 ·have A:=aH (b+1) (fun j=>if j<i then G.2 (j:Int)else 0);have y:=az (fun j=>if j<i then G.2 (j:Int)else 0) W;have s:(lc fI (aN (b+1) fun j=>if j<i then G.2 (j:Int)else 0)).set i [AV.p (.raw (.int .i64 (G.2 (i:Int))))]=lc fI (aN (b+1) fun j=>if j<i+1 then G.2 (j:Int)else 0):=by
   rw[show[AV.p (.raw (.int .i64 (G.2 (i:Int))))]=(fI (G.2 (i:Int))).map AV.p from rfl,vw,nj];grind
  have T:=q (i:Int);refine fC (k:=DY rfl (bP (fo (fC (k:=DX Sl 4 47 (i:Int) [] [] (by kernel_rfl) (by decide) rfl ⟨by omega,by omega⟩ fun K c=>?_)))));simp only[kd,aa];refine c _ ⟨rfl,?_⟩;clear c K;intro K c;simp(disch:=omega) only[kd,aa,y,s];apply c;clear c K;show dT _ _ _ _ _ _ _;refine sX (k:=?_);refine⟨⟨i+1,by omega⟩,by grind,aj ⟨rfl,trivial⟩ ?_,rfl⟩;simp[wk]
 have C:i=b+1:=by omega
 subst C;refine fC (k:=DW rfl ?_);show dT _ _ _ _ _ _ _;have x:(aN (b+1) fun j=>if j<b+1 then G.2 (j:Int)else 0)=aN (b+1) fun m=>G.2 (m:Int):=ez fun j U=>if_pos U
 rw[x];have A:=aH (b+1) (fun m=>G.2 (m:Int));refine fC (k:=lH ?_);show _/\_;refine⟨.inr rfl,jd 37 (bS rfl) ?_ rfl⟩;simp(disch:=omega) only[kd,results19];grind
end
end
theorem Fg (x y:List Int):CallC prog 21 [rV x,rV y] ⟨[],.raw (.int .i64 (cU x y))⟩:=by
 refine kR (by kernel_rfl) fun X w vs u p f=>?_
 obtain⟨C,s,q⟩:=uE f (j:=0) rfl;obtain⟨D,t,r⟩:=uE f (j:=1) rfl;obtain⟨A,c,rfl,v,o,l⟩:=Aq q;obtain⟨B,d,rfl,z,b,m⟩:=Aq r;obtain rfl:vs= #[.slice A x.length c,.slice B y.length d]:=by
  grind
 refine(ni A B c d x y w l m o b).mono fun e E ⟨g,h⟩=>?_
 obtain⟨n,rfl⟩:=h;exact⟨_,g,fun _ _ _=>bO.raw _ rfl,(Ext.refl _).drewN n⟩
theorem MR {k:Nat} {X:Nat->Prop} {w:World} {A:Option Addr} (h:O7 k w A c) (p: ∀b,X b->b<k):bO X w (.sl (ls (fR fI) c)) (.slice A c.length c.length):=by
 obtain⟨F,b,rfl,E,q,s⟩:=h;have:=bO.sl (X:=X) (w:=w) b 0 1 c.length (ls (fR fI) c) (fun i _=>(w.cell? ⟨b,i,none⟩).getD undef) (fun h=>absurd (p _ h) (by omega)) q (fun e g=>by
  obtain⟨z,_,rfl⟩:=XR.1 g;rfl) (by grind [dE]) (by rw[dE];omega) (fun i e j x g l=>by
  grind [fh,fR]) (fun i e j x g l=>by
  rw[fh]at g;obtain⟨r,t,rfl⟩:=XI.1 g;cases j with
  |succ j=>simp[fR]at l
  |zero=>
   simp[fR]at l;subst l;obtain⟨u,f,n,y,B,o,C⟩:=s i r t;simp only[n,Y4];cases r with
   |nil=>exact bO.nil _ _
   |cons H G=>
    obtain⟨v,m,rfl,D⟩:=o (by simp);grind [No])
 grind [dE]
theorem Np {g:Rho} {H:OH} {X:Nat->Prop} {w:World} {v:Value} (b:Bool) (h:bO X w (.sl (ls (fR fI) c)) v):(TQ c b).rel g H X w (.tuple #[v,.bool b]):=by
 refine⟨#[v,.bool b],rfl,rfl,fun j e l f=>?_⟩
 match j,f with
 |0,f=>
  simp at f;obtain⟨rfl,rfl⟩:=f;exact⟨_,rfl,.inr ⟨rfl,_,rfl,h⟩⟩
 |1,f=>
  simp at f;obtain⟨rfl,rfl⟩:=f;exact⟨_,rfl,.inr ⟨rfl,_,rfl,bO.raw _ rfl⟩⟩
 |j+2,f=>simp at f
def SG (M l:List (List Int)):Option (List (Int×List Int)):=if isReducedM M then fE M l else none
def UC (M l:List (List Int)):List (List Int):=match SG M l with|none=>[]|some b=>(i4 b).map Prod.snd
def UB (M l:List (List Int)):Bool:=(SG M l).isSome
theorem NS {l:List (List Int)} (h:SG c l=none):TQ (UC c l) (UB c l)=TQ [] false:=by simp[UC,UB,h]
theorem NT {l:List (List Int)} {b:List (Int×List Int)} (h:SG c l=some b):TQ (UC c l) (UB c l)=TQ ((i4 b).map Prod.snd) true:=by simp[UC,UB,h]
theorem Qz (M l:List (List Int)) (p:l.length<=65536):CallC prog 89 [dq M,dq l] ⟨[],TQ (UC M l) (UB M l)⟩:=by
 refine uK (by kernel_rfl) fun X w vs D s g=>?_
 obtain⟨G,x,t⟩:=uE g (j:=0) rfl;obtain⟨H,y,u⟩:=uE g (j:=1) rfl;obtain⟨A,c,rfl,o,r,n⟩:=qk t;obtain⟨B,d,rfl,E,q,m⟩:=qk u;obtain rfl:vs= #[.slice A M.length c,.slice B l.length d]:=by
  grind
 refine(wK A B c d M l w n m r o p).mono fun e I ⟨b,h⟩=>?_
 change Wx _ _ (SG M l) _ at b
 cases f:SG M l with
 |none=>
  rw[f]at b;rw[NS f];exact⟨_,b,fun _ _ _ _=>Np _ (bO.nil _ _),h⟩
 |some F=>
  rw[f]at b;rw[NT f];obtain⟨v,z,C⟩:=b;grind [Np,MR]
/-! Insertion. -/
def qN (M:List (List Int)) (x:List Int):Int:=BF M.length (ent M) (fun i=>x.getD i 0) (fun i=>x.getD i 0)
theorem Ue (g:x=1\/x= -1):qN c (b.map fun a=>x*a)=qN c b:=by
 unfold qN BF;refine bJ _ fun i _=>?_
 have e: ∀i,(b.map fun a=>x*a).getD i 0=x*b.getD i 0:=fun i=>by
  grind
 simp only[e];have f:dP (fun j=>ent c i j*(x*b.getD j 0)) c.length=x*dP (fun j=>ent c i j*b.getD j 0) c.length:=by
  rw[<- ia];grind
 grind
theorem Ci: ∀(l acc:List (Int×List Int)),(l.foldl (fun acc x=>nf x acc) acc).length<=l.length+acc.length
 |[],acc=>by simp
 |x::l,acc=>by
  have:=Ci l (nf x acc);grind [Ni]
section
section
variable {M:List (List Int)} {n:Nat} {f:FF} {B:Int}
theorem VE (r:RedR f n) (l:n<=8) (h:0<=B) (j:B<=65536) (t:b.length=n) (g:jh n f b<=B): ∀c∈b,c.natAbs<=524288:=fun c o=>by
 rw[ld]at g;have m:B*((2^n:Nat):Int)<=((4096:Nat):Int)*((4096:Nat):Int):=by
  have e:(2^n:Nat)<=256:=XQ (Yd (by omega) l) (by decide);generalize(2^n:Nat)=p at*
  have:=YG j (abP.2 e) (by omega) (by omega);omega
 obtain⟨i,s⟩:=YY.1 o;have q:i<n:=by grind
 have:=xU r (fun i=>b.getD i 0) h g m (n-i-1) i (by omega);have e:2^(n-i-1)<=2^7:=Yd (by omega) (by omega);grind
theorem zE (c:RedR f n) (b:0<=B) (z:List Int):z∈fm f n B n []↔z.length=n/\jh n f z<=B:=by
 rw[Qg c.pd b,ld]
theorem ED: ∀(k:Nat) (w z:List Int),z∈fm f n B k w-> ∃p,z=p++w
 |0,w,z,h=>⟨[],by grind [fm]⟩
 |k+1,w,z,h=>by
  simp only[fm,abb]at h;obtain⟨c,_,h⟩:=h;obtain⟨p,rfl⟩:=ED k (c::w) z h;exact⟨p++[c],by simp⟩
theorem NI {r:List Int} (h: ∀e∈b,e=0) (g:x≠0):eB (b++x::r)=if x<0 then -1 else 1:=by
 grind [eB]
theorem Hs {p:List Int} (h: ∀e∈b,e=0) (g:x≠0):eB (p++x::b).reverse=if x<0 then -1 else 1:=by
 grind [NI]
theorem G5 (j:mD n f B) (z:List Int): ∀(k:Nat) (y:List Int) (b:Bool),y.length+(k+1)=n->oy y->fO f n B (k+1) (aR n y)->(b=true-> ∀x∈y,x=0)->(z∈wX f n B false k y b↔z∈fm f n B (k+1) y/\(b=true->eB z.reverse=1))
 |0,y,b,h,u,g,o=>by
  have r:=fun e=>nL j h g (o e)
  simp only[wX,fm,abb,l5,XT,abq,YD,or_false];constructor
  ·rintro⟨c,⟨l,m⟩,t⟩;split at t
   ·simp at t
   rename_i s;obtain rfl:z=c::y:=by grind
   cases b with
   |false=>grind
   |true=>
    have q:c≠0:=fun e=>s (by simp[e])
    simp only[if_true]at l;refine⟨⟨c,⟨by grind,m⟩,rfl⟩,fun _=>?_⟩;have:=Hs (p:=[]) (o rfl) q;grind
  grind [eB]
 |k+1,y,b,h,u,g,o=>by
  have r:=fun e=>nL j h g (o e)
  have w:=fun c (l:dR f n B (k+1) (aR n y)<=c) (m:c<=eQ f n B (k+1) (aR n y))=>G5 j z k (c::y) (b&&decide (c=0)) (by grind) (j.tcb h u g l m) (j.step h g l m).1 fun e=>by
   grind
  have v:fm f n B (k+1+1) y=(rng (dR f n B (k+1) (aR n y)) (eQ f n B (k+1) (aR n y))).flatMap fun c=>fm f n B (k+1) (c::y):=rfl
  grind [wX,l5,ED,Hs]
noncomputable def Db (f:FF) (n:Nat) (B:Int):List (List Int):=wX f n B false (n-1) [] true
theorem EV (h:Rf M n f) (b:0<=B) (e:B<=65536) (z:List Int):z∈Db f n B↔z.length=n/\jh n f z<=B/\eB z.reverse=1:=by
 have c:=h.vs b e;have g:fO f n B n (aR n []):=jl c.r.pd b;have l:=h.n1;unfold Db;rw[G5 c z (n-1) [] true (by simp;omega) oy.nil (by grind) (fun _ x j=>by simp at j),show n-1+1=n by omega,zE h.r b,and_assoc]
 simp
theorem Nk (h:Rf M n f) (z:List Int):qN M z=jh n f z:=by
 unfold qN;rw[h.l,h.en,ld]
theorem NH (h:eB b.reverse=1):eB b≠0:=fun e=>by
 grind [rT]
def U8 (n:Nat) (f:FF) (z:List Int):Int×List Int:=(jh n f z,Sa z)
theorem TW (h:Rf M n f) (q:0<=B) (s:B<=65536) (m:b.length=n) (t:jh n f b<=B) (v:eB b≠0):mU M b=some (U8 n f b):=by
 have w:=VE h.r h.n8 q s m t;have g:DD b=true:=by
  grind [DD]
 have c:wY M.length b=true:=pj.2 ⟨by rw[m,h.l],g⟩;have u:0<=jh n f b:=by
  rw[ld];have:=(gE h.r.pd.1 h.r.pd.2 (fun i=>b.getD i 0) n 0 (by omega)).1;rwa[iF (f':=f) (fun i j _ _=>cK f i j) (fun _ _=>rfl) (fun _ _=>rfl)]at this
 have e:=TS h.red c c;unfold mU;rw[if_pos c];have o:sG M b=some (jh n f b):=by
  unfold sG;rw[e,show BF M.length (ent M) (fun i=>b.getD i 0) (fun i=>b.getD i 0)=jh n f b from Nk h b];grind
 have p:ip b=some (Sa b):=by
  rw[Ei g,if_neg v];rfl
 rw[o,p];rfl
theorem GR (h:Rf M n f) (b:0<=B) (c:B<=65536): ∀{l:List (List Int)},(∀z∈l,z.length=n/\jh n f z<=B/\eB z≠0)->fE M l=some (l.map (U8 n f))
 |[],_=>rfl
 |x::l,e=>by
  obtain⟨g,j,m⟩:=e x (by simp);unfold fE;rw[TW h b c g j m,GR h b c (fun y o=>e y (by simp[o]))];rfl
noncomputable def lB (f:FF) (n:Nat) (B:Int):List (Int×List Int):=i4 ((Db f n B).map (U8 n f))
theorem WQ (h:Rf M n f) (b:0<=B) (c:B<=65536):UC M (Db f n B)=(lB f n B).map Prod.snd/\UB M (Db f n B)=true:=by
 have e:=GR h b c (l:=Db f n B) fun z j=>by
  grind [EV,NH]
 have g:SG M (Db f n B)=some ((Db f n B).map (U8 n f)):=by unfold SG;rw[if_pos h.red,e]
 unfold UC UB;rw[g];exact⟨rfl,rfl⟩
theorem Ad (h:Rf M n f) (b:x=1\/x= -1) (z:List Int):jh n f (z.map fun a=>x*a)=jh n f z:=by
 rw[<- Nk h,<- Nk h,Ue b]
theorem Tt (h:eB b=1):Sa b=b:=by
 simp_all[Sa]
theorem AU (h:Rf M n f) (l:0<=B) (m:B<=65536) (p:Int×List Int):p∈lB f n B↔p.2.length=n/\p.1=jh n f p.2/\p.1<=B/\eB p.2=1:=by
 unfold lB;rw[yY,XR];constructor
 ·grind [EV,eB,U8,Sa,Ad,qu]
 rintro⟨c,b,g,j⟩;obtain⟨v,y⟩:=p;simp only at c b g j;subst b;have o:eB y.reverse≠0:=fun e=>by
  grind [eB]
 have q:eB y.reverse=1\/eB y.reverse= -1:=by grind [Fr]
 refine⟨y.map fun a=>eB y.reverse*a,(EV h l m _).2 ⟨by grind,by grind [Ad],?_⟩,?_⟩
 ·rw[<- List.map_reverse,qu q];grind
 grind [U8,Ad,PB,Tt]
theorem F1 (f:FF) (n:Nat) (B:Int):DB (lB f n B):=yX _
end
end
end Go.Proofs.YtalmoejhjceflaaGreat
