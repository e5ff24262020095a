/-
  Part 17 of a proof (walks and plain facts).
-/
import Derived.Test.YtalmoejhjceflaaGreatR15
set_option linter.all false
set_option maxRecDepth 100000
set_option maxHeartbeats 64000000
namespace Go.Proofs.YtalmoejhjceflaaGreat
open Go.RowKit
variable {b:Array Oper} {c e:Nat->Prop} {f g:Code} {n m:Nat} {h j:OObj} {l:Exit->AS->Prop} {o:Value} {p:FuncId} {q:Exit->Act->World->Prop} {r:TV} {w:World} {s:Act->World->Prop} {t:Rho} {u:Operand} {v:OH} {x:Oper}
section
theorem vI {a:Act} {d:Option Tmp} {k:Nat} (v:Value) (h:d≠some k):(a.put d v).tmps[k]?=a.tmps[k]?:=by
 cases d with
 |none=>rfl
 |some d=>
  grind [Act.put]
def o6 (k:Nat) (b:Value) (c:World) (O X:Nat->Prop) (s:AS) (a:Act) (w:World):Prop:=dx c O X s a w/\a.tmps[k]?=some b
def fH (P:Program) (k:Nat) (c:Code) (Q:Exit->AS->Prop) (s:AS):Prop:=
 ∀(f:Value) (g:World) (O X:Nat->Prop) (a:Act) (w:World),o6 k f g O X s a w->c.wp P (fun e h j=> ∃b,Q e b/\o6 k f g O X b h j) a w
def gk (k:Nat) (b:Array Oper):Bool:=b.toList.all fun o=>o.dst !=some k
section
variable {P:Program} {k:Nat} {s s':AS} {Q:Exit->AS->Prop}
theorem o6.weak {b:World} {a:Act} (h:bG s s') (r:o6 k o w c e s a b):o6 k o w c e s' a b:=⟨h _ _ _ _ _ r.1,r.2⟩
theorem fH.weak (h:bG s s') (r:fH P k f Q s'):fH P k f Q s:=fun _ _ _ _ _ _ q=>r _ _ _ _ _ _ (q.weak h)
theorem fH.mono (h:fH P k f Q s) (q: ∀e s',Q e s'->l e s'):fH P k f l s:=fun _ _ _ _ _ _ r=>
 wp_mono (h _ _ _ _ _ _ r) fun _ _ _ ⟨s',b,g⟩=>⟨s',q _ _ b,g⟩
theorem f7 (h:Q .normal s):fH P k .skip Q s:=fun _ _ _ _ _ _ r=>wp_skip ⟨s,h,r⟩
theorem nf {id:Nat} (h:Q (.exit id) s):fH P k (.exit id) Q s:=fun _ _ _ _ _ _ r=>wp_exit ⟨s,h,r⟩
theorem qi (h:Q .ret s):fH P k .ret Q s:=fun _ _ _ _ _ _ r=>wp_ret ⟨s,h,r⟩
theorem db (h:fH P k f (jh (fH P k g Q) Q) s):fH P k (.seq f g) Q s:=fun _ _ _ _ _ _ r=>
 wp_seq (wp_mono (h _ _ _ _ _ _ r) fun e a w ⟨s',b,c⟩=>by
  cases e with
  |normal=>exact b _ _ _ _ _ _ c
  |_=>exact⟨s',b,c⟩)
theorem gN {id:Nat} (h:fH P k f (mi id Q) s):fH P k (.block id f) Q s:=fun _ _ _ _ _ _ r=>
 wp_block (wp_mono (h _ _ _ _ _ _ r) fun e a w ⟨s',b,c⟩=>by
  cases e with
  |exit g=>
   grind [mi,Exit.inBlock]
  |_=>exact⟨s',b,c⟩)
theorem CN {b:Bool} (m:s.ev u=some (.raw (.bool b))) (p:b=true->fH P k f Q s) (n:b=false->fH P k g Q s):fH P k (.cond u f g) Q s:=fun _ _ _ _ _ _ r=>by
 obtain⟨q,o,t,j,e⟩:=id r.1;have l:=(aX (bz e u _ m)).1;exact wp_cond_split l (fun h=>p h _ _ _ _ _ _ r) (fun h=>n h _ _ _ _ _ _ r)
theorem ma (b:s.ev u=some (.raw (.bool true))) (h:fH P k f Q s):fH P k (.cond u f g) Q s:=CN b (fun _=>h) (fun h=>by cases h)
theorem nd (b:s.ev u=some (.raw (.bool false))) (h:fH P k g Q s):fH P k (.cond u f g) Q s:=CN b (fun h=>by cases h) (fun _=>h)
theorem AF (b:s.ev u=some (.raw (.bool true))) (h:fH P k g Q s):fH P k (.seq (.cond u .skip f) g) Q s:=db (ma b (f7 h))
theorem AE {id:Nat} (b:s.ev u=some (.raw (.bool false))) (h:Q (.exit id) s):fH P k (.seq (.cond u f (.exit id)) g) Q s:=db (nd b (nf h))
theorem M7 {G:Type} (St:G->AS) (q:G->Nat) (x:G) (C:bG s (St x)) (round: ∀g,fH P k f (jh (fun s'=> ∃j,q j<q g/\bG s' (St j)) Q) (St g)):fH P k (.loop f) Q s:=fun J K O X a w r=>by
 classical
 let p:Act->World->Nat->Prop:=fun a w n=> ∃g,q g=n/\o6 k J K O X (St g) a w
 let m:Act->World->Nat:=fun a w=>if h: ∃n,p a w n then Classical.choose (bE h)else 0
 refine wp_loop (fun a w=> ∃n,p a w n) m ⟨_,x,rfl,r.weak C⟩ ?_;intro a w t;have E:m a w=Classical.choose (bE t):=dif_pos t;obtain⟨A,o⟩:=abw (bE t);rw[<- E]at A;obtain⟨g,L,H⟩:=A;refine wp_mono (round g _ _ _ _ _ _ H) fun e v B ⟨s',y,z⟩=>?_
 cases e with
 |normal=>
  obtain⟨j,D,I⟩:=y;have l:=z.weak I;have b: ∃n,p v B n:=⟨_,j,rfl,l⟩;refine⟨b,?_⟩;have F:m v B=Classical.choose (bE b):=dif_pos b;obtain⟨_,u⟩:=abw (bE b);have:=u (q j) ⟨j,rfl,l⟩;omega
 |_=>exact⟨s',y,z⟩
theorem ng {G:Type} (St:G->AS) (b:G->Nat) (e:G) {id:Nat} (h:bG s (St e)) (round: ∀g,fH P k f (jh (fun s'=> ∃c,b c<b g/\bG s' (St c)) (mi id Q)) (St g)):fH P k (.block id (.loop f)) Q s:=
 gN (M7 St b e h round)
theorem Vo {g:List (df P)} (m:gV P g) {r:List Nat} {i:Nat} {f:World} {a:Act} (j:o6 k o w c e s a f) (p:x.dst≠some k) (h:aU P g r b i x s=some s') {K:Act->World->Prop} {Q:Exit->Act->World->Prop} (n: ∀v l,o6 k o w c e s' (a.put x.dst v) l->K (a.put x.dst v) l):if Region.wanted x (yielded b a.tmps)then x.wp P a f K Q else K (a.put x.dst undef) f:=
 iv m j.1 h fun v l q=>n v l ⟨q,by rw[vI v p];exact j.2⟩
theorem wV (h:gk k b=true) (c:b[n]?=some x):x.dst≠some k:=by
 grind [gk]
theorem xB {c:List (df P)} (p:gV P c) {A:List Nat} {b:Array Oper} (q:gk k b=true) {x:Value} {y:World} {O X:Nat->Prop} {Q:Exit->Act->World->Prop}: ∀(l:List Oper) (n:Nat) (s s':AS) (a:Act) (w:World),(∀(j:Nat) o,l[j]?=some o->b[n+j]?=some o)->
  ib P c A b (l.zipIdx n) s=some s'->o6 k x y O X s a w->(∀m g,o6 k x y O X s' m g->Q .normal m g)->wpOps P b Q (List.range' n l.length) a w
 |[],n,s,s',a,w,_,h,r,e=>by
  simp only[acV,ib]at h;injection h with h
  subst h;exact e a w r
 |o::l,n,s,s',a,w,t,h,r,e=>by
  simp only[acb,ib]at h;split at h
  ·rename_i B f;simp only[aaP,abb,wpOps];have u:b[n]?=some o:=by have:=t 0 o rfl;omega
   rw[u];simp only;have:=Vo (Q:=Q) p r (wV q u) f (K:=wpOps P b Q (List.range' (n+1) l.length)) (fun v g z=>xB p q l (n+1) B s' _ _ (fun j o C=>by have:=t (j+1) o (by grind);grind) h z e);grind
  cases h
theorem It (c:List (ao P)) (g:List Nat) {id:Nat} (p:gk k b=true) (h:aS P (c.map ao.a) g (aJ b b.toList 0) (some s) (Q .normal)):fH P k (.region id b false) Q s:=fun t u O X a w r=>by
 obtain⟨s',m,n⟩:=aR P (c.map ao.a) g b b.toList 0 s (Q .normal) h;refine wp_region ?_;rw[aaX];have:=xB (ao.ok c) p (Q:=fun e f l=> ∃s',Q e s'/\o6 k t u O X s' f l) b.toList 0 s s' a w (fun j o v=>by grind) m r (fun f l q=>⟨s',n,q⟩);omega
theorem M6 (m:P.follows .mixedOrders=true) (c:List (ao P)) (u:List Nat) {id:Nat} (C:bY [] b=true) (J:gk k b=true) (h:aS P (c.map ao.a) u (aJ b b.toList 0) (some s) (Q .normal)):fH P k (.region id b true) Q s:=fun y A O X a w r=>by
 obtain⟨D,S,G⟩:=aR P (c.map ao.a) u b b.toList 0 s (Q .normal) h;refine wp_region_any m ?_;have H:dy P (c.map ao.a) u b (List.range b.size) s=some D:=by
  grind [List.range_eq_range',gS]
 have f:o6 k y A O X s a {w with drawn:=w.drawn+1}:=by
  obtain⟨⟨N,R,E,l,g⟩,t⟩:=r;have e:Ext w {w with drawn:=w.drawn+1}:=⟨rfl,rfl,rfl,aar _,fun _ _=>rfl⟩;have g:aV X E s a w:=g;exact⟨⟨N,R,E,l.grow e,g.grow e⟩,t⟩
 refine pm (sep:=[]) (lF C (by simp)) C (Q:=fun e F z=> ∃s',Q e s'/\o6 k y A O X s' F z) (fun _ s a w=>o6 k y A O X s a w) ⟨eP r.1,fun x M=>by simp at M⟩ H (fun p a w B q=>⟨D,G,q⟩) (fun p i o s V a w K n L _ t q I=>?_) b.size (Array.replicate b.size false) s a _ (by simp) ?_ ?_ ?_ f
 ·exact Vo (ao.ok c) q (wV J n) t fun v z f=>I v z f
 ·intro j o n U;have T:j<b.size:=(aaD.1 n).1;simp_all
 ·grind
 have:l5 b.size (fun j=>(Array.replicate b.size false).getD j true)=[]:=by
  simp_all[l5]
 rw[this];rfl
theorem vC (c:List (ao P)) (e:List Nat) {id:Nat} (g:gk k b=true) (h: ∀K:AS->Prop,(∀s',fH P k f Q s'->K s')->aS P (c.map ao.a) e (aJ b b.toList 0) (some s) K):fH P k (.seq (.region id b false) f) Q s:=
 db (It c e g (h _ fun _ h=>h))
theorem M8 (c:List (ao P)) (e:List Nat) {id:Nat} (f:gk k b=true) (h: ∀K:AS->Prop,(∀s',Q .normal s'->K s')->aS P (c.map ao.a) e (aJ b b.toList 0) (some s) K):fH P k (.region id b false) Q s:=
 It c e f (h _ fun _ h=>h)
theorem yJ (e:P.follows .mixedOrders=true) (c:List (ao P)) (g:List Nat) {id:Nat} (j:bY [] b=true) (l:gk k b=true) (h: ∀K:AS->Prop,(∀s',fH P k f Q s'->K s')->aS P (c.map ao.a) g (aJ b b.toList 0) (some s) K):fH P k (.seq (.region id b true) f) Q s:=
 db (M6 e c g j l (h _ fun _ h=>h))
theorem r8 {id:Nat} (c:gk k b=true) (h: ∀K:AS->Prop,(∀s',fH P k f Q s'->K s')->aS P [] [] (aJ b b.toList 0) (some s) K):fH P k (.seq (.region id b false) f) Q s:=vC [] [] c h
theorem yI {id:Nat} (c:gk k b=true) (h: ∀K:AS->Prop,(∀s',Q .normal s'->K s')->aS P [] [] (aJ b b.toList 0) (some s) K):fH P k (.region id b false) Q s:=M8 [] [] c h
theorem Fy (g:P.follows .mixedOrders=true) {id:Nat} (c:bY [] b=true) (e:gk k b=true) (h: ∀K:AS->Prop,(∀s',fH P k f Q s'->K s')->aS P [] [] (aJ b b.toList 0) (some s) K):fH P k (.seq (.region id b true) f) Q s:=yJ g [] [] c e h
end
/-! The contract of a function that writes a row. -/
def rho1 (b c:Nat):Rho:=fun a r=>if a=0/\r=0 then some (b,c)else none
structure tn (P:Program) (f:FuncId) (args:List TV) (k off len:Nat) (o o':OObj) (r:TV):Prop where
 able:callable P f=true
 es:o'.es=o.es
 size:o'.elems.length=o.elems.length
 pure: ∀e∈o'.elems,∀x∈e,isPure x=true
 noref:noRefTV r=true
 calls: ∀(X:Nat->Prop) (w:World) (vs:Array Value) (b c:Nat),(∀j,X j->j<w.heap.size)-> ¬X b->objRel (rho1 b c) (famH 0 [o]) (fun j=>X j\/j=b) w 0 0 o->vs.size=args.length->
  vs[k]?=some (.slice (some ⟨b,off*o.es,none⟩) len (c-off))->(∀(j:Nat) t,j≠k->args[j]?=some t-> ∃v:Value,vs[j]?=some v/\t.rel (fun _ _=>none) (fun _=>[]) (fun j=>X j\/j=b) w v)->
  Calls P f vs w fun e w'=> ∃v,e= .returned v/\But b w w'/\objRel (rho1 b c) (famH 0 [o']) (fun j=>X j\/j=b) w' 0 0 o'/\r.rel (rho1 b c) (famH 0 [o']) (fun j=>X j\/j=b) w' v
theorem xo1 {X:Nat->Prop} {b c:Nat} {o:OObj}:Xo X (rho1 b c) (famH 0 [o])=fun j=>X j\/j=b:=by
 funext j;apply propext;constructor
 ·rintro(h|⟨a,r,l,e,f,g⟩)
  ·exact .inl h
  grind [rho1]
 rintro(h|rfl)
 ·exact .inl h
 exact .inr ⟨0,0,o,c,rfl,by simp[rho1]⟩
theorem Dy {a:Nat} (b:(famH 0 [h] a)[n]?=some j):a=0/\n=0/\j=h:=by
 grind [famH]
theorem nL {q:Rho} {B:OH} {a A:Nat} (L: ∀e∈h.elems,∀x∈e,isPure x=true) (g:objRel t v c w a n h) (s:q m A=t a n):objRel q B c w m A h:=by
 obtain⟨J,K,u⟩:=g;refine⟨J,K,?_⟩;rw[s];cases M:t a n with
 |none=>grind
 |some C=>
  obtain⟨b,f⟩:=C;rw[M]at u;obtain⟨cells,D,E,F,G,I⟩:=u;refine⟨cells,D,E,F,G,fun i e j x y z=>?_⟩;obtain⟨l,N,O,P⟩:=I i e j x y z;refine⟨l,N,O,?_⟩;have:=L e (aai y) x (aai z);cases x with
  |p x=>exact P
  |_=>cases this
theorem sT {g:Rho} {m:OH} (l:noRefTV r=true) (h:r.rel t v c w o):r.rel g m c w o:=by
 have y: ∀x u,fm x=true->AV.rel t v c w x u->AV.rel g m c w x u:=fun x u s D=>by
  cases x with
  |p x=>exact D
  |junk=>trivial
  |_=>cases s
 have agg: ∀e o,e.all fm=true->bH t v c w e o->bH g m c w e o:=fun e o C ⟨vs,n,q,z⟩=>by
  simp only[aat]at C;exact⟨vs,n,q,fun j x s=>by grind⟩
 cases r with
 |one x=>exact y x o l h
 |agg e=>exact agg e o l h
 |fn f e=>obtain⟨u,A,B⟩:=h;exact⟨u,agg e u l A,B⟩
 |tup F=>
  simp only[noRefTV,aat]at l;obtain⟨vs,n,q,z⟩:=h;refine⟨vs,n,q,fun j b e E=>?_⟩;grind
def Zz (P:Program) (c:Func) (k b len:Nat) (e:OObj) (r:TV) (s:AS):Prop:=
 s.tmps[k]?=some (.one (.sl 0 0 b len))/\s.H=famH 0 [e]/\pS P s c.results.toList=some r
theorem vT {P:Program} {g:FuncId} {fn:Func} {args:List TV} {k len:Nat} (hf:P.funcs[g]?=some fn) (hb:fn.body=some f) (hn:callable P g=true) (hk:k<args.length) (af:0<len) (ab:n+len<=h.elems.length) (al: ∀e∈h.elems,∀x∈e,isPure x=true) (he:j.es=h.es) (hs:j.elems.length=h.elems.length) (hp: ∀e∈j.elems,∀x∈e,isPure x=true) (hr:noRefTV r=true) (l:fH P k f (fun e s=>(e= .normal\/e= .ret)/\ ∃s',bG s s'/\Zz P fn k n len j r s') ⟨args.set k (.one (.sl 0 0 n len))++List.replicate (fn.ntmps-args.length) .undef,famH 0 [h]⟩):tn P g args k n len h j r:=by
 refine⟨hn,he,hs,hp,hr,fun X w vs b A hX ag H ac av I=>?_⟩;refine calls_of_wp hf hb ?_;have V:=xo1 (X:=X) (b:=b) (c:=A) (o:=h);have ae:b<w.heap.size:=by
  obtain⟨_,_,q⟩:=H;grind [rho1]
 have Y:len<=A-n:=by
  obtain⟨_,_,q⟩:=H;grind [rho1]
 have O:o6 k (.slice (some ⟨b,n*h.es,none⟩) len (A-n)) w (fun m=>m=b) X ⟨args.set k (.one (.sl 0 0 n len))++List.replicate (fn.ntmps-args.length) .undef,famH 0 [h]⟩ {tmps:=vs++Array.replicate (fn.ntmps-vs.size) undef,defers:=[]} w:=by
  refine⟨⟨rfl,by simp[ac],rho1 b A,⟨Keep.refl w,fun a r o1 ho=>?_,fun a r a' r' o1 N b1 c1 c2 ho ah _ _=>?_,fun a r o1 b1 c1 ho D=>?_,hX,fun a r o1 ho=>?_⟩,fun t x M=>?_⟩,?_⟩
  ·grind [famH]
  ·grind [Dy]
  ·grind [rho1]
  ·grind [Dy,dG]
  ·show ∃v:Value,_/\x.rel (rho1 b A) (famH 0 [h]) (Xo X (rho1 b A) (famH 0 [h])) w v;rw[V];by_cases ht:t<args.length
   ·rw[aaB (by grind)]at M;by_cases L:t=k
    ·subst L;rw[abA ht]at M;injection M with M
     subst M;exact⟨_,by grind,h,rfl,ab,.inr ⟨b,A,A-n,by simp[rho1],rfl,Y,fun _=>rfl⟩⟩
    rw[abq (acE L)]at M;obtain⟨v,v1,Q⟩:=I t x L M;refine⟨v,by grind,TV.rel_map Q (fun y u hy=>?_)⟩;cases y with
    |p y=>exact hy
    |sl a r n len=>obtain⟨h,D,_⟩:=hy;simp at D
    |ptr a r i m=>obtain⟨h,_,_,D,_⟩:=hy;simp at D
    |fn g a qs=>grind [qA]
    |junk=>trivial
   grind [eJ]
  grind
 refine wp_mono (l _ _ _ _ _ _ O) fun e a' S ⟨s1,⟨W,s2,hw,T,B,U⟩,J⟩=>?_
 obtain⟨⟨D,ap,ρ,z,C⟩,K⟩:=J.weak hw;have C:aV X ρ s2 a' S:=C;rw[B]at z;obtain⟨v,v1,Q⟩:=fF (by rw[B];exact z) C U;rw[B]at Q
 -- the row has not moved
 obtain⟨u,R,u2⟩:=C k _ T;rw[K]at R;injection R with R
 subst R;obtain⟨N,g1,g2,g3⟩:=u2;rw[B]at g1;obtain⟨_,_,rfl⟩:=Dy g1;have ad:ρ 0 0=some (b,A):=by
  grind
 have E:Xo X ρ (famH 0 [N])=fun m=>X m\/m=b:=by
  funext m;apply propext;constructor
  ·rintro(l|⟨a,r,o3,c',D,h2⟩)
   ·exact .inl l
   grind [Dy]
  rintro(l|rfl)
  ·exact .inl l
  exact .inr ⟨0,0,N,A,rfl,ad⟩
 have aa:=z.objs 0 0 N rfl;rw[E]at aa;rw[E]at Q;have F:But b w S:=⟨z.keep.os,z.keep.tape,z.keep.output,z.keep.size,fun m hj Z=>z.keep.block m hj Z⟩;have G:objRel (rho1 b A) (famH 0 [N]) (fun m=>X m\/m=b) S 0 0 N:=by
  grind [nL,rho1]
 have hv1:r.rel (rho1 b A) (famH 0 [N]) (fun m=>X m\/m=b) S v:=sT hr Q;rcases W with rfl|rfl
 ·exact⟨D,v,v1,v,rfl,F,G,hv1⟩
 exact⟨D,v,v1,v,rfl,F,G,hv1⟩
end
section
def iG:TV->Bool
 | .one (.p _)=>true
 | .agg b=>b.all isPure
 |_=>false
theorem xm {ρ:Rho} {H:OH} {Y:Nat->Prop} (e:c=Y) (b:iG r=true) (h:r.rel ρ H Y w o):r.rel t v c w o:=by
 subst e;refine sT ?_ h;unfold iG at b;split at b
 ·rfl
 ·rename_i g;simp only[noRefTV,aat]at b⊢;intro x f;have:=b x f;cases x<;>first|rfl|cases this
 cases b
def qZ (k:Nat):Nat->List TV->Bool
 |_,[]=>true
 |i,t::l=>(i==k||iG t)&&qZ k (i+1) l
theorem xk {k:Nat}: ∀{l:List TV} {i j:Nat} {t:TV},qZ k i l=true->i+j≠k->l[j]?=some t->iG t=true
 |[],_,_,_,_,_,h=>by simp at h
 |u::l,i,0,t,h,b,c=>by
  grind [qZ]
 |u::l,i,j+1,t,h,b,c=>by
  simp only[qZ,aaO]at h;exact xk (i:=i+1) (j:=j) h.2 (by omega) (by grind)
theorem pO {k:Nat} {args:List TV} (h:qZ k 0 args=true): ∀(j:Nat) t,j≠k->args[j]?=some t->iG t=true:=fun j t c b=>xk (i:=0) (j:=j) h (by omega) b
theorem ec {g:Type} (f:g->List PV) (l:List g): ∀e∈lc f l,∀x∈e,isPure x=true:=fun e b x c=>by
 simp only[lc,aau]at b;obtain⟨y,_,rfl⟩:=b;simp only[aau]at c;obtain⟨z,_,rfl⟩:=c;rfl
theorem fQ (F:List OObj):Hm [(0,F)]=famH 0 F:=by rfl
section
variable {P:Program} {s:AS} {a:Act} {w0 w:World} {O X:Nat->Prop}
theorem Rh (ah:dx w0 O X s a w) {c:Call} (ho:x.op= .call c) (ae:c.callee= .value (.func p)) {args:List TV} {k len E:Nat} (G:tn P p args k n len h j r) (a9:m<=4999) (hk:k<args.length) (a8:0<len) (a0:fA s.ev c.args.toList=some (args.set k (.one (.sl m E n len)))) (aa: ∀(l:Nat) t,l≠k->args[l]?=some t->iG t=true) (I:(s.H m)[E]?=some h) (bb: ∀e∈h.elems,∀B∈e,isPure B=true) {K:Act->World->Prop} (hK: ∀v w',dx w0 O X (AS.put ⟨s.tmps,ax s.H m ((s.H m).set E j)⟩ x.dst r) (a.put x.dst v) w'->K (a.put x.dst v) w'):x.wp P a w K q:=by
 obtain⟨h1,a4,J,C,S⟩:=ah;have S:aV X J s a w:=S;obtain⟨e1,e2⟩:=bV a0;have a3:(args.set k (.one (.sl m E n len)))[k]?=some (.one (.sl m E n len)):=abA hk;obtain⟨B,hx,a6⟩:=e2 k _ a3;obtain⟨D,g1,g2,g3⟩:=bz S B _ a6;rw[I]at g1;injection g1 with g1
 subst g1;obtain⟨b,Z,T,hv⟩: ∃b Z,J m E=some (b,Z)/\a.eval B= .slice (some ⟨b,n*h.es,none⟩) len (Z-n):=by
  grind
 have ba:=C.objs m E h I;have av:Xo X J s.H b:= .inr ⟨m,E,h,Z,I,T⟩;have Y:(fun l=>(Xo X J s.H l/\l≠b)\/l=b)=Xo X J s.H:=by
  grind
 have ac: ∀l,Xo X J s.H l->l<w.heap.size:=fun b hb=>by
  rcases hb with hb|⟨B,y,j,z,g1,g2⟩
  ·exact C.bar b hb
  exact bJ (C.objs B y j g1) g2
 have al:=jf (w:=w) ho ae (e:=a.eval) rfl G.able;unfold Oper.wp;rw[al];simp only[Oper.upon];have ab:c.args.size=args.length:=by grind
 refine(G.calls (fun l=>Xo X J s.H l/\l≠b) w (c.args.map a.eval) b Z (fun l U=>ac l U.1) (fun g=>g.2 rfl) ?_ (by simp[ab]) ?_ ?_).mono ?_
 ·grind [nL,rho1]
 ·grind
 ·intro l t U ht;rw[Y];have a5:(args.set k (.one (.sl m E n len)))[l]?=some t:=by grind
  obtain⟨y,hy,a7⟩:=e2 l t a5;refine⟨a.eval y,?_,xm rfl (aa l t U ht) (bz S y t a7)⟩;grind
 rintro e w1 ⟨v,rfl,L,W,ag⟩;show K (a.put x.dst v) w1;refine hK v w1 ?_;rw[Y]at W ag;have a1:=(aao.1 I).1;have V: ∀(B y:Nat) D,(ax s.H m ((s.H m).set E j) B)[y]?=some D->(B=m/\y=E/\D=j)\/(¬(B=m/\y=E)/\(s.H B)[y]?=some D):=fun B y D g=>by
  grind [aM,aG]
 have N: ∀(B y:Nat) D,(s.H B)[y]?=some D-> ∃M,(ax s.H m ((s.H m).set E j) B)[y]?=some M/\M.es=D.es/\D.elems.length<=M.elems.length/\J B y=J B y:=fun B y D g=>by
  by_cases hx:B=m
  ·subst hx;by_cases hy:y=E
   ·subst hy;rw[I]at g;injection g with g
    subst g;exact⟨j,by rw[aM,abA a1],G.es,by rw[G.size];omega,rfl⟩
   grind [aM]
  grind [aG]
 have F: ∀(B y:Nat) D,(ax s.H m ((s.H m).set E j) B)[y]?=some D-> ∃M,(s.H B)[y]?=some M:=fun B y D g=>by
  grind
 have ad:Xo X J (ax s.H m ((s.H m).set E j))=Xo X J s.H:=by
  funext l;apply propext;constructor
  ·rintro(g|⟨B,y,D,z,h1,h2⟩)
   ·exact .inl g
   obtain⟨M,R⟩:=F B y D h1;exact .inr ⟨B,y,M,z,R,h2⟩
  rintro(g|⟨B,y,D,z,h1,h2⟩)
  ·exact .inl g
  obtain⟨M,R,_⟩:=N B y D h1;exact .inr ⟨B,y,M,z,R,h2⟩
 have mono: ∀B u,AV.rel J s.H (Xo X J s.H) w B u->AV.rel J (ax s.H m ((s.H m).set E j)) (Xo X J (ax s.H m ((s.H m).set E j))) w1 B u:=fun B u hx=>
  ns av L N (fun B y D b' c' h1 h2 _=>by
   obtain⟨M,R⟩:=F B y D h1;exact .inr ⟨B,y,M,c',R,h2⟩) hx
 have a2:Inv w0 O X (ax s.H m ((s.H m).set E j)) J w1:=by
  refine⟨C.keep.but L (C.old m E h b Z I T).1,fun B y D g=>?_,fun B y x' y' D M l c1 c2 g h' A q'=>?_,fun B y D l c1 g A=>?_,fun l U=>aaA (C.bar l U) L.size,fun B y D g=>?_⟩
  ·rcases V B y D g with⟨rfl,rfl,rfl⟩|⟨af,g⟩
   ·rw[ad];exact nL G.pure W (by simp[rho1,T])
   refine dP (C.objs B y D g) rfl (fun l c1 U=>?_) mono;refine L.block l (bJ (C.objs B y D g) U) ?_;rintro rfl;exact af (C.inj B y m E D h l c1 Z g I U T)
  ·obtain⟨o3,R⟩:=F B y D g;obtain⟨o4,h4⟩:=F x' y' M h';exact C.inj B y x' y' o3 o4 l c1 c2 R h4 A q'
  ·obtain⟨o3,R⟩:=F B y D g;exact C.old B y o3 l c1 R A
  rcases V B y D g with⟨rfl,rfl,rfl⟩|⟨af,g⟩
  ·exact dG G.pure
  exact C.self B y D g
 have ap:aV X J ⟨s.tmps,ax s.H m ((s.H m).set E j)⟩ a w1:=fun t B hx=>by
  grind [TV.rel_map]
 refine⟨by grind [gJ],by grind [kh,jH],J,by grind [fE],pP a4 ap ?_⟩;show r.rel J (ax s.H m ((s.H m).set E j)) (Xo X J (ax s.H m ((s.H m).set E j))) w1 v;rw[ad];exact sT G.noref ag
def cwTs (b:Array Oper) (m:Nat) (s:AS):Option (FuncId×List TV):=match b[m]? with
 |some o=>match o.guard,o.op with
  |none,.call c=>match c.callee with
   | .value (.func f)=>match fA s.ev c.args.toList with
    |some e=>some (f,e)
    |none=>none
   |_=>none
  |_,_=>none
 |none=>none
def cwD (b:Array Oper) (m:Nat):Option Tmp:=(b[m]?).bind (·.dst)
def Wu (b:Array Oper) (m:Nat) (r:TV) (c e:Nat) (f:OObj) (s:AS):AS:=AS.put ⟨s.tmps,ax s.H c ((s.H c).set e f)⟩ (cwD b m) r
structure Vx (ops:Array Oper) (m:Nat) (f:FuncId) (args:List TV) (k off len fa fr:Nat) (o0:OObj) (s:AS):Prop where
 ts:cwTs ops m s=some (f,args.set k (.one (.sl fa fr off len)))
 row:(s.H fa)[fr]?=some o0
theorem yF (m:Nat) {args:List TV} {k len:Nat} (G:tn P p args k n len h j r) (A E:Nat) (u:List (ao P)) (z:List Nat) {id:Nat} (hk:k<args.length) (H:0<len) (C: ∀(q:Nat) t,q≠k->args[q]?=some t->iG t=true) (R: ∀e∈h.elems,∀x∈e,isPure x=true) (hl:s.tmps.length<=1000000) (hm:m<b.toList.length) (g:aS P (u.map ao.a) z (aJ b (b.toList.take m) 0) (some s) (fun y=>Vx b m p args k n len A E h y/\y.tmps.length<=1000000/\aS P (u.map ao.a) z (aJ b (b.toList.drop (m+1)) (m+1)) (some (Wu b m r A E j y)) (l .normal))) (M:A<=4999):bf P (.region id b false) l s:=fun w0 O X a w U=>by
 obtain⟨y,K,⟨v,q2⟩,N,L⟩:=aR P (u.map ao.a) z b _ 0 s _ g;obtain⟨s',Y,Z⟩:=aR P (u.map ao.a) z b _ (m+1) _ _ L;obtain⟨o,I⟩: ∃o,b[m]?=some o:=⟨b[m],by simp⟩;unfold cwTs at v;rw[I]at v;simp only at v;split at v
 ·rename_i c hg J;split at v
  ·rename_i W F;split at v
   ·rename_i ts S;injection v with v
    injection v with v T
    subst v T;refine wp_region ?_;have D:b.size=(b.toList.take m).length+(1+(b.toList.drop (m+1)).length):=by grind
    rw[D,aaX,<- abr,aa6];have B:(b.toList.take m).length=m:=by grind
    refine rp (ao.ok u) (b.toList.take m) 0 s y a w (fun q o hj=>?_) K U fun V w' r'=>?_
    ·grind
    rw[B,ab5 1,abb];simp only[wpOps,I];grind [Region.wanted,Rh,km,ao.ok,cwD,Wu]
   cases v
  cases v
 cases v
theorem vy (m:Nat) {args:List TV} {k len:Nat} (u:tn P p args k n len h j r) (A B:Nat) (o:List (ao P)) (E:List Nat) {id:Nat} (G:k<args.length) (v:0<len) (q: ∀(g:Nat) t,g≠k->args[g]?=some t->iG t=true) (D: ∀e∈h.elems,∀x∈e,isPure x=true) (H:s.tmps.length<=1000000) (I:m<b.toList.length) (c: ∀K:AS->Prop,(∀z,(Vx b m p args k n len A B h z/\z.tmps.length<=1000000/\ ∀K:AS->Prop,(∀F,bf P f l F->K F)->aS P (o.map ao.a) E (aJ b (b.toList.drop (m+1)) (m+1)) (some (Wu b m r A B j z)) K)->K z)->aS P (o.map ao.a) E (aJ b (b.toList.take m) 0) (some s) K) (C:A<=4999:=by decide):bf P (.seq (.region id b false) f) l s:=
 ai (yF m u A B o E G v q D H I (c _ fun z ⟨J,L,M⟩=>⟨J,L,M _ fun _ c=>c⟩) C)
theorem Fv (m:Nat) {args:List TV} {k len:Nat} (u:tn P p args k n len h j r) (z A:Nat) (o:List (ao P)) (D:List Nat) {id:Nat} (F:k<args.length) (v:0<len) (q: ∀(g:Nat) t,g≠k->args[g]?=some t->iG t=true) (C: ∀e∈h.elems,∀x∈e,isPure x=true) (G:s.tmps.length<=1000000) (H:m<b.toList.length) (c: ∀K:AS->Prop,(∀y,(Vx b m p args k n len z A h y/\y.tmps.length<=1000000/\ ∀K:AS->Prop,(∀E,l .normal E->K E)->aS P (o.map ao.a) D (aJ b (b.toList.drop (m+1)) (m+1)) (some (Wu b m r z A j y)) K)->K y)->aS P (o.map ao.a) D (aJ b (b.toList.take m) 0) (some s) K) (B:z<=4999:=by decide):bf P (.region id b false) l s:=
 yF m u z A o D F v q C G H (c _ fun y ⟨I,J,L⟩=>⟨I,J,L _ fun _ c=>c⟩) B
end
end
section
def gK:AV->Bool
 | .p (.raw _)=>true
 | .p (.sl [])=>true
 | .p _=>false
 |_=>true
def G8:TV->Bool
 | .one x=>gK x
 | .agg b=>b.all gK
 | .tup c=>c.all fun t=>t.2.all gK
 | .fn _ b=>b.all gK
def oL (r:CallRes):Prop:=G8 r.r=true/\ ∀o∈r.fam,∀e∈o.elems,∀x∈e,gK x=true
def sY:TV->Bool
 | .fn _ b=>b.all isPure
 |t=>iG t
def UL (H:OH) (t u:TV):Prop:=(sY t=true/\u=t)\/ ∃a r b len,t= .one (.sl a r b len)/\qB H a/\ew H a t=u
def ArgsFz (H:OH):List TV->List TV->Prop
 |[],[]=>True
 |t::b,u::c=>UL H t u/\ArgsFz H b c
 |_,_=>False
theorem yZ {H:OH}: ∀{b c:List TV},ArgsFz H b c->c.length=b.length/\ ∀(j:Nat) u,c[j]?=some u-> ∃t,b[j]?=some t/\UL H t u
 |[],[],_=>⟨rfl,fun j u h=>by simp at h⟩
 |t::b,u::c,⟨l,e⟩=>by
  obtain⟨f,g⟩:=yZ e;grind
 |[],_::_,h=>h.elim
 |_::_,[],h=>h.elim
section
variable {P:Program} {s:AS} {a:Act} {w0 w w1:World} {O X:Nat->Prop} {ρ:Rho} {H:OH}
theorem nX {x:AV} (y:gK x=true) (h:AV.rel ρ H c w x o):AV.rel ρ H e w x o:=by
 cases x with
 |p x=>
  cases x with
  |raw u=>
   obtain⟨rfl,A⟩:=aX (ρ:=ρ) (H:=H) h;exact bM.raw _ A
  |sl q=>
   cases q with
   |nil=>
    have h:bM c w (.sl []) o:=h;generalize m:PV.sl []=x at h;cases h with
    |raw o h=>cases m
    |ptr b n z f B C D F=>cases m
    |nil a g=>exact bM.nil _ _
    |sl b n G cap q f B C E t I D F=>
     injection m with m
     subst m;exact bM.nil _ _
   |cons l q=>cases y
  |ptr z=>cases y
 |sl a r n len=>exact h
 |ptr a r i j=>exact h
 |fn=>exact h
 |junk=>trivial
theorem xG (l:G8 r=true) (h:r.rel ρ H c w o):r.rel ρ H e w o:=by
 have agg: ∀g o,g.all gK=true->bH ρ H c w g o->bH ρ H e w g o:=fun g o z ⟨vs,m,n,p⟩=>by
  simp only[aat]at z;exact⟨vs,m,n,fun j x B=>by grind [nX]⟩
 cases r with
 |one x=>exact nX l h
 |agg g=>exact agg g o l h
 |fn f g=>obtain⟨u,q,y⟩:=h;exact⟨u,agg g u l q,y⟩
 |tup C=>
  simp only[G8,aat]at l;obtain⟨vs,m,n,p⟩:=h;refine⟨vs,m,n,fun j b g A=>?_⟩;grind [nX]
theorem kQ {e:Rho} {t:TV} (b:iG t=true) (h:t.rel ρ H c w o):t.rel e v (fun _=>False) w o:=by
 refine xm (Y:=fun _=>False) rfl b ?_ (ρ:=ρ) (H:=H);unfold iG at b;split at b
 ·exact bM.weaken (fun _ _ h=>h.elim) h
 ·rename_i r;simp only[aat]at b;obtain⟨vs,g,l,m⟩:=h;refine⟨vs,g,l,fun j x f=>?_⟩;obtain⟨u,n,p,q⟩:=m j x f;have:=b x (aai f);refine⟨u,n,p,?_⟩;cases x<;>first|exact bM.weaken (fun _ _ h=>h.elim) q|cases this
 cases b
theorem nO (b:sY r=true) (h:r.rel ρ H c w o):r.rel t v (fun _=>False) w o:=by
 cases r with
 |fn f e=>
  obtain⟨u,g,j⟩:=h;exact⟨u,kQ (t:= .agg e) b g,j⟩
 |one x=>exact kQ b h
 |agg e=>exact kQ b h
 |tup l=>exact kQ b h
theorem SQ (q: ∀(x m:Nat) (b:OObj),(H x)[m]?=some b->objRel ρ H c w x m b) {l len:Nat} (B:qB H n) (p:ew H n (.one (.sl n m l len))=r) (h:AV.rel ρ H c w (.sl n m l len) o):r.rel (fun _ _=>none) (fun _=>[]) (fun _=>False) w o:=by
 have f: ∀x r,isPure x=true->AV.rel ρ H c w x r->bM (fun _=>False) w (uq x) r:=fun x r z h=>by
  cases x<;>first|exact bM.weaken (fun _ _ h=>h.elim) h|cases z
 have g: ∀(m:Nat) b,(H n)[m]?=some b-> ∀e∈b.elems,∀x∈e,∀r,AV.rel ρ H c w x r->bM (fun _=>False) w (kC H n x) r:=fun m b E e A x F r p=>by
  rcases B m b E e A x F with z|⟨J,l,len,I,rfl,j,C⟩
  ·have:=f x r z p;cases x<;>first|exact this|cases z
  simp only[kC,j];exact kN (q n J I j) j (fun e A y G r p=>f y r (C e A y G) p) (fun _ _ _ h=>h) p
 subst p;have D:=h;obtain⟨b,t,K,L⟩:=h;simp only[ew,dF,if_true,t];exact kN (q n m b t) t (g m b t) (fun _ _ _ h=>h) D
theorem Ph (S:dx w0 O X s a w) {c:Call} (E:x.op= .call c) (L:c.callee= .value (.func p)) {args:List TV} {res:CallRes} (C:CallC P p args res) (A:oL res) {ts:List TV} {d:Nat} (Z:fA s.ev c.args.toList=some ts) (J:ArgsFz s.H ts args) (hd:res.fam≠[]->s.H d=[]) (M:x.dst=some d) {K:Act->World->Prop} (hK: ∀v w',dx w0 O X (jj s d (renTV d res.r) (res.fam.map (renO d))) (a.put x.dst v) w'->K (a.put x.dst v) w'):x.wp P a w K q:=by
 obtain⟨h1,U,ρ,l,B⟩:=S;have B:aV X ρ s a w:=B;obtain⟨e1,e2⟩:=bV Z;obtain⟨q1,q2⟩:=yZ J;have I: ∀j,Xo X ρ s.H j->j<w.heap.size:=fun b D=>by
  rcases D with D|⟨g,y,o',n,g1,g2⟩
  ·exact l.bar b D
  exact bJ (l.objs g y o' g1) g2
 have T:=jf (w:=w) E L (e:=a.eval) rfl C.1;unfold Oper.wp;rw[T];simp only[Oper.upon];have F:c.args.size=args.length:=by grind
 refine(C.2 (fun _=>False) w (c.args.map a.eval) (fun j hj=>hj.elim) (by simp[F]) fun j u hu=>?_).mono ?_
 ·obtain⟨t,ht,W⟩:=q2 j u hu;obtain⟨y,hy,ae⟩:=e2 j t ht;refine⟨a.eval y,?_,?_⟩
  ·grind
  have V:=bz B y t ae;rcases W with⟨hp,rfl⟩|⟨fa,r,ag,len,rfl,ab,aa⟩
  ·exact nO hp V
  exact SQ l.objs ab aa V
 rintro e w1 ⟨v,rfl,m,G,V⟩;show K (a.put x.dst v) w1;have N: ∀(g r:Nat) x,(famH 0 res.fam g)[r]?=some x->x∈res.fam:=fun g r x E=>by
  grind [famH]
 have R: ∀{Y Y':Nat->Prop} (g r:Nat) x,x∈res.fam->objRel m (famH 0 res.fam) Y w1 g r x->objRel m (famH 0 res.fam) Y' w1 g r x:=fun{Y Y'} g r x hmem hob=>by
  obtain⟨z1,z2,z3⟩:=hob;refine⟨z1,z2,?_⟩;cases ad:m g r with
  |none=>grind
  |some bc=>
   obtain⟨b,n⟩:=bc;rw[ad]at z3;obtain⟨cells,p1,p2,p3,p4,p5⟩:=z3;refine⟨cells,p1,p2,p3,p4,fun i e j z he hz=>?_⟩;obtain⟨u,u1,u2,u3⟩:=p5 i e j z he hz;exact⟨u,u1,u2,nX (A.2 x hmem e (aai he) z (aai hz)) u3⟩
 by_cases ac:res.plain=true
 ·rw[M];have:=lD (P:=P) (it:=(⟨0,p,args,res⟩:df P)) (d:=d) (v:=v) (w1:=w1) (ρc:=m) h1 U l B rfl rfl (fun h:res.fam.map (renO d)≠[]=>hd (by grind)) (by grind) (by grind);grind
 have af:Inv w (fun _=>False) (Xo X ρ s.H) (famH 0 res.fam) m w1:=
  ⟨G.keep,fun g r x E=>R g r x (N g r x E) (G.objs g r x E),G.inj,fun g r x b c E D=>by
   have:=G.old g r x b c E D;grind,fun b D=>aaA (I b D) G.keep.size,G.self⟩
 have:=lD (P:=P) (it:=(⟨0,p,args,res⟩:df P)) (d:=d) (v:=v) (w1:=w1) (ρc:=m) h1 U l B rfl rfl (fun h:res.fam.map (renO d)≠[]=>hd (by grind)) (by grind) (by rw[if_neg ac];exact xG A.1 V);grind
def YG (b:Array Oper) (m:Nat) (res:CallRes) (s:AS):AS:=match cwD b m with
 |some d=>jj s d (renTV d res.r) (res.fam.map (renO d))
 |none=>s
structure Yh (ops:Array Oper) (m:Nat) (f:FuncId) (args:List TV) (res:CallRes) (s:AS):Prop where
 ts: ∃ts,cwTs ops m s=some (f,ts)/\ArgsFz s.H ts args
 dst: ∃d,cwD ops m=some d/\(res.fam≠[]->s.H d=[])
theorem Kh (m:Nat) {args:List TV} {res:CallRes} (x:CallC P p args res) (t:oL res) (e:List (ao P)) (q:List Nat) {id:Nat} (S:s.tmps.length<=1000000) (T:m<b.toList.length) (h:aS P (e.map ao.a) q (aJ b (b.toList.take m) 0) (some s) (fun n=>Yh b m p args res n/\n.tmps.length<=1000000/\aS P (e.map ao.a) q (aJ b (b.toList.drop (m+1)) (m+1)) (some (YG b m res n)) (l .normal))):bf P (.region id b false) l s:=fun w0 O X a w G=>by
 obtain⟨n,B,⟨⟨I,g,U⟩,⟨d,V,W⟩⟩,D,C⟩:=aR P (e.map ao.a) q b _ 0 s _ h;obtain⟨Z,L,M⟩:=aR P (e.map ao.a) q b _ (m+1) _ _ C;obtain⟨o,z⟩: ∃o,b[m]?=some o:=⟨b[m],by simp⟩;have y:o.dst=some d:=by
  grind [cwD]
 unfold cwTs at g;rw[z]at g;simp only at g;split at g
 ·rename_i c N A;split at g
  ·rename_i K v;split at g
   ·rename_i ts E;injection g with g
    injection g with g F
    subst g F;refine wp_region ?_;have u:b.size=(b.toList.take m).length+(1+(b.toList.drop (m+1)).length):=by grind
    rw[u,aaX,<- abr,aa6];have r:(b.toList.take m).length=m:=by grind
    refine rp (ao.ok e) (b.toList.take m) 0 s n a w (fun j o R=>?_) B G fun J w' Y=>?_
    ·grind
    rw[r,ab5 1,abb];simp only[wpOps,z];grind [Region.wanted,Ph,km,ao.ok,YG]
   cases g
  cases g
 cases g
theorem vw (m:Nat) {args:List TV} {res:CallRes} (g:CallC P p args res) (e:oL res) (c:List (ao P)) (n:List Nat) {id:Nat} (q:s.tmps.length<=1000000) (r:m<b.toList.length) (h: ∀K:AS->Prop,(∀j,(Yh b m p args res j/\j.tmps.length<=1000000/\ ∀K:AS->Prop,(∀o,bf P f l o->K o)->aS P (c.map ao.a) n (aJ b (b.toList.drop (m+1)) (m+1)) (some (YG b m res j)) K)->K j)->aS P (c.map ao.a) n (aJ b (b.toList.take m) 0) (some s) K):bf P (.seq (.region id b false) f) l s:=
 ai (Kh m g e c n q r (h _ fun j ⟨t,u,v⟩=>⟨t,u,v _ fun _ h=>h⟩))
end
end
end Go.Proofs.YtalmoejhjceflaaGreat
