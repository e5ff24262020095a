/-
  Part 17 of a proof (walks and plain facts).
-/
import Derived.Test.YtalmoejhjceflaaGreatQ15
import Derived.Shelf.Small.Bits
import Derived.Ground.NamesProg
import Derived.Test.YtalmoejhjceflaaGreatProg
set_option linter.all false
set_option maxRecDepth 100000
set_option maxHeartbeats 64000000
namespace Go.Proofs.YtalmoejhjceflaaGreat
open Go.RowKit Go.Proofs.Tryz
variable {b c:Nat->Prop} {e f:Code} {g:Array Oper} {h j:OObj} {n:Nat} {l:Exit->AS->Prop} {m:Value} {w:World} {o:TV} {p:Rho} {q:Operand} {r:FuncId} {s:OH} {t:Oper}
section
theorem n9 {a:Act} {d:Option Tmp} {k:Nat} (v:Value) (h:d≠some k):(a.put d v).tmps[k]?=a.tmps[k]?:=by
 cases d with
 |none=>rfl
 |some d=>
  grind [Act.put]
def md (k:Nat) (b:Value) (c:World) (O X:Nat->Prop) (s:AS) (a:Act) (w:World):Prop:=dq c O X s a w/\a.tmps[k]?=some b
def fX (P:Program) (k:Nat) (c:Code) (Q:Exit->AS->Prop) (s:AS):Prop:=
 ∀(f:Value) (g:World) (O X:Nat->Prop) (a:Act) (w:World),md k f g O X s a w->c.wp P (fun e h j=> ∃b,Q e b/\md k f g O X b h j) a w
def f5 (k:Nat) (b:Array Oper):Bool:=b.toList.all fun o=>o.dst !=some k
section
variable {P:Program} {k:Nat} {s s':AS} {Q:Exit->AS->Prop}
theorem md.weak {e:World} {a:Act} (h:bJ s s') (r:md k m w b c s a e):md k m w b c s' a e:=⟨h _ _ _ _ _ r.1,r.2⟩
theorem fX.weak (h:bJ s s') (r:fX P k e Q s'):fX P k e Q s:=fun _ _ _ _ _ _ q=>r _ _ _ _ _ _ (q.weak h)
theorem fX.mono (h:fX P k e Q s) (q: ∀b s',Q b s'->l b s'):fX P k e l s:=fun _ _ _ _ _ _ r=>
 wp_mono (h _ _ _ _ _ _ r) fun _ _ _ ⟨s',f,g⟩=>⟨s',q _ _ f,g⟩
theorem db (h:Q .normal s):fX P k .skip Q s:=fun _ _ _ _ _ _ r=>wp_skip ⟨s,h,r⟩
theorem je {id:Nat} (h:Q (.exit id) s):fX P k (.exit id) Q s:=fun _ _ _ _ _ _ r=>wp_exit ⟨s,h,r⟩
theorem eK (h:Q .ret s):fX P k .ret Q s:=fun _ _ _ _ _ _ r=>wp_ret ⟨s,h,r⟩
theorem bG (h:fX P k e (iH (fX P k f Q) Q) s):fX P k (.seq e f) Q s:=fun _ _ _ _ _ _ r=>
 wp_seq (wp_mono (h _ _ _ _ _ _ r) fun b a w ⟨s',c,g⟩=>by
  cases b with
  |normal=>exact c _ _ _ _ _ _ g
  |_=>exact⟨s',c,g⟩)
theorem eG {id:Nat} (h:fX P k e (ou id Q) s):fX P k (.block id e) Q s:=fun _ _ _ _ _ _ r=>
 wp_block (wp_mono (h _ _ _ _ _ _ r) fun b a w ⟨s',c,f⟩=>by
  cases b with
  |exit g=>
   grind [ou,Exit.inBlock]
  |_=>exact⟨s',c,f⟩)
theorem FE {b:Bool} (m:s.ev q=some (.raw (.bool b))) (p:b=true->fX P k e Q s) (n:b=false->fX P k f Q s):fX P k (.cond q e f) Q s:=fun _ _ _ _ _ _ r=>by
 obtain⟨t,o,u,j,g⟩:=id r.1;have l:=(aZ (bv g q _ m)).1;exact wp_cond_split l (fun h=>p h _ _ _ _ _ _ r) (fun h=>n h _ _ _ _ _ _ r)
theorem f9 (b:s.ev q=some (.raw (.bool true))) (h:fX P k e Q s):fX P k (.cond q e f) Q s:=FE b (fun _=>h) (fun h=>by cases h)
theorem fK (b:s.ev q=some (.raw (.bool false))) (h:fX P k f Q s):fX P k (.cond q e f) Q s:=FE b (fun h=>by cases h) (fun _=>h)
theorem vL (b:s.ev q=some (.raw (.bool true))) (h:fX P k f Q s):fX P k (.seq (.cond q .skip e) f) Q s:=bG (f9 b (db h))
theorem vK {id:Nat} (b:s.ev q=some (.raw (.bool false))) (h:Q (.exit id) s):fX P k (.seq (.cond q e (.exit id)) f) Q s:=bG (fK b (je h))
theorem Qr {G:Type} (St:G->AS) (q:G->Nat) (x:G) (C:bJ s (St x)) (round: ∀g,fX P k e (iH (fun s'=> ∃j,q j<q g/\bJ s' (St j)) Q) (St g)):fX P k (.loop e) Q s:=fun J K O X a w r=>by
 classical
 let p:Act->World->Nat->Prop:=fun a w n=> ∃g,q g=n/\md k J K O X (St g) a w
 let m:Act->World->Nat:=fun a w=>if h: ∃n,p a w n then Classical.choose (bN h)else 0
 refine wp_loop (fun a w=> ∃n,p a w n) m ⟨_,x,rfl,r.weak C⟩ ?_;intro a w t;have E:m a w=Classical.choose (bN t):=dif_pos t;obtain⟨A,o⟩:=adz (bN t);rw[<- E]at A;obtain⟨g,L,H⟩:=A;refine wp_mono (round g _ _ _ _ _ _ H) fun b v B ⟨s',y,z⟩=>?_
 cases b with
 |normal=>
  obtain⟨j,D,I⟩:=y;have l:=z.weak I;have f: ∃n,p v B n:=⟨_,j,rfl,l⟩;refine⟨f,?_⟩;have F:m v B=Classical.choose (bN f):=dif_pos f;obtain⟨_,u⟩:=adz (bN f);have:=u (q j) ⟨j,rfl,l⟩;omega
 |_=>exact⟨s',y,z⟩
theorem gQ {G:Type} (St:G->AS) (b:G->Nat) (f:G) {id:Nat} (h:bJ s (St f)) (round: ∀g,fX P k e (iH (fun s'=> ∃c,b c<b g/\bJ s' (St c)) (ou id Q)) (St g)):fX P k (.block id (.loop e)) Q s:=
 eG (Qr St b f h round)
theorem Ic {f:List (cG P)} (n:iJ P f) {u:List Nat} {i:Nat} {e:World} {a:Act} (j:md k m w b c s a e) (q:t.dst≠some k) (h:be P f u g i t s=some s') {K:Act->World->Prop} {Q:Exit->Act->World->Prop} (p: ∀v l,md k m w b c s' (a.put t.dst v) l->K (a.put t.dst v) l):if Region.wanted t (yielded g a.tmps)then t.wp P a e K Q else K (a.put t.dst undef) e:=
 jT n j.1 h fun v l r=>p v l ⟨r,by rw[n9 v q];exact j.2⟩
theorem kJ (h:f5 k g=true) (b:g[n]?=some t):t.dst≠some k:=by
 grind [f5]
theorem sW {c:List (cG P)} (p:iJ P c) {A:List Nat} {b:Array Oper} (q:f5 k b=true) {x:Value} {y:World} {O X:Nat->Prop} {Q:Exit->Act->World->Prop}: ∀(l:List Oper) (n:Nat) (s s':AS) (a:Act) (w:World),(∀(j:Nat) o,l[j]?=some o->b[n+j]?=some o)->
  gB P c A b (l.zipIdx n) s=some s'->md k x y O X s a w->(∀m g,md k x y O X s' m g->Q .normal m g)->wpOps P b Q (List.range' n l.length) a w
 |[],n,s,s',a,w,_,h,r,e=>by
  simp only[aek,gB]at h;injection h with h
  subst h;exact e a w r
 |o::l,n,s,s',a,w,t,h,r,e=>by
  simp only[adQ,gB]at h;split at h
  ·rename_i B f;simp only[acC,acW,wpOps];have u:b[n]?=some o:=by have:=t 0 o rfl;omega
   rw[u];simp only;have:=Ic (Q:=Q) p r (kJ q u) f (K:=wpOps P b Q (List.range' (n+1) l.length)) (fun v g z=>sW p q l (n+1) B s' _ _ (fun j o C=>by have:=t (j+1) o (by grind);grind) h z e);grind
  cases h
theorem LB (b:List (aq P)) (f:List Nat) {id:Nat} (p:f5 k g=true) (h:aY P (b.map aq.a) f (aK g g.toList 0) (some s) (Q .normal)):fX P k (.region id g false) Q s:=fun t u O X a w r=>by
 obtain⟨s',m,n⟩:=aP P (b.map aq.a) f g g.toList 0 s (Q .normal) h;refine wp_region ?_;rw[acK];have:=sW (aq.ok b) p (Q:=fun e c l=> ∃s',Q e s'/\md k t u O X s' c l) g.toList 0 s s' a w (fun j o v=>by grind) m r (fun c l q=>⟨s',n,q⟩);omega
theorem Qq (m:P.follows .mixedOrders=true) (b:List (aq P)) (u:List Nat) {id:Nat} (C:bZ [] g=true) (J:f5 k g=true) (h:aY P (b.map aq.a) u (aK g g.toList 0) (some s) (Q .normal)):fX P k (.region id g true) Q s:=fun y A O X a w r=>by
 obtain⟨D,S,G⟩:=aP P (b.map aq.a) u g g.toList 0 s (Q .normal) h;refine wp_region_any m ?_;have H:cY P (b.map aq.a) u g (List.range g.size) s=some D:=by
  grind [List.range_eq_range',gJ]
 have c:md k y A O X s a {w with drawn:=w.drawn+1}:=by
  obtain⟨⟨N,R,E,l,f⟩,t⟩:=r;have e:Ext w {w with drawn:=w.drawn+1}:=⟨rfl,rfl,rfl,acs _,fun _ _=>rfl⟩;have f:bo X E s a w:=f;exact⟨⟨N,R,E,l.grow e,f.grow e⟩,t⟩
 refine oc (sep:=[]) (lZ C (by simp)) C (Q:=fun e F z=> ∃s',Q e s'/\md k y A O X s' F z) (fun _ s a w=>md k y A O X s a w) ⟨fd r.1,fun x M=>by simp at M⟩ H (fun p a w B q=>⟨D,G,q⟩) (fun p i o s V a w K n L _ t q I=>?_) g.size (Array.replicate g.size false) s a _ (by simp) ?_ ?_ ?_ c
 ·exact Ic (aq.ok b) q (kJ J n) t fun v z c=>I v z c
 ·intro j o n U;have T:j<g.size:=(acB.1 n).1;simp_all
 ·grind
 have:mU g.size (fun j=>(Array.replicate g.size false).getD j true)=[]:=by
  simp_all[mU]
 rw[this];rfl
theorem yR (b:List (aq P)) (c:List Nat) {id:Nat} (f:f5 k g=true) (h: ∀K:AS->Prop,(∀s',fX P k e Q s'->K s')->aY P (b.map aq.a) c (aK g g.toList 0) (some s) K):fX P k (.seq (.region id g false) e) Q s:=
 bG (LB b c f (h _ fun _ h=>h))
theorem Qs (b:List (aq P)) (c:List Nat) {id:Nat} (e:f5 k g=true) (h: ∀K:AS->Prop,(∀s',Q .normal s'->K s')->aY P (b.map aq.a) c (aK g g.toList 0) (some s) K):fX P k (.region id g false) Q s:=
 LB b c e (h _ fun _ h=>h)
theorem B8 (c:P.follows .mixedOrders=true) (b:List (aq P)) (f:List Nat) {id:Nat} (j:bZ [] g=true) (l:f5 k g=true) (h: ∀K:AS->Prop,(∀s',fX P k e Q s'->K s')->aY P (b.map aq.a) f (aK g g.toList 0) (some s) K):fX P k (.seq (.region id g true) e) Q s:=
 bG (Qq c b f j l (h _ fun _ h=>h))
theorem vM {id:Nat} (b:f5 k g=true) (h: ∀K:AS->Prop,(∀s',fX P k e Q s'->K s')->aY P [] [] (aK g g.toList 0) (some s) K):fX P k (.seq (.region id g false) e) Q s:=yR [] [] b h
theorem B7 {id:Nat} (b:f5 k g=true) (h: ∀K:AS->Prop,(∀s',Q .normal s'->K s')->aY P [] [] (aK g g.toList 0) (some s) K):fX P k (.region id g false) Q s:=Qs [] [] b h
theorem IS (f:P.follows .mixedOrders=true) {id:Nat} (b:bZ [] g=true) (c:f5 k g=true) (h: ∀K:AS->Prop,(∀s',fX P k e Q s'->K s')->aY P [] [] (aK g g.toList 0) (some s) K):fX P k (.seq (.region id g true) e) Q s:=B8 f [] [] b c h
end
/-! The contract of a function that writes a row. -/
def rho1 (b c:Nat):Rho:=fun a r=>if a=0/\r=0 then some (b,c)else none
structure wN (P:Program) (f:FuncId) (args:List TV) (k off len:Nat) (o o':OObj) (r:TV):Prop where
 able:callable P f=true
 es:o'.es=o.es
 size:o'.elems.length=o.elems.length
 pure: ∀e∈o'.elems,∀x∈e,isPure x=true
 noref:noRefTV r=true
 calls: ∀(X:Nat->Prop) (w:World) (vs:Array Value) (b c:Nat),(∀j,X j->j<w.heap.size)-> ¬X b->objRel (rho1 b c) (famH 0 [o]) (fun j=>X j\/j=b) w 0 0 o->vs.size=args.length->
  vs[k]?=some (.slice (some ⟨b,off*o.es,none⟩) len (c-off))->(∀(j:Nat) t,j≠k->args[j]?=some t-> ∃v:Value,vs[j]?=some v/\t.rel (fun _ _=>none) (fun _=>[]) (fun j=>X j\/j=b) w v)->
  Calls P f vs w fun e w'=> ∃v,e= .returned v/\But b w w'/\objRel (rho1 b c) (famH 0 [o']) (fun j=>X j\/j=b) w' 0 0 o'/\r.rel (rho1 b c) (famH 0 [o']) (fun j=>X j\/j=b) w' v
theorem xo1 {X:Nat->Prop} {b c:Nat} {o:OObj}:Xo X (rho1 b c) (famH 0 [o])=fun j=>X j\/j=b:=by
 funext j;apply propext;constructor
 ·rintro(h|⟨a,r,l,e,f,g⟩)
  ·exact .inl h
  grind [rho1]
 rintro(h|rfl)
 ·exact .inl h
 exact .inr ⟨0,0,o,c,rfl,by simp[rho1]⟩
theorem BI {a:Nat} (b:(famH 0 [h] a)[n]?=some j):a=0/\n=0/\j=h:=by
 grind [famH]
theorem ql {q l:Rho} {B:OH} {a t A:Nat} (L: ∀e∈h.elems,∀x∈e,isPure x=true) (g:objRel q s b w a n h) (m:l t A=q a n):objRel l B b w t A h:=by
 obtain⟨J,K,u⟩:=g;refine⟨J,K,?_⟩;rw[m];cases M:q a n with
 |none=>grind
 |some C=>
  obtain⟨f,c⟩:=C;rw[M]at u;obtain⟨cells,D,E,F,G,I⟩:=u;refine⟨cells,D,E,F,G,fun i e j x y z=>?_⟩;obtain⟨v,N,O,P⟩:=I i e j x y z;refine⟨v,N,O,?_⟩;have:=L e (acd y) x (acd z);cases x with
  |p x=>exact P
  |_=>cases this
theorem ws {y g:Rho} {n:OH} (l:noRefTV o=true) (h:o.rel y s b w m):o.rel g n b w m:=by
 have A: ∀x u,gO x=true->AV.rel y s b w x u->AV.rel g n b w x u:=fun x u z F=>by
  cases x with
  |p x=>exact F
  |junk=>trivial
  |_=>cases z
 have agg: ∀e m,e.all gO=true->bM y s b w e m->bM g n b w e m:=fun e m E ⟨vs,q,t,B⟩=>by
  simp only[acr]at E;exact⟨vs,q,t,fun j x z=>by grind⟩
 cases o with
 |one x=>exact A x m l h
 |agg e=>exact agg e m l h
 |fn f e=>obtain⟨u,C,D⟩:=h;exact⟨u,agg e u l C,D⟩
 |tup I=>
  simp only[noRefTV,acr]at l;obtain⟨vs,q,t,B⟩:=h;refine⟨vs,q,t,fun j c e G=>?_⟩;grind
def abT (P:Program) (c:Func) (k b len:Nat) (e:OObj) (r:TV) (s:AS):Prop:=
 s.tmps[k]?=some (.one (.sl 0 0 b len))/\s.H=famH 0 [e]/\rA P s c.results.toList=some r
theorem zi {P:Program} {fn:Func} {args:List TV} {k len:Nat} (hf:P.funcs[r]?=some fn) (hb:fn.body=some e) (hn:callable P r=true) (hk:k<args.length) (af:0<len) (ab:n+len<=h.elems.length) (al: ∀g∈h.elems,∀x∈g,isPure x=true) (he:j.es=h.es) (hs:j.elems.length=h.elems.length) (hp: ∀g∈j.elems,∀x∈g,isPure x=true) (hr:noRefTV o=true) (l:fX P k e (fun g s=>(g= .normal\/g= .ret)/\ ∃s',bJ s s'/\abT P fn k n len j o s') ⟨args.set k (.one (.sl 0 0 n len))++List.replicate (fn.ntmps-args.length) .undef,famH 0 [h]⟩):wN P r args k n len h j o:=by
 refine⟨hn,he,hs,hp,hr,fun X w vs b A hX ag H ac ap I=>?_⟩;refine calls_of_wp hf hb ?_;have V:=xo1 (X:=X) (b:=b) (c:=A) (o:=h);have ae:b<w.heap.size:=by
  obtain⟨_,_,q⟩:=H;grind [rho1]
 have Y:len<=A-n:=by
  obtain⟨_,_,q⟩:=H;grind [rho1]
 have O:md k (.slice (some ⟨b,n*h.es,none⟩) len (A-n)) w (fun m=>m=b) X ⟨args.set k (.one (.sl 0 0 n len))++List.replicate (fn.ntmps-args.length) .undef,famH 0 [h]⟩ {tmps:=vs++Array.replicate (fn.ntmps-vs.size) undef,defers:=[]} w:=by
  refine⟨⟨rfl,by simp[ac],rho1 b A,⟨Keep.refl w,fun a o o1 ho=>?_,fun a o a' r' o1 N b1 c1 c2 ho ah _ _=>?_,fun a o o1 b1 c1 ho D=>?_,hX,fun a o o1 ho=>?_⟩,fun t x M=>?_⟩,?_⟩
  ·grind [famH]
  ·grind [BI]
  ·grind [rho1]
  ·grind [BI,dX]
  ·show ∃v:Value,_/\x.rel (rho1 b A) (famH 0 [h]) (Xo X (rho1 b A) (famH 0 [h])) w v;rw[V];by_cases ht:t<args.length
   ·rw[acx (by grind)]at M;by_cases L:t=k
    ·subst L;rw[acS ht]at M;injection M with M
     subst M;exact⟨_,by grind,h,rfl,ab,.inr ⟨b,A,A-n,by simp[rho1],rfl,Y,fun _=>rfl⟩⟩
    rw[ac4 (aed L)]at M;obtain⟨v,v1,Q⟩:=I t x L M;refine⟨v,by grind,TV.rel_map Q (fun y u hy=>?_)⟩;cases y with
    |p y=>exact hy
    |sl a o n len=>obtain⟨h,D,_⟩:=hy;simp at D
    |ptr a o i m=>obtain⟨h,_,_,D,_⟩:=hy;simp at D
    |fn r a qs=>grind [qM]
    |junk=>trivial
   grind [d6]
  grind
 refine wp_mono (l _ _ _ _ _ _ O) fun g a' S ⟨s1,⟨W,s2,hw,T,B,U⟩,J⟩=>?_
 obtain⟨⟨D,an,ρ,z,C⟩,K⟩:=J.weak hw;have C:bo X ρ s2 a' S:=C;rw[B]at z;obtain⟨v,v1,Q⟩:=fq (by rw[B];exact z) C U;rw[B]at Q
 -- the row has not moved
 obtain⟨u,R,u2⟩:=C k _ T;rw[K]at R;injection R with R
 subst R;obtain⟨N,g1,g2,g3⟩:=u2;rw[B]at g1;obtain⟨_,_,rfl⟩:=BI g1;have ad:ρ 0 0=some (b,A):=by
  grind
 have E:Xo X ρ (famH 0 [N])=fun m=>X m\/m=b:=by
  funext m;apply propext;constructor
  ·rintro(l|⟨a,o,o3,c',D,h2⟩)
   ·exact .inl l
   grind [BI]
  rintro(l|rfl)
  ·exact .inl l
  exact .inr ⟨0,0,N,A,rfl,ad⟩
 have aa:=z.objs 0 0 N rfl;rw[E]at aa;rw[E]at Q;have F:But b w S:=⟨z.keep.os,z.keep.tape,z.keep.output,z.keep.size,fun m hj Z=>z.keep.block m hj Z⟩;have G:objRel (rho1 b A) (famH 0 [N]) (fun m=>X m\/m=b) S 0 0 N:=by
  grind [ql,rho1]
 have hv1:o.rel (rho1 b A) (famH 0 [N]) (fun m=>X m\/m=b) S v:=ws hr Q;rcases W with rfl|rfl
 ·exact⟨D,v,v1,v,rfl,F,G,hv1⟩
 exact⟨D,v,v1,v,rfl,F,G,hv1⟩
end
section
def j6:TV->Bool
 | .one (.p _)=>true
 | .agg b=>b.all isPure
 |_=>false
theorem AB {ρ:Rho} {H:OH} {Y:Nat->Prop} (e:b=Y) (c:j6 o=true) (h:o.rel ρ H Y w m):o.rel p s b w m:=by
 subst e;refine ws ?_ h;unfold j6 at c;split at c
 ·rfl
 ·rename_i g;simp only[noRefTV,acr]at c⊢;intro x f;have:=c x f;cases x<;>first|rfl|cases this
 cases c
def uD (k:Nat):Nat->List TV->Bool
 |_,[]=>true
 |i,t::l=>(i==k||j6 t)&&uD k (i+1) l
theorem Az {k:Nat}: ∀{l:List TV} {i j:Nat} {t:TV},uD k i l=true->i+j≠k->l[j]?=some t->j6 t=true
 |[],_,_,_,_,_,h=>by simp at h
 |u::l,i,0,t,h,b,c=>by
  grind [uD]
 |u::l,i,j+1,t,h,b,c=>by
  simp only[uD,acN]at h;exact Az (i:=i+1) (j:=j) h.2 (by omega) (by grind)
theorem sP {k:Nat} {args:List TV} (h:uD k 0 args=true): ∀(j:Nat) t,j≠k->args[j]?=some t->j6 t=true:=fun j t c b=>Az (i:=0) (j:=j) h (by omega) b
theorem fm {g:Type} (f:g->List PV) (l:List g): ∀e∈lc f l,∀x∈e,isPure x=true:=fun e b x c=>by
 simp only[lc,acn]at b;obtain⟨y,_,rfl⟩:=b;simp only[acn]at c;obtain⟨z,_,rfl⟩:=c;rfl
theorem dA (F:List OObj):Hm [(0,F)]=famH 0 F:=by rfl
section
variable {P:Program} {s:AS} {a:Act} {w0 w:World} {O X:Nat->Prop}
theorem UA (af:dq w0 O X s a w) {c:Call} (ho:t.op= .call c) (ac:c.callee= .value (.func r)) {args:List TV} {k len A C:Nat} (E:wN P r args k n len h j o) (a6:A<=4999) (hk:k<args.length) (a5:0<len) (an:fz s.ev c.args.toList=some (args.set k (.one (.sl A C n len)))) (Y: ∀(l:Nat) p,l≠k->args[l]?=some p->j6 p=true) (F:(s.H A)[C]?=some h) (a8: ∀e∈h.elems,∀x∈e,isPure x=true) {K:Act->World->Prop} {Q:Exit->Act->World->Prop} (hK: ∀v w',dq w0 O X (AS.put ⟨s.tmps,aF s.H A ((s.H A).set C j)⟩ t.dst o) (a.put t.dst v) w'->K (a.put t.dst v) w'):t.wp P a w K Q:=by
 obtain⟨h1,a1,G,z,N⟩:=af;have N:bo X G s a w:=N;obtain⟨e1,e2⟩:=bP an;have a0:(args.set k (.one (.sl A C n len)))[k]?=some (.one (.sl A C n len)):=acS hk;obtain⟨x,hx,a3⟩:=e2 k _ a0;obtain⟨B,g1,g2,g3⟩:=bv N x _ a3;rw[F]at g1;injection g1 with g1
 subst g1;obtain⟨b,W,R,hv⟩: ∃b W,G A C=some (b,W)/\a.eval x= .slice (some ⟨b,n*h.es,none⟩) len (W-n):=by
  grind
 have a7:=z.objs A C h F;have al:Xo X G s.H b:= .inr ⟨A,C,h,W,F,R⟩;have V:(fun l=>(Xo X G s.H l/\l≠b)\/l=b)=Xo X G s.H:=by
  grind
 have aa: ∀l,Xo X G s.H l->l<w.heap.size:=fun b hb=>by
  rcases hb with hb|⟨x,y,j,m,g1,g2⟩
  ·exact z.bar b hb
  exact bz (z.objs x y j g1) g2
 have ag:=fW (w:=w) ho ac (e:=a.eval) rfl E.able;unfold Oper.wp;rw[ag];simp only[Oper.upon];have Z:c.args.size=args.length:=by grind
 refine(E.calls (fun l=>Xo X G s.H l/\l≠b) w (c.args.map a.eval) b W (fun l S=>aa l S.1) (fun g=>g.2 rfl) ?_ (by simp[Z]) ?_ ?_).mono ?_
 ·grind [ql,rho1]
 ·grind
 ·intro l p S ht;rw[V];have a2:(args.set k (.one (.sl A C n len)))[l]?=some p:=by grind
  obtain⟨y,hy,a4⟩:=e2 l p a2;refine⟨a.eval y,?_,AB rfl (Y l p S ht) (bv N y p a4)⟩;grind
 rintro e w1 ⟨v,rfl,I,U,ae⟩;show K (a.put t.dst v) w1;refine hK v w1 ?_;rw[V]at U ae;have ap:=(aci.1 F).1;have T: ∀(x y:Nat) B,(aF s.H A ((s.H A).set C j) x)[y]?=some B->(x=A/\y=C/\B=j)\/(¬(x=A/\y=C)/\(s.H x)[y]?=some B):=fun x y B g=>by
  grind [aS,aM]
 have L: ∀(x y:Nat) B,(s.H x)[y]?=some B-> ∃J,(aF s.H A ((s.H A).set C j) x)[y]?=some J/\J.es=B.es/\B.elems.length<=J.elems.length/\G x y=G x y:=fun x y B g=>by
  by_cases hx:x=A
  ·subst hx;by_cases hy:y=C
   ·subst hy;rw[F]at g;injection g with g
    subst g;exact⟨j,by rw[aS,acS ap],E.es,by rw[E.size];omega,rfl⟩
   grind [aS]
  grind [aM]
 have D: ∀(x y:Nat) B,(aF s.H A ((s.H A).set C j) x)[y]?=some B-> ∃J,(s.H x)[y]?=some J:=fun x y B g=>by
  grind
 have ab:Xo X G (aF s.H A ((s.H A).set C j))=Xo X G s.H:=by
  funext l;apply propext;constructor
  ·rintro(g|⟨x,y,B,m,h1,h2⟩)
   ·exact .inl g
   obtain⟨J,M⟩:=D x y B h1;exact .inr ⟨x,y,J,m,M,h2⟩
  rintro(g|⟨x,y,B,m,h1,h2⟩)
  ·exact .inl g
  obtain⟨J,M,_⟩:=L x y B h1;exact .inr ⟨x,y,J,m,M,h2⟩
 have mono: ∀x u,AV.rel G s.H (Xo X G s.H) w x u->AV.rel G (aF s.H A ((s.H A).set C j)) (Xo X G (aF s.H A ((s.H A).set C j))) w1 x u:=fun x u hx=>
  pU al I L (fun x y B b' c' h1 h2 _=>by
   obtain⟨J,M⟩:=D x y B h1;exact .inr ⟨x,y,J,c',M,h2⟩) hx
 have av:Inv w0 O X (aF s.H A ((s.H A).set C j)) G w1:=by
  refine⟨z.keep.but I (z.old A C h b W F R).1,fun x y B g=>?_,fun x y x' y' B J l c1 c2 g h' q q'=>?_,fun x y B l c1 g q=>?_,fun l S=>acp (z.bar l S) I.size,fun x y B g=>?_⟩
  ·rcases T x y B g with⟨rfl,rfl,rfl⟩|⟨ad,g⟩
   ·rw[ab];exact ql E.pure U (by simp[rho1,R])
   refine d9 (z.objs x y B g) rfl (fun l c1 S=>?_) mono;refine I.block l (bz (z.objs x y B g) S) ?_;rintro rfl;exact ad (z.inj x y A C B h l c1 W g F S R)
  ·obtain⟨o3,M⟩:=D x y B g;obtain⟨o4,h4⟩:=D x' y' J h';exact z.inj x y x' y' o3 o4 l c1 c2 M h4 q q'
  ·obtain⟨o3,M⟩:=D x y B g;exact z.old x y o3 l c1 M q
  rcases T x y B g with⟨rfl,rfl,rfl⟩|⟨ad,g⟩
  ·exact dX E.pure
  exact z.self x y B g
 have ah:bo X G ⟨s.tmps,aF s.H A ((s.H A).set C j)⟩ a w1:=fun p x hx=>by
  grind [TV.rel_map]
 refine⟨by grind [gX],by grind [kK,ke],G,by grind [gP],qo a1 ah ?_⟩;show o.rel G (aF s.H A ((s.H A).set C j)) (Xo X G (aF s.H A ((s.H A).set C j))) w1 v;rw[ab];exact ws E.noref ae
def cwTs (b:Array Oper) (m:Nat) (s:AS):Option (FuncId×List TV):=match b[m]? with
 |some o=>match o.guard,o.op with
  |none,.call c=>match c.callee with
   | .value (.func f)=>match fz s.ev c.args.toList with
    |some e=>some (f,e)
    |none=>none
   |_=>none
  |_,_=>none
 |none=>none
def cwD (b:Array Oper) (m:Nat):Option Tmp:=(b[m]?).bind (·.dst)
def ZN (b:Array Oper) (m:Nat) (r:TV) (c e:Nat) (f:OObj) (s:AS):AS:=AS.put ⟨s.tmps,aF s.H c ((s.H c).set e f)⟩ (cwD b m) r
structure YY (ops:Array Oper) (m:Nat) (f:FuncId) (args:List TV) (k off len fa fr:Nat) (o0:OObj) (s:AS):Prop where
 ts:cwTs ops m s=some (f,args.set k (.one (.sl fa fr off len)))
 row:(s.H fa)[fr]?=some o0
theorem B6 (m:Nat) {args:List TV} {k len:Nat} (G:wN P r args k n len h j o) (A E:Nat) (u:List (aq P)) (z:List Nat) {id:Nat} (hk:k<args.length) (H:0<len) (C: ∀(p:Nat) t,p≠k->args[p]?=some t->j6 t=true) (R: ∀e∈h.elems,∀x∈e,isPure x=true) (hl:s.tmps.length<=1000000) (hm:m<g.toList.length) (b:aY P (u.map aq.a) z (aK g (g.toList.take m) 0) (some s) (fun y=>YY g m r args k n len A E h y/\y.tmps.length<=1000000/\aY P (u.map aq.a) z (aK g (g.toList.drop (m+1)) (m+1)) (some (ZN g m o A E j y)) (l .normal))) (M:A<=4999):bA P (.region id g false) l s:=fun w0 O X a w U=>by
 obtain⟨y,K,⟨v,q2⟩,N,L⟩:=aP P (u.map aq.a) z g _ 0 s _ b;obtain⟨s',Y,Z⟩:=aP P (u.map aq.a) z g _ (m+1) _ _ L;obtain⟨q,I⟩: ∃q,g[m]?=some q:=⟨g[m],by simp⟩;unfold cwTs at v;rw[I]at v;simp only at v;split at v
 ·rename_i c hg J;split at v
  ·rename_i W F;split at v
   ·rename_i ts S;injection v with v
    injection v with v T
    subst v T;refine wp_region ?_;have D:g.size=(g.toList.take m).length+(1+(g.toList.drop (m+1)).length):=by grind
    rw[D,acK,<- ac7,acQ];have B:(g.toList.take m).length=m:=by grind
    refine kN (aq.ok u) (g.toList.take m) 0 s y a w (fun p q hj=>?_) K U fun V w' r'=>?_
    ·grind
    rw[B,adN 1,acW];simp only[wpOps,I];grind [Region.wanted,UA,gn,aq.ok,cwD,ZN]
   cases v
  cases v
 cases v
theorem yM (m:Nat) {args:List TV} {k len:Nat} (v:wN P r args k n len h j o) (B C:Nat) (q:List (aq P)) (F:List Nat) {id:Nat} (H:k<args.length) (z:0<len) (u: ∀(p:Nat) t,p≠k->args[p]?=some t->j6 t=true) (E: ∀b∈h.elems,∀x∈b,isPure x=true) (I:s.tmps.length<=1000000) (J:m<g.toList.length) (c: ∀K:AS->Prop,(∀A,(YY g m r args k n len B C h A/\A.tmps.length<=1000000/\ ∀K:AS->Prop,(∀G,bA P e l G->K G)->aY P (q.map aq.a) F (aK g (g.toList.drop (m+1)) (m+1)) (some (ZN g m o B C j A)) K)->K A)->aY P (q.map aq.a) F (aK g (g.toList.take m) 0) (some s) K) (D:B<=4999:=by decide):bA P (.seq (.region id g false) e) l s:=
 ai (B6 m v B C q F H z u E I J (c _ fun A ⟨L,M,N⟩=>⟨L,M,N _ fun _ c=>c⟩) D)
theorem IN (m:Nat) {args:List TV} {k len:Nat} (u:wN P r args k n len h j o) (z A:Nat) (p:List (aq P)) (D:List Nat) {id:Nat} (F:k<args.length) (v:0<len) (q: ∀(c:Nat) t,c≠k->args[c]?=some t->j6 t=true) (C: ∀e∈h.elems,∀x∈e,isPure x=true) (G:s.tmps.length<=1000000) (H:m<g.toList.length) (b: ∀K:AS->Prop,(∀y,(YY g m r args k n len z A h y/\y.tmps.length<=1000000/\ ∀K:AS->Prop,(∀E,l .normal E->K E)->aY P (p.map aq.a) D (aK g (g.toList.drop (m+1)) (m+1)) (some (ZN g m o z A j y)) K)->K y)->aY P (p.map aq.a) D (aK g (g.toList.take m) 0) (some s) K) (B:z<=4999:=by decide):bA P (.region id g false) l s:=
 B6 m u z A p D F v q C G H (b _ fun y ⟨I,J,L⟩=>⟨I,J,L _ fun _ b=>b⟩) B
end
end
end Go.Proofs.YtalmoejhjceflaaGreat
namespace Go.Proofs
open Go.Shelf
def Tryz.lays133_ren:Go.Shelf.Ren:=⟨fun|133=>211|128=>184|n=>n,fun|51=>165|3=>3|4=>4|46=>164|5=>5|9=>9|n=>n,fun|n=>n⟩
theorem Tryz.lays133:Go.Proofs.Lays.n133 prog Tryz.lays133_ren:={
 mixed:=by kernel_rfl
 f128:=func184.trans (congrArg some (by kernel_rfl))
 f133:=func211.trans (congrArg some (by kernel_rfl))
 t3:=underlying3
 a3:=isAgg3
 z3:=sizeOf3
 v3:=zeroValue3
 t4:=underlying4
 a4:=isAgg4
 z4:=sizeOf4
 v4:=zeroValue4
 t5:=underlying5
 a5:=isAgg5
 z5:=sizeOf5
 v5:=zeroValue5
 t9:=underlying9
 a9:=isAgg9
 z9:=sizeOf9
 v9:=zeroValue9
 t46:=underlying164
 a46:=isAgg164
 z46:=sizeOf164
 v46:=zeroValue164
 t51:=underlying165
 a51:=isAgg165
 z51:=sizeOf165
 v51:=zeroValue165}
end Go.Proofs
namespace Go.Proofs.YtalmoejhjceflaaGreat
open Go.RowKit Go.Proofs.Tryz
variable {b c:Nat->Prop} {e f:Code} {g:Array Oper} {h j:OObj} {n:Nat} {l:Exit->AS->Prop} {m:Value} {w:World} {o:TV} {p:Rho} {q:Operand} {r:FuncId} {s:OH} {t:Oper}
section
def iU:AV->Bool
 | .p (.raw _)=>true
 | .p (.sl [])=>true
 | .p _=>false
 |_=>true
def Kr:TV->Bool
 | .one x=>iU x
 | .agg b=>b.all iU
 | .tup c=>c.all fun t=>t.2.all iU
 | .fn _ b=>b.all iU
def rh (r:CallRes):Prop:=Kr r.r=true/\ ∀o∈r.fam,∀e∈o.elems,∀x∈e,iU x=true
def AA:TV->Bool
 | .fn _ b=>b.all isPure
 |t=>j6 t
section
variable {P:Program} {s:AS} {a:Act} {w0 w w1:World} {O X:Nat->Prop} {ρ:Rho} {H:OH}
theorem nM {x:AV} (y:iU x=true) (h:AV.rel ρ H b w x m):AV.rel ρ H c w x m:=by
 cases x with
 |p x=>
  cases x with
  |raw u=>
   obtain⟨rfl,A⟩:=aZ (ρ:=ρ) (H:=H) h;exact bS.raw _ A
  |sl q=>
   cases q with
   |nil=>
    have h:bS b w (.sl []) m:=h;generalize n:PV.sl []=x at h;cases h with
    |raw m h=>cases n
    |ptr g o z f B C D F=>cases n
    |nil a l=>exact bS.nil _ _
    |sl g o G cap q f B C E t I D F=>
     injection n with n
     subst n;exact bS.nil _ _
   |cons e q=>cases y
  |ptr z=>cases y
 |sl a r o len=>exact h
 |ptr a r i j=>exact h
 |fn=>exact h
 |junk=>trivial
theorem sY (l:Kr o=true) (h:o.rel ρ H b w m):o.rel ρ H c w m:=by
 have agg: ∀g m,g.all iU=true->bM ρ H b w g m->bM ρ H c w g m:=fun g m z ⟨vs,n,p,q⟩=>by
  simp only[acr]at z;exact⟨vs,n,p,fun j x B=>by grind [nM]⟩
 cases o with
 |one x=>exact nM l h
 |agg g=>exact agg g m l h
 |fn f g=>obtain⟨u,r,y⟩:=h;exact⟨u,agg g u l r,y⟩
 |tup C=>
  simp only[Kr,acr]at l;obtain⟨vs,n,p,q⟩:=h;refine⟨vs,n,p,fun j e g A=>?_⟩;grind [nM]
theorem mE {f:OH} {t:TV} (c:j6 t=true) (h:t.rel ρ H b w m):t.rel p f (fun _=>False) w m:=by
 refine AB (Y:=fun _=>False) rfl c ?_ (ρ:=ρ) (H:=H);unfold j6 at c;split at c
 ·exact bS.weaken (fun _ _ h=>h.elim) h
 ·rename_i y;simp only[acr]at c;obtain⟨vs,g,l,n⟩:=h;refine⟨vs,g,l,fun j x e=>?_⟩;obtain⟨u,o,q,r⟩:=n j x e;have:=c x (acd e);refine⟨u,o,q,?_⟩;cases x<;>first|exact bS.weaken (fun _ _ h=>h.elim) r|cases this
 cases c
theorem xm {g:OH} (c:AA o=true) (h:o.rel ρ H b w m):o.rel p g (fun _=>False) w m:=by
 cases o with
 |fn f e=>
  obtain⟨u,j,l⟩:=h;exact⟨u,mE (t:= .agg e) c j,l⟩
 |one x=>exact mE c h
 |agg e=>exact mE c h
 |tup n=>exact mE c h
def Yo (b:Array Oper) (m:Nat) (res:CallRes) (s:AS):AS:=match cwD b m with
 |some d=>jJ s d (renTV d res.r) (res.fam.map (renO d))
 |none=>s
end
end
end Go.Proofs.YtalmoejhjceflaaGreat
