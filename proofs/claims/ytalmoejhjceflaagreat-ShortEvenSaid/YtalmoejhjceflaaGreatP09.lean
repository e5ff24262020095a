/-
  Part 10 of a proof (walks and plain facts).
-/
import Derived.Test.YtalmoejhjceflaaGreatP08
import Derived.Shelf.Small.Bits
import Derived.Ground.NamesProg
import Derived.Test.YtalmoejhjceflaaGreatProg
import Derived.Scope
set_option linter.all false
set_option maxRecDepth 100000
set_option maxHeartbeats 64000000
namespace Go.Proofs.YtalmoejhjceflaaGreat
open Go.RowKit Go.Proofs.Tryz
variable {b c:Nat->Prop} {e f:Code} {g:Array Oper} {w W:World} {n:Nat} {h j:OObj} {l:Exit->AS->Prop} {m:Value} {o p:Rho} {q:TV} {r s:OH} {t:Operand} {u:FuncId} {v:List PV} {x:TypeId} {y:AS} {z:Oper}
section
theorem uB {a:Act} {d:Option Tmp} {k:Nat} (v:Value) (h:d≠some k):(a.put d v).tmps[k]?=a.tmps[k]?:=by
 cases d with
 |none=>rfl
 |some d=>
  have:d≠k:=fun e=>h (by rw[e])
  simp[Act.put,Zw this]
def ov (k:Nat) (b:Value) (c:World) (O X:Nat->Prop) (s:AS) (a:Act) (w:World):Prop:=de c O X s a w/\a.tmps[k]?=some b
def fz (P:Program) (k:Nat) (c:Code) (Q:Exit->AS->Prop) (s:AS):Prop:=
 ∀(f:Value) (g:World) (O X:Nat->Prop) (a:Act) (w:World),ov k f g O X s a w->c.wp P (fun e h j=> ∃b,Q e b/\ov k f g O X b h j) a w
def gB (k:Nat) (b:Array Oper):Bool:=b.toList.all fun o=>o.dst !=some k
section
variable {P:Program} {k:Nat} {s s':AS} {Q:Exit->AS->Prop}
theorem ov.weak {a:Act} (h:bv s s') (r:ov k m w b c s a W):ov k m w b c s' a W:=⟨h _ _ _ _ _ r.1,r.2⟩
theorem fz.weak (h:bv s s') (r:fz P k e Q s'):fz P k e Q s:=fun _ _ _ _ _ _ q=>r _ _ _ _ _ _ (q.weak h)
theorem fz.mono (h:fz P k e Q s) (q: ∀b s',Q b s'->l b s'):fz P k e l s:=fun _ _ _ _ _ _ r=>
 wp_mono (h _ _ _ _ _ _ r) fun _ _ _ ⟨s',f,g⟩=>⟨s',q _ _ f,g⟩
theorem fJ (h:Q .normal s):fz P k .skip Q s:=fun _ _ _ _ _ _ r=>wp_skip ⟨s,h,r⟩
theorem mH {id:Nat} (h:Q (.exit id) s):fz P k (.exit id) Q s:=fun _ _ _ _ _ _ r=>wp_exit ⟨s,h,r⟩
theorem pp (h:Q .ret s):fz P k .ret Q s:=fun _ _ _ _ _ _ r=>wp_ret ⟨s,h,r⟩
theorem cJ (h:fz P k e (iZ (fz P k f Q) Q) s):fz P k (.seq e f) Q s:=fun _ _ _ _ _ _ r=>
 wp_seq (wp_mono (h _ _ _ _ _ _ r) fun b a w ⟨s',c,g⟩=>by
  cases b with
  |normal=>exact c _ _ _ _ _ _ g
  |_=>exact⟨s',c,g⟩)
theorem gp {id:Nat} (h:fz P k e (lP id Q) s):fz P k (.block id e) Q s:=fun _ _ _ _ _ _ r=>
 wp_block (wp_mono (h _ _ _ _ _ _ r) fun b a w ⟨s',c,f⟩=>by
  cases b with
  |exit g=>
   simp only[lP]at c;simp only[Exit.inBlock];split at c
   ·rename_i hid;rw[if_pos hid];exact⟨s',c,f⟩
   rename_i hid;rw[if_neg hid];exact⟨s',c,f⟩
  |_=>exact⟨s',c,f⟩)
theorem Bm {b:Bool} (m:s.ev t=some (.raw (.bool b))) (p:b=true->fz P k e Q s) (n:b=false->fz P k f Q s):fz P k (.cond t e f) Q s:=fun _ _ _ _ _ _ r=>by
 obtain⟨q,o,u,j,g⟩:=id r.1;have l:=(aU (bf g t _ m)).1;exact wp_cond_split l (fun h=>p h _ _ _ _ _ _ r) (fun h=>n h _ _ _ _ _ _ r)
theorem lG (b:s.ev t=some (.raw (.bool true))) (h:fz P k e Q s):fz P k (.cond t e f) Q s:=Bm b (fun _=>h) (fun h=>by cases h)
theorem mG (b:s.ev t=some (.raw (.bool false))) (h:fz P k f Q s):fz P k (.cond t e f) Q s:=Bm b (fun h=>by cases h) (fun _=>h)
theorem zi (b:s.ev t=some (.raw (.bool true))) (h:fz P k f Q s):fz P k (.seq (.cond t .skip e) f) Q s:=cJ (lG b (fJ h))
theorem zh {id:Nat} (b:s.ev t=some (.raw (.bool false))) (h:Q (.exit id) s):fz P k (.seq (.cond t e (.exit id)) f) Q s:=cJ (mG b (mH h))
theorem KY {G:Type} (St:G->AS) (q:G->Nat) (y:G) (D:bv s (St y)) (round: ∀g,fz P k e (iZ (fun s'=> ∃j,q j<q g/\bv s' (St j)) Q) (St g)):fz P k (.loop e) Q s:=fun J K O X a w r=>by
 classical
 let p:Act->World->Nat->Prop:=fun a w n=> ∃g,q g=n/\ov k J K O X (St g) a w
 let m:Act->World->Nat:=fun a w=>if h: ∃n,p a w n then Classical.choose (bo h)else 0
 refine wp_loop (fun a w=> ∃n,p a w n) m ⟨_,y,rfl,r.weak D⟩ ?_;intro a w t;have F:m a w=Classical.choose (bo t):=dif_pos t;obtain⟨B,o⟩:=Za (bo t);rw[<- F]at B;obtain⟨g,L,H⟩:=B;refine wp_mono (round g _ _ _ _ _ _ H) fun b x C ⟨s',z,A⟩=>?_
 cases b with
 |normal=>
  obtain⟨j,E,I⟩:=z;have l:=A.weak I;have f: ∃n,p x C n:=⟨_,j,rfl,l⟩;refine⟨f,?_⟩;have v:m x C=Classical.choose (bo f):=dif_pos f;obtain⟨_,u⟩:=Za (bo f);have:=u (q j) ⟨j,rfl,l⟩;rw[v];omega
 |_=>exact⟨s',z,A⟩
theorem mI {G:Type} (St:G->AS) (b:G->Nat) (f:G) {id:Nat} (h:bv s (St f)) (round: ∀g,fz P k e (iZ (fun s'=> ∃c,b c<b g/\bv s' (St c)) (lP id Q)) (St g)):fz P k (.block id (.loop e)) Q s:=
 gp (KY St b f h round)
theorem SF {e:List (dc P)} (l:gL P e) {r:List Nat} {i:Nat} {a:Act} (f:ov k m w b c s a W) (p:z.dst≠some k) (h:aQ P e r g i z s=some s') {K:Act->World->Prop} {Q:Exit->Act->World->Prop} (n: ∀v j,ov k m w b c s' (a.put z.dst v) j->K (a.put z.dst v) j):if Region.wanted z (yielded g a.tmps)then z.wp P a W K Q else K (a.put z.dst undef) W:=
 im l f.1 h fun v j q=>n v j ⟨q,by rw[uB v p];exact f.2⟩
theorem vL (h:gB k g=true) (b:g[n]?=some z):z.dst≠some k:=by
 unfold gB at h;rw[XO]at h;have:=h z (XH (by simpa using b));simpa using this
theorem wn {c:List (dc P)} (q:gL P c) {C:List Nat} {b:Array Oper} (t:gB k b=true) {y:Value} {z:World} {O X:Nat->Prop} {Q:Exit->Act->World->Prop}: ∀(l:List Oper) (n:Nat) (s s':AS) (a:Act) (w:World),(∀(j:Nat) o,l[j]?=some o->b[n+j]?=some o)->
  gZ P c C b (l.zipIdx n) s=some s'->ov k y z O X s a w->(∀p m,ov k y z O X s' p m->Q .normal p m)->wpOps P b Q (List.range' n l.length) a w
 |[],n,s,s',a,w,_,h,r,e=>by
  simp only[aau,gZ]at h;injection h with h
  subst h;exact e a w r
 |o::l,n,s,s',a,w,u,h,r,e=>by
  simp only[ZA,gZ]at h;split at h
  ·rename_i D f;simp only[Ym,YM,wpOps];have x:b[n]?=some o:=by have:=u 0 o rfl;simpa using this
   rw[x];simp only;have:=SF (Q:=Q) q r (vL t x) f (K:=wpOps P b Q (List.range' (n+1) l.length)) (fun v m B=>wn q t l (n+1) D s' _ _ (fun j o A=>by have:=u (j+1) o (by simpa using A);rwa[show n+(j+1)=n+1+j by omega]at this) h B e);split at this
   ·rename_i g;rw[if_pos g];exact .inl this
   rename_i g;rw[if_neg g];exact this
  cases h
theorem Gg (b:List (an P)) (f:List Nat) {id:Nat} (q:gB k g=true) (h:aV P (b.map an.a) f (aJ g g.toList 0) (some s) (Q .normal)):fz P k (.region id g false) Q s:=fun u v O X a w r=>by
 obtain⟨s',m,n⟩:=aO P (b.map an.a) f g g.toList 0 s (Q .normal) h;refine wp_region ?_;rw[Ya];have:=wn (an.ok b) q (Q:=fun e c l=> ∃s',Q e s'/\ov k u v O X s' c l) g.toList 0 s s' a w (fun j o p=>by simpa using p) m r (fun c l t=>⟨s',n,t⟩);simpa using this
theorem KX (q:P.follows .mixedOrders=true) (b:List (an P)) (n:List Nat) {id:Nat} (D:bX [] g=true) (M:gB k g=true) (h:aV P (b.map an.a) n (aJ g g.toList 0) (some s) (Q .normal)):fz P k (.region id g true) Q s:=fun z B O X a w r=>by
 obtain⟨E,H,I⟩:=aO P (b.map an.a) n g g.toList 0 s (Q .normal) h;refine wp_region_any q ?_;have J:db P (b.map an.a) n g (List.range g.size) s=some E:=by
  rw[Ya];have:=gD (P:=P) (items:=b.map an.a) (ow:=n) g.toList 0 s (fun j o m=>by simpa using m);rw[H]at this;simpa using this.symm
 have c:ov k z B O X s a {w with drawn:=w.drawn+1}:=by
  obtain⟨⟨T,U,F,l,f⟩,y⟩:=r;have e:Ext w {w with drawn:=w.drawn+1}:=⟨rfl,rfl,rfl,XY _,fun _ _=>rfl⟩;have f:aT X F s a w:=f;exact⟨⟨T,U,F,l.grow e,f.grow e⟩,y⟩
 refine oD (sep:=[]) (kT D (by simp)) D (Q:=fun e G A=> ∃s',Q e s'/\ov k z B O X s' G A) (fun _ s a w=>ov k z B O X s a w) ⟨ef r.1,fun x S=>by simp at S⟩ J (fun p a w C u=>⟨E,I,u⟩) (fun p i o s V a w K t R _ y u L=>?_) g.size (Array.replicate g.size false) s a _ (by simp) ?_ ?_ ?_ c
 ·exact SF (an.ok b) u (vL M t) y fun v A c=>L v A c
 ·intro j o t N;have m:j<g.size:=(XV.1 t).1;simp[m]at N
 ·exact XQ (ZT _ _) (by simp)
 have:lk g.size (fun j=>(Array.replicate g.size false).getD j true)=[]:=by
  unfold lk;rw[Zh];intro j m;have:=Yv.1 m;simp[this]
 rw[this];rfl
theorem Bo (b:List (an P)) (c:List Nat) {id:Nat} (f:gB k g=true) (h: ∀K:AS->Prop,(∀s',fz P k e Q s'->K s')->aV P (b.map an.a) c (aJ g g.toList 0) (some s) K):fz P k (.seq (.region id g false) e) Q s:=
 cJ (Gg b c f (h _ fun _ h=>h))
theorem KZ (b:List (an P)) (c:List Nat) {id:Nat} (e:gB k g=true) (h: ∀K:AS->Prop,(∀s',Q .normal s'->K s')->aV P (b.map an.a) c (aJ g g.toList 0) (some s) K):fz P k (.region id g false) Q s:=
 Gg b c e (h _ fun _ h=>h)
theorem xB (c:P.follows .mixedOrders=true) (b:List (an P)) (f:List Nat) {id:Nat} (j:bX [] g=true) (l:gB k g=true) (h: ∀K:AS->Prop,(∀s',fz P k e Q s'->K s')->aV P (b.map an.a) f (aJ g g.toList 0) (some s) K):fz P k (.seq (.region id g true) e) Q s:=
 cJ (KX c b f j l (h _ fun _ h=>h))
theorem qX {id:Nat} (b:gB k g=true) (h: ∀K:AS->Prop,(∀s',fz P k e Q s'->K s')->aV P [] [] (aJ g g.toList 0) (some s) K):fz P k (.seq (.region id g false) e) Q s:=Bo [] [] b h
theorem xA {id:Nat} (b:gB k g=true) (h: ∀K:AS->Prop,(∀s',Q .normal s'->K s')->aV P [] [] (aJ g g.toList 0) (some s) K):fz P k (.region id g false) Q s:=KZ [] [] b h
theorem DT (f:P.follows .mixedOrders=true) {id:Nat} (b:bX [] g=true) (c:gB k g=true) (h: ∀K:AS->Prop,(∀s',fz P k e Q s'->K s')->aV P [] [] (aJ g g.toList 0) (some s) K):fz P k (.seq (.region id g true) e) Q s:=xB f [] [] b c h
end
/-! The contract of a function that writes a row. -/
def rho1 (b c:Nat):Rho:=fun a r=>if a=0/\r=0 then some (b,c)else none
structure r6 (P:Program) (f:FuncId) (args:List TV) (k off len:Nat) (o o':OObj) (r:TV):Prop where
 able:callable P f=true
 es:o'.es=o.es
 size:o'.elems.length=o.elems.length
 pure: ∀e∈o'.elems,∀x∈e,isPure x=true
 noref:noRefTV r=true
 calls: ∀(X:Nat->Prop) (w:World) (vs:Array Value) (b c:Nat),(∀j,X j->j<w.heap.size)-> ¬X b->objRel (rho1 b c) (famH 0 [o]) (fun j=>X j\/j=b) w 0 0 o->vs.size=args.length->
  vs[k]?=some (.slice (some ⟨b,off*o.es,none⟩) len (c-off))->(∀(j:Nat) t,j≠k->args[j]?=some t-> ∃v:Value,vs[j]?=some v/\t.rel (fun _ _=>none) (fun _=>[]) (fun j=>X j\/j=b) w v)->
  Calls P f vs w fun e w'=> ∃v,e= .returned v/\But b w w'/\objRel (rho1 b c) (famH 0 [o']) (fun j=>X j\/j=b) w' 0 0 o'/\r.rel (rho1 b c) (famH 0 [o']) (fun j=>X j\/j=b) w' v
theorem XG {X:Nat->Prop} {b c:Nat} {o:OObj}:Xo X (rho1 b c) (famH 0 [o])=fun j=>X j\/j=b:=by
 funext j;apply propext;constructor
 ·rintro(h|⟨a,r,m,f,g,e⟩)
  ·exact .inl h
  unfold rho1 at e;split at e
  ·injection e with e;injection e with e l;exact .inr e.symm
  cases e
 rintro(h|rfl)
 ·exact .inl h
 exact .inr ⟨0,0,o,c,rfl,by simp[rho1]⟩
theorem u9 {a:Nat} (b:(famH 0 [h] a)[n]?=some j):a=0/\n=0/\j=h:=by
 unfold famH at b;split at b
 ·rename_i c;cases n with
  |zero=>simp at b;exact⟨c,rfl,b.symm⟩
  |succ n=>simp at b
 simp at b
theorem m9 {l:Rho} {a t A:Nat} (K: ∀e∈h.elems,∀x∈e,isPure x=true) (g:objRel o r b w a n h) (q:l t A=o a n):objRel l s b w t A h:=by
 obtain⟨I,J,m⟩:=g;refine⟨I,J,?_⟩;rw[q];cases y:o a n with
 |none=>rw[y]at m;exact m
 |some B=>
  obtain⟨f,c⟩:=B;rw[y]at m;obtain⟨cells,C,D,E,F,G⟩:=m;refine⟨cells,C,D,E,F,fun i e j x u z=>?_⟩;obtain⟨v,L,M,N⟩:=G i e j x u z;refine⟨v,L,M,?_⟩;have:=K e (XH u) x (XH z);cases x with
  |p x=>exact N
  |_=>cases this
theorem rH {n:Rho} (t:noRefTV q=true) (h:q.rel o r b w m):q.rel n s b w m:=by
 have z: ∀x u,eR x=true->AV.rel o r b w x u->AV.rel n s b w x u:=fun x u y K=>by
  cases x with
  |p x=>exact K
  |junk=>trivial
  |_=>cases y
 have agg: ∀e m,e.all eR=true->bC o r b w e m->bC n s b w e m:=fun e m F ⟨vs,A,B,C⟩=>by
  simp only[XO]at F;exact⟨vs,A,B,fun j x y=>by obtain⟨u,D,l,E⟩:=C j x y;exact⟨u,D,l,z x u (F x (XH y)) E⟩⟩
 cases q with
 |one x=>exact z x m t h
 |agg e=>exact agg e m t h
 |fn f e=>obtain⟨u,I,J⟩:=h;exact⟨u,agg e u t I,J⟩
 |tup M=>
  simp only[noRefTV,XO]at t;obtain⟨vs,A,B,C⟩:=h;refine⟨vs,A,B,fun j c e G=>?_⟩;obtain⟨u,D,l⟩:=C j c e G;have g:=t (c,e) (XH G);refine⟨u,D,?_⟩;rcases l with⟨l,E⟩|⟨l,x,rfl,L⟩
  ·exact .inl ⟨l,agg _ _ (XO.2 g) E⟩
  exact .inr ⟨l,x,rfl,z x u (g x (by simp)) L⟩
def Ww (P:Program) (c:Func) (k b len:Nat) (e:OObj) (r:TV) (s:AS):Prop:=
 s.tmps[k]?=some (.one (.sl 0 0 b len))/\s.H=famH 0 [e]/\o7 P s c.results.toList=some r
theorem uL {P:Program} {fn:Func} {args:List TV} {k len:Nat} (hf:P.funcs[u]?=some fn) (hb:fn.body=some e) (hn:callable P u=true) (hk:k<args.length) (a3:0<len) (av:n+len<=h.elems.length) (a0: ∀g∈h.elems,∀x∈g,isPure x=true) (he:j.es=h.es) (hs:j.elems.length=h.elems.length) (hp: ∀g∈j.elems,∀x∈g,isPure x=true) (hr:noRefTV q=true) (l:fz P k e (fun g s=>(g= .normal\/g= .ret)/\ ∃s',bv s s'/\Ww P fn k n len j q s') ⟨args.set k (.one (.sl 0 0 n len))++List.replicate (fn.ntmps-args.length) .undef,famH 0 [h]⟩):r6 P u args k n len h j q:=by
 refine⟨hn,he,hs,hp,hr,fun X w vs b D hX ae E a1 aa O=>?_⟩;refine calls_of_wp hf hb ?_;have W:=XG (X:=X) (b:=b) (c:=D) (o:=h);have a2:b<w.heap.size:=by
  obtain⟨_,_,z⟩:=E;simp only[rho1,and_self,if_true]at z;obtain⟨cells,q1,_⟩:=z;exact(XV.1 q1).1
 have ag:len<=D-n:=by
  obtain⟨_,_,z⟩:=E;simp only[rho1,and_self,if_true]at z;obtain⟨cells,_,_,q3,_⟩:=z;omega
 have Z:ov k (.slice (some ⟨b,n*h.es,none⟩) len (D-n)) w (fun m=>m=b) X ⟨args.set k (.one (.sl 0 0 n len))++List.replicate (fn.ntmps-args.length) .undef,famH 0 [h]⟩ {tmps:=vs++Array.replicate (fn.ntmps-vs.size) undef,defers:=[]} w:=by
  refine⟨⟨rfl,by simp[a1],rho1 b D,⟨Keep.refl w,fun a q o1 Q=>?_,fun a q a' r' o1 L b1 c1 c2 Q ap _ _=>?_,fun a q o1 b1 c1 Q C=>?_,hX,fun a q o1 Q=>?_⟩,fun t x F=>?_⟩,?_⟩
  ·obtain⟨rfl,rfl,rfl⟩:=u9 Q;show objRel _ _ (Xo X (rho1 b D) (famH 0 [o1])) w 0 0 o1;rw[W];exact E
  ·obtain⟨rfl,rfl,_⟩:=u9 Q;obtain⟨rfl,rfl,_⟩:=u9 ap;exact⟨rfl,rfl⟩
  ·obtain⟨rfl,rfl,_⟩:=u9 Q;simp only[rho1,and_self,if_true]at C;injection C with C
   injection C with C N
   subst C;exact⟨.inr rfl,ae⟩
  ·obtain⟨rfl,rfl,rfl⟩:=u9 Q;exact dp a0
  ·show ∃v:Value,_/\x.rel (rho1 b D) (famH 0 [h]) (Xo X (rho1 b D) (famH 0 [h])) w v;rw[W];by_cases ht:t<args.length
   ·rw[XS (by simpa using ht)]at F;by_cases U:t=k
    ·subst U;rw[Zi ht]at F;injection F with F
     subst F;exact⟨_,by rw[X8 (by omega)];exact aa,h,rfl,av,.inr ⟨b,D,D-n,by simp[rho1],rfl,ag,fun _=>rfl⟩⟩
    rw[Yy (Zl U)]at F;obtain⟨v,v1,v2⟩:=O t x U F;refine⟨v,by rw[X8 (by omega)];exact v1,TV.rel_map v2 (fun y A hy=>?_)⟩;cases y with
    |p y=>exact hy
    |sl a q n len=>obtain⟨h,C,_⟩:=hy;simp at C
    |ptr a q i m=>obtain⟨h,_,_,C,_⟩:=hy;simp at C
    |fn u a qs=>exact(pL (fun _=>rfl) hy).elim
    |junk=>trivial
   rw[XW (by simp;omega),YF]at F;split at F
   ·rename_i ah;injection F with F
    subst F;refine⟨undef,?_,ee⟩;simp at ah;rw[Yi (by omega),Y8,if_pos (by omega)]
   cases F
  show(vs++_)[k]?=_;rw[X8 (by omega)];exact aa
 refine wp_mono (l _ _ _ _ _ _ Z) fun g a' w' ⟨s1,⟨af,s2,hw,ac,G,ad⟩,S⟩=>?_
 obtain⟨⟨C,a4,ρ,B,H⟩,T⟩:=S.weak hw;have H:aT X ρ s2 a' w':=H;rw[G]at B;obtain⟨v,v1,v2⟩:=fk (by rw[G];exact B) H ad;rw[G]at v2
 -- the row has not moved
 obtain⟨A,u1,u2⟩:=H k _ ac;rw[T]at u1;injection u1 with u1
 subst u1;obtain⟨L,g1,g2,g3⟩:=u2;rw[G]at g1;obtain⟨_,_,rfl⟩:=u9 g1;have V:ρ 0 0=some (b,D):=by
  rcases g3 with⟨_,g4,_,_⟩|⟨b',c',cap,g4,M,_,g9⟩
  ·cases g4
  have g9:=g9 (by decide);injection M with M g6 g7
  injection M with M
  injection M with M g8
  subst M;have R:=B.objs 0 0 L rfl;obtain⟨q1,q2,q3⟩:=R;rw[g4]at q3;obtain⟨cells,q4,q5,q6,_⟩:=q3;obtain⟨p1,p2,p3⟩:=E;simp only[rho1,and_self,if_true]at p3;obtain⟨ab,p4,p5,p6,_⟩:=p3;rw[g4,show c'=D by omega]
 have I:Xo X ρ (famH 0 [L])=fun m=>X m\/m=b:=by
  funext m;apply propext;constructor
  ·rintro(l|⟨a,q,o3,c',C,N⟩)
   ·exact .inl l
   obtain⟨rfl,rfl,_⟩:=u9 C;rw[V]at N;injection N with N;injection N with N h3;exact .inr N.symm
  rintro(l|rfl)
  ·exact .inl l
  exact .inr ⟨0,0,L,D,rfl,V⟩
 have Y:=B.objs 0 0 L rfl;rw[I]at Y;rw[I]at v2;have J:But b w w':=⟨B.keep.os,B.keep.tape,B.keep.output,B.keep.size,fun m hj al=>B.keep.block m hj al⟩;have K:objRel (rho1 b D) (famH 0 [L]) (fun m=>X m\/m=b) w' 0 0 L:=by
  refine m9 hp Y (by rw[V];simp[rho1])
 have hv1:q.rel (rho1 b D) (famH 0 [L]) (fun m=>X m\/m=b) w' v:=rH hr v2;rcases af with rfl|rfl
 ·exact⟨C,v,v1,v,rfl,J,K,hv1⟩
 exact⟨C,v,v1,v,rfl,J,K,hv1⟩
end
section
def iy:TV->Bool
 | .one (.p _)=>true
 | .agg b=>b.all isPure
 |_=>false
theorem vZ {ρ:Rho} {H:OH} {Y:Nat->Prop} (e:b=Y) (c:iy q=true) (h:q.rel ρ H Y w m):q.rel o r b w m:=by
 subst e;refine rH ?_ h;unfold iy at c;split at c
 ·rfl
 ·rename_i g;simp only[noRefTV,XO]at c⊢;intro x f;have:=c x f;cases x<;>first|rfl|cases this
 cases c
def qe (k:Nat):Nat->List TV->Bool
 |_,[]=>true
 |i,t::l=>(i==k||iy t)&&qe k (i+1) l
theorem vX {k:Nat}: ∀{l:List TV} {i j:Nat} {t:TV},qe k i l=true->i+j≠k->l[j]?=some t->iy t=true
 |[],_,_,_,_,_,h=>by simp at h
 |u::l,i,0,t,h,c,b=>by
  simp at b;subst b;simp only[qe,Yh,ZJ,beq_iff_eq]at h;exact h.1.resolve_left (fun e=>c (by rw[e,YA]))
 |u::l,i,j+1,t,h,c,b=>by
  simp only[qe,Yh]at h;exact vX (i:=i+1) (j:=j) h.2 (by omega) (by simpa using b)
theorem oX {k:Nat} {args:List TV} (h:qe k 0 args=true): ∀(j:Nat) t,j≠k->args[j]?=some t->iy t=true:=fun j t c b=>vX (i:=0) (j:=j) h (by omega) b
theorem dQ {g:Type} (f:g->List PV) (l:List g): ∀e∈lc f l,∀x∈e,isPure x=true:=fun e b x c=>by
 simp only[lc,XR]at b;obtain⟨y,_,rfl⟩:=b;simp only[XR]at c;obtain⟨z,_,rfl⟩:=c;rfl
theorem gT (F:List OObj):Hm [(0,F)]=famH 0 F:=by funext x;simp[Hm,famH]
section
variable {P:Program} {s:AS} {a:Act} {w0 w:World} {O X:Nat->Prop}
theorem OI (a0:de w0 O X s a w) {c:Call} (ho:z.op= .call c) (ah:c.callee= .value (.func u)) {args:List TV} {k len C F:Nat} (I:r6 P u args k n len h j q) (a5:C<=4999) (hk:k<args.length) (bc:0<len) (a4:fd s.ev c.args.toList=some (args.set k (.one (.sl C F n len)))) (ac: ∀(l:Nat) t,l≠k->args[l]?=some t->iy t=true) (E:(s.H C)[F]?=some h) (a8: ∀e∈h.elems,∀x∈e,isPure x=true) {K:Act->World->Prop} {Q:Exit->Act->World->Prop} (hK: ∀v w',de w0 O X (AS.put ⟨s.tmps,aw s.H C ((s.H C).set F j)⟩ z.dst q) (a.put z.dst v) w'->K (a.put z.dst v) w'):z.wp P a w K Q:=by
 obtain⟨h1,a2,J,B,V⟩:=a0;have V:aT X J s a w:=V;obtain⟨e1,e2⟩:=bU a4;have a6:(args.set k (.one (.sl C F n len)))[k]?=some (.one (.sl C F n len)):=Zi hk;obtain⟨x,R,ba⟩:=e2 k _ a6;obtain⟨D,g1,g2,g3⟩:=bf V x _ ba;rw[E]at g1;injection g1 with g1
 subst g1;obtain⟨b,Y,W,hv⟩: ∃b Y,J C F=some (b,Y)/\a.eval x= .slice (some ⟨b,n*h.es,none⟩) len (Y-n):=by
  rcases g3 with⟨_,_,g4,_⟩|⟨b,Y,cap,g3,g5,_,g6⟩
  ·omega
  exact⟨b,Y,g3,by rw[g5,g6 a5]⟩
 have a7:=B.objs C F h E;have ae:Xo X J s.H b:= .inr ⟨C,F,h,Y,E,W⟩;have U:(fun l=>(Xo X J s.H l/\l≠b)\/l=b)=Xo X J s.H:=by
  funext l;apply propext;constructor
  ·rintro(g|rfl)
   ·exact g.1
   exact ae
  intro g;by_cases N:l=b
  ·exact .inr N
  exact .inl ⟨g,N⟩
 have af: ∀l,Xo X J s.H l->l<w.heap.size:=fun b hb=>by
  rcases hb with hb|⟨x,y,j,m,g1,g2⟩
  ·exact B.bar b hb
  exact bI (B.objs x y j g1) g2
 have a1:=jS (w:=w) ho ah (e:=a.eval) rfl I.able;unfold Oper.wp;rw[a1];simp only[Oper.upon];have ad:c.args.size=args.length:=by simpa using e1.symm
 refine(I.calls (fun l=>Xo X J s.H l/\l≠b) w (c.args.map a.eval) b Y (fun l N=>af l N.1) (fun g=>g.2 rfl) ?_ (by simp[ad]) ?_ ?_).mono ?_
 ·rw[U];exact m9 a8 a7 (by simp[rho1,W])
 ·rw[YC];have:c.args[k]?=some x:=by simpa using R
  rw[this];exact congrArg some hv
 ·intro l t N ht;rw[U];have a9:(args.set k (.one (.sl C F n len)))[l]?=some t:=by rw[Yy (Zl N)];exact ht
  obtain⟨y,hy,bb⟩:=e2 l t a9;refine⟨a.eval y,?_,vZ rfl (ac l t N ht) (bf V y t bb)⟩;rw[YC];have:c.args[l]?=some y:=by simpa using hy
  rw[this];rfl
 rintro e w1 ⟨v,rfl,L,aa,av⟩;show K (a.put z.dst v) w1;refine hK v w1 ?_;rw[U]at aa av;have al:=(XN.1 E).1;have T: ∀(x y:Nat) D,(aw s.H C ((s.H C).set F j) x)[y]?=some D->(x=C/\y=F/\D=j)\/(¬(x=C/\y=F)/\(s.H x)[y]?=some D):=fun x y D g=>by
  by_cases R:x=C
  ·subst R;rw[aI]at g;by_cases hy:y=F
   ·subst hy;rw[Zi al]at g;injection g with g
    exact .inl ⟨rfl,rfl,g.symm⟩
   rw[Yy (Zl hy)]at g;exact .inr ⟨fun g=>hy g.2,g⟩
  rw[ay R]at g;exact .inr ⟨fun g=>R g.1,g⟩
 have S: ∀(x y:Nat) D,(s.H x)[y]?=some D-> ∃M,(aw s.H C ((s.H C).set F j) x)[y]?=some M/\M.es=D.es/\D.elems.length<=M.elems.length/\J x y=J x y:=fun x y D g=>by
  by_cases R:x=C
  ·subst R;by_cases hy:y=F
   ·subst hy;rw[E]at g;injection g with g
    subst g;exact⟨j,by rw[aI,Zi al],I.es,by rw[I.size];exact XY _,rfl⟩
   exact⟨D,by rw[aI,Yy (Zl hy)];exact g,rfl,XY _,rfl⟩
  exact⟨D,by rw[ay R];exact g,rfl,XY _,rfl⟩
 have G: ∀(x y:Nat) D,(aw s.H C ((s.H C).set F j) x)[y]?=some D-> ∃M,(s.H x)[y]?=some M:=fun x y D g=>by
  rcases T x y D g with⟨rfl,rfl,_⟩|⟨_,g⟩
  ·exact⟨h,E⟩
  exact⟨D,g⟩
 have ag:Xo X J (aw s.H C ((s.H C).set F j))=Xo X J s.H:=by
  funext l;apply propext;constructor
  ·rintro(g|⟨x,y,D,m,h1,h2⟩)
   ·exact .inl g
   obtain⟨M,Z⟩:=G x y D h1;exact .inr ⟨x,y,M,m,Z,h2⟩
  rintro(g|⟨x,y,D,m,h1,h2⟩)
  ·exact .inl g
  obtain⟨M,Z,_⟩:=S x y D h1;exact .inr ⟨x,y,M,m,Z,h2⟩
 have mono: ∀x A,AV.rel J s.H (Xo X J s.H) w x A->AV.rel J (aw s.H C ((s.H C).set F j)) (Xo X J (aw s.H C ((s.H C).set F j))) w1 x A:=fun x A R=>
  mO ae L S (fun x y D b' c' h1 h2 _=>by
   obtain⟨M,Z⟩:=G x y D h1;exact .inr ⟨x,y,M,c',Z,h2⟩) R
 have ab:Inv w0 O X (aw s.H C ((s.H C).set F j)) J w1:=by
  refine⟨B.keep.but L (B.old C F h b Y E W).1,fun x y D g=>?_,fun x y x' y' D M l c1 c2 g h' p q'=>?_,fun x y D l c1 g p=>?_,fun l N=>XZ (B.bar l N) L.size,fun x y D g=>?_⟩
  ·rcases T x y D g with⟨rfl,rfl,rfl⟩|⟨ap,g⟩
   ·rw[ag];exact m9 I.pure aa (by simp[rho1,W])
   refine dx (B.objs x y D g) rfl (fun l c1 N=>?_) mono;refine L.block l (bI (B.objs x y D g) N) ?_;rintro rfl;exact ap (B.inj x y C F D h l c1 Y g E N W)
  ·obtain⟨o3,Z⟩:=G x y D g;obtain⟨o4,h4⟩:=G x' y' M h';exact B.inj x y x' y' o3 o4 l c1 c2 Z h4 p q'
  ·obtain⟨o3,Z⟩:=G x y D g;exact B.old x y o3 l c1 Z p
  rcases T x y D g with⟨rfl,rfl,rfl⟩|⟨ap,g⟩
  ·exact dp I.pure
  exact B.self x y D g
 have a3:aT X J ⟨s.tmps,aw s.H C ((s.H C).set F j)⟩ a w1:=fun t x R=>by
  obtain⟨A,u1,u2⟩:=V t x R;exact⟨A,u1,TV.rel_map u2 mono⟩
 refine⟨by rw[gk];exact h1,by rw[jR,eY];exact a2,J,by rw[fj];exact ab,oY a2 a3 ?_⟩;show q.rel J (aw s.H C ((s.H C).set F j)) (Xo X J (aw s.H C ((s.H C).set F j))) w1 v;rw[ag];exact rH I.noref av
def cwTs (b:Array Oper) (m:Nat) (s:AS):Option (FuncId×List TV):=match b[m]? with
 |some o=>match o.guard,o.op with
  |none,.call c=>match c.callee with
   | .value (.func f)=>match fd s.ev c.args.toList with
    |some e=>some (f,e)
    |none=>none
   |_=>none
  |_,_=>none
 |none=>none
def mw (b:Array Oper) (m:Nat):Option Tmp:=(b[m]?).bind (·.dst)
def TB (b:Array Oper) (m:Nat) (r:TV) (c e:Nat) (f:OObj) (s:AS):AS:=AS.put ⟨s.tmps,aw s.H c ((s.H c).set e f)⟩ (mw b m) r
structure SP (ops:Array Oper) (m:Nat) (f:FuncId) (args:List TV) (k off len fa fr:Nat) (o0:OObj) (s:AS):Prop where
 ts:cwTs ops m s=some (f,args.set k (.one (.sl fa fr off len)))
 row:(s.H fa)[fr]?=some o0
theorem xz (m:Nat) {args:List TV} {k len:Nat} (D:r6 P u args k n len h j q) (K Y:Nat) (y:List (an P)) (I:List Nat) {id:Nat} (hk:k<args.length) (E:0<len) (B: ∀(p:Nat) t,p≠k->args[p]?=some t->iy t=true) (S: ∀e∈h.elems,∀x∈e,isPure x=true) (hl:s.tmps.length<=1000000) (M:m<g.toList.length) (b:aV P (y.map an.a) I (aJ g (g.toList.take m) 0) (some s) (fun H=>SP g m u args k n len K Y h H/\H.tmps.length<=1000000/\aV P (y.map an.a) I (aJ g (g.toList.drop (m+1)) (m+1)) (some (TB g m q K Y j H)) (l .normal))) (L:K<=4999):bs P (.region id g false) l s:=fun w0 O X a w r0=>by
 obtain⟨H,Z,⟨z,q2⟩,aa,h2⟩:=aO P (y.map an.a) I g _ 0 s _ b;obtain⟨G,h3,h4⟩:=aO P (y.map an.a) I g _ (m+1) _ _ h2;obtain⟨o,R⟩: ∃o,g[m]?=some o:=⟨g[m],by simp at M;simp[M]⟩;unfold cwTs at z;rw[R]at z;simp only at z;split at z
 ·rename_i c hg F;split at z
  ·rename_i f' C;split at z
   ·rename_i ts V;injection z with z
    injection z with z q3
    subst z q3;refine wp_region ?_;have U:g.size=(g.toList.take m).length+(1+(g.toList.drop (m+1)).length):=by simp at M⊢;omega
    rw[U,Ya,<- Zg,Yw];have N:(g.toList.take m).length=m:=by rw[Y9];omega
    refine wq (an.ok y) (g.toList.take m) 0 s H a w (fun p o A=>?_) Z r0 fun J W r'=>?_
    ·rw[Yl]at A;split at A
     ·simpa using A
     cases A
    rw[N,Z3 1,YM];simp only[wpOps,R];rw[if_pos (by simp[Region.wanted,hg])];refine .inl (OI r' F C D L hk E V B q2 S fun v w1 T=>?_);refine me (an.ok y) (Q:=fun e J W=> ∃G,l e G/\de w0 O X G J W) (g.toList.drop (m+1)) (m+1) _ G _ _ (fun p o A=>?_) h3 ?_ (fun J W hr=>⟨G,h4,hr⟩)
    ·rw[Yr]at A;simpa using A
    have:mw g m=o.dst:=by unfold mw;rw[R];rfl
    unfold TB;rw[this];exact T
   cases z
  cases z
 cases z
theorem ur (m:Nat) {args:List TV} {k len:Nat} (z:r6 P u args k n len h j q) (C D:Nat) (p:List (an P)) (G:List Nat) {id:Nat} (I:k<args.length) (A:0<len) (v: ∀(o:Nat) t,o≠k->args[o]?=some t->iy t=true) (F: ∀b∈h.elems,∀x∈b,isPure x=true) (J:s.tmps.length<=1000000) (L:m<g.toList.length) (c: ∀K:AS->Prop,(∀B,(SP g m u args k n len C D h B/\B.tmps.length<=1000000/\ ∀K:AS->Prop,(∀H,bs P e l H->K H)->aV P (p.map an.a) G (aJ g (g.toList.drop (m+1)) (m+1)) (some (TB g m q C D j B)) K)->K B)->aV P (p.map an.a) G (aJ g (g.toList.take m) 0) (some s) K) (E:C<=4999:=by decide):bs P (.seq (.region id g false) e) l s:=
 ai (xz m z C D p G I A v F J L (c _ fun B ⟨M,N,R⟩=>⟨M,N,R _ fun _ c=>c⟩) E)
theorem DQ (m:Nat) {args:List TV} {k len:Nat} (v:r6 P u args k n len h j q) (A B:Nat) (o:List (an P)) (E:List Nat) {id:Nat} (G:k<args.length) (y:0<len) (p: ∀(c:Nat) t,c≠k->args[c]?=some t->iy t=true) (D: ∀e∈h.elems,∀x∈e,isPure x=true) (H:s.tmps.length<=1000000) (I:m<g.toList.length) (b: ∀K:AS->Prop,(∀z,(SP g m u args k n len A B h z/\z.tmps.length<=1000000/\ ∀K:AS->Prop,(∀F,l .normal F->K F)->aV P (o.map an.a) E (aJ g (g.toList.drop (m+1)) (m+1)) (some (TB g m q A B j z)) K)->K z)->aV P (o.map an.a) E (aJ g (g.toList.take m) 0) (some s) K) (C:A<=4999:=by decide):bs P (.region id g false) l s:=
 xz m v A B o E G y p D H I (b _ fun z ⟨J,L,M⟩=>⟨J,L,M _ fun _ b=>b⟩) C
end
end
end Go.Proofs.YtalmoejhjceflaaGreat
namespace Go.Proofs
open Go.Shelf
def Tryz.lays133_ren:Go.Shelf.Ren:=⟨fun|133=>211|128=>184|n=>n,fun|51=>165|3=>3|4=>4|46=>164|5=>5|9=>9|n=>n,fun|n=>n⟩
theorem Tryz.lays133:Go.Proofs.Lays.n133 prog Tryz.lays133_ren:={
 mixed:=by kernel_rfl
 f128:=func184.trans (congrArg some (by kernel_rfl))
 f133:=func211.trans (congrArg some (by kernel_rfl))
 t3:=underlying3
 a3:=isAgg3
 z3:=sizeOf3
 v3:=zeroValue3
 t4:=underlying4
 a4:=isAgg4
 z4:=sizeOf4
 v4:=zeroValue4
 t5:=underlying5
 a5:=isAgg5
 z5:=sizeOf5
 v5:=zeroValue5
 t9:=underlying9
 a9:=isAgg9
 z9:=sizeOf9
 v9:=zeroValue9
 t46:=underlying164
 a46:=isAgg164
 z46:=sizeOf164
 v46:=zeroValue164
 t51:=underlying165
 a51:=isAgg165
 z51:=sizeOf165
 v51:=zeroValue165}
end Go.Proofs
namespace Go.Proofs.YtalmoejhjceflaaGreat
open Go.RowKit Go.Proofs.Tryz
variable {b c:Nat->Prop} {e f:Code} {g:Array Oper} {w W:World} {n:Nat} {h j:OObj} {l:Exit->AS->Prop} {m:Value} {o p:Rho} {q:TV} {r s:OH} {t:Operand} {u:FuncId} {v:List PV} {x:TypeId} {y:AS} {z:Oper}
section
def gm:AV->Bool
 | .p (.raw _)=>true
 | .p (.sl [])=>true
 | .p _=>false
 |_=>true
def Fm:TV->Bool
 | .one x=>gm x
 | .agg b=>b.all gm
 | .tup c=>c.all fun t=>t.2.all gm
 | .fn _ b=>b.all gm
def Hn (r:CallRes):Prop:=Fm r.r=true/\ ∀o∈r.fam,∀e∈o.elems,∀x∈e,gm x=true
def vY:TV->Bool
 | .fn _ b=>b.all isPure
 |t=>iy t
section
variable {P:Program} {s:AS} {a:Act} {w0 w w1:World} {O X:Nat->Prop} {ρ:Rho} {H:OH}
theorem qo {x:AV} (y:gm x=true) (h:AV.rel ρ H b w x m):AV.rel ρ H c w x m:=by
 cases x with
 |p x=>
  cases x with
  |raw u=>
   obtain⟨rfl,A⟩:=aU (ρ:=ρ) (H:=H) h;exact bO.raw _ A
  |sl q=>
   cases q with
   |nil=>
    have h:bO b w (.sl []) m:=h;generalize n:PV.sl []=x at h;cases h with
    |raw m h=>cases n
    |ptr g o z f B C D F=>cases n
    |nil a l=>exact bO.nil _ _
    |sl g o G cap q f B C E t I D F=>
     injection n with n
     subst n;exact bO.nil _ _
   |cons e q=>cases y
  |ptr z=>cases y
 |sl a r o len=>exact h
 |ptr a r i j=>exact h
 |fn=>exact h
 |junk=>trivial
theorem Fo (o:Fm q=true) (h:q.rel ρ H b w m):q.rel ρ H c w m:=by
 have agg: ∀g m,g.all gm=true->bC ρ H b w g m->bC ρ H c w g m:=fun g m B ⟨vs,p,r,y⟩=>by
  simp only[XO]at B;exact⟨vs,p,r,fun j x D=>by obtain⟨u,z,n,A⟩:=y j x D;exact⟨u,z,n,qo (B x (XH D)) A⟩⟩
 cases q with
 |one x=>exact qo o h
 |agg g=>exact agg g m o h
 |fn f g=>obtain⟨u,E,F⟩:=h;exact⟨u,agg g u o E,F⟩
 |tup I=>
  simp only[Fm,XO]at o;obtain⟨vs,p,r,y⟩:=h;refine⟨vs,p,r,fun j e g C=>?_⟩;obtain⟨u,z,n⟩:=y j e g C;have l:=o (e,g) (XH C);refine⟨u,z,?_⟩;rcases n with⟨n,A⟩|⟨n,x,rfl,G⟩
  ·exact .inl ⟨n,agg _ _ (by simpa only[XO] using l) A⟩
  exact .inr ⟨n,_,rfl,qo (l x (by simp)) G⟩
theorem kp {t:TV} (c:iy t=true) (h:t.rel ρ H b w m):t.rel o r (fun _=>False) w m:=by
 refine vZ (Y:=fun _=>False) rfl c ?_ (ρ:=ρ) (H:=H);unfold iy at c;split at c
 ·exact bO.weaken (fun _ _ h=>h.elim) h
 ·rename_i y;simp only[XO]at c;obtain⟨vs,f,g,l⟩:=h;refine⟨vs,f,g,fun j x e=>?_⟩;obtain⟨u,n,p,q⟩:=l j x e;have:=c x (XH e);refine⟨u,n,p,?_⟩;cases x<;>first|exact bO.weaken (fun _ _ h=>h.elim) q|cases this
 cases c
theorem sM (c:vY q=true) (h:q.rel ρ H b w m):q.rel o r (fun _=>False) w m:=by
 cases q with
 |fn f e=>
  obtain⟨u,g,j⟩:=h;exact⟨u,kp (t:= .agg e) c g,j⟩
 |one x=>exact kp c h
 |agg e=>exact kp c h
 |tup l=>exact kp c h
end
end
section
section
variable {P:Program} {b:Nat} {ty:TypeId} {cs cs':List PV} {Q:Exit->AS->List PV->Prop} {s:AS}
end
theorem Cr {a:Act} (d:Nat) (hd:y.H d=[⟨x,v.length,[v.map AV.p]⟩]) (r:de w b c y a W):
  ∃l,(w.heap.size<=l\/b l)/\ ¬c l/\gG l x w (fun j=>b j\/j=l) (fun j=>c j\/j=l) ⟨y.tmps.map (rB d l),aw y.H d []⟩ v a W:=by
 obtain⟨h1,ae,L,C,Z⟩:=r;have Z:aT c L y a W:=Z;have J:(y.H d)[0]?=some ⟨x,v.length,[v.map AV.p]⟩:=by rw[hd];rfl
 obtain⟨z1,z2,z3⟩:=C.objs d 0 _ J;cases N:L d 0 with
 |none=>rw[N]at z3;cases z3
 |some bc=>
  obtain⟨l,n⟩:=bc;rw[N]at z3;obtain⟨cells,p1,p2,p3,p4,p5⟩:=z3;have V:=C.old d 0 _ l n J N;have M: ∀(A B:Nat) o,(aw y.H d [] A)[B]?=some o->A≠d/\(y.H A)[B]?=some o:=fun A B o Q=>by
   by_cases G:A=d
   ·subst G;rw[aI]at Q;simp at Q
   rw[ay G]at Q;exact⟨G,Q⟩
  have aa: ∀j,Xo (fun j=>c j\/j=l) L (aw y.H d []) j->Xo c L y.H j:=fun j F=>by
   rcases F with(F|rfl)|⟨A,B,o,n',P,E⟩
   ·exact .inl F
   ·exact .inr ⟨d,0,_,n,J,N⟩
   exact .inr ⟨A,B,o,n',(M A B o P).2,E⟩
  have K: ∀A q,AV.rel L y.H (Xo c L y.H) W A q->AV.rel L (aw y.H d []) (Xo (fun j=>c j\/j=l) L (aw y.H d [])) W (jb d l A) q:=fP (Cz d l) fun A q hn G=>by
   cases A with
   |fn=>cases hn
   |p A=>exact bO.weaken (fun j _ F=>aa j F) G
   |sl A r ag len=>
    simp only[jb];split
    ·trivial
    rename_i D;obtain⟨o,P,E⟩:=G;exact⟨o,by rw[ay D];exact P,E⟩
   |ptr A r i j=>
    simp only[jb];split
    ·rename_i D;subst D;split
     ·rename_i hc;obtain⟨rfl,rfl,rfl⟩:=hc;obtain⟨o,b',Y,P,E,g3,g4⟩:=G;rw[N]at E;injection E with E
      injection E with E af
      subst E;rw[g4];simp only[aae,YA];exact bO.raw _ rfl
     trivial
    rename_i D;obtain⟨o,b',Y,P,E⟩:=G;exact⟨o,b',Y,by rw[ay D];exact P,E⟩
   |junk=>trivial
  have R: ∀v q,bC L y.H (Xo c L y.H) W v q->bC L (aw y.H d []) (Xo (fun j=>c j\/j=l) L (aw y.H d [])) W (v.map (jb d l)) q:=fun v q ⟨vs,P,E,g3⟩=>by
   refine⟨vs,P,by simpa using E,fun j A G=>?_⟩;rw[XK]at G;obtain⟨B,hy,rfl⟩:=XI.1 G;obtain⟨u,u1,U,u3⟩:=g3 j B hy;exact⟨u,u1,U,K B u u3⟩
  have ab:gG l x w (fun j=>b j\/j=l) (fun j=>c j\/j=l) ⟨y.tmps.map (rB d l),aw y.H d []⟩ v a W:=by
   refine⟨h1,by simpa using ae,L,⟨⟨C.keep.os,C.keep.tape,C.keep.output,C.keep.size,fun k hk hn=>C.keep.block k hk (fun h=>hn (.inl h))⟩,fun A B o Q=>?_,fun A B x' y' o o' j m Y Q I=>C.inj A B x' y' o o' j m Y (M A B o Q).2 (M x' y' o' I).2,fun A B o j m Q F=>?_,fun j F=>?_,fun A B o Q=>C.self A B o (M A B o Q).2⟩,fun t A G=>?_,.inr rfl,.inr rfl,?_⟩
   ·obtain⟨D,I⟩:=M A B o Q;obtain⟨q1,q2,q3⟩:=C.objs A B o I;refine⟨q1,q2,?_⟩;cases hr:L A B with
    |none=>rw[hr]at q3;exact q3
    |some bc=>
     obtain⟨b',Y⟩:=bc;rw[hr]at q3;obtain⟨S,r1,r2,r3,r4,r5⟩:=q3;refine⟨S,r1,r2,r3,r4,fun i e j z he hz=>?_⟩;obtain⟨u,u1,U,u3⟩:=r5 i e j z he hz;have T:=C.self A B o I e (XH he) z (XH hz);have:=K z u u3;refine⟨u,u1,U,?_⟩;cases z with
     |sl z _ _ _=>have T:z=A:=T;subst T;simpa[jb,D] using this
     |ptr z _ _ _=>have T:z=A:=T;subst T;simpa[jb,D] using this
     |fn _ z _=>have T:z=A:=T.1;subst T;simpa[jb,D] using this
     |p z=>exact this
     |junk=>trivial
   ·obtain⟨D,I⟩:=M A B o Q;obtain⟨P,E⟩:=C.old A B o j m I F;refine⟨?_,?_⟩
    ·rcases P with g|g
     ·exact .inl g
     exact .inr (.inl g)
    rintro(g|rfl)
    ·exact E g
    exact D (C.inj A B d 0 o _ j m n I J F N).1
   ·rcases F with F|rfl
    ·exact C.bar j F
    exact(XV.1 p1).1
   ·simp only[XK]at G;obtain⟨B,hy,rfl⟩:=XI.1 G;obtain⟨q,v1,v2⟩:=Z t B hy;refine⟨q,v1,?_⟩;cases B with
    |one A=>exact K A q v2
    |agg v=>exact R v q v2
    |fn f v=>obtain⟨u,h1,h2⟩:=v2;exact⟨u,R v u h1,h2⟩
    |tup ts=>
     obtain⟨vs,P,E,g3⟩:=v2;refine⟨vs,P,by simpa using E,fun j m v F=>?_⟩;rw[XK]at F;obtain⟨z,hz,ac⟩:=XI.1 F;obtain⟨Y,ad⟩:=z;simp at ac;obtain⟨rfl,rfl⟩:=ac;obtain⟨u,u1,U⟩:=g3 j Y ad hz;refine⟨u,u1,?_⟩;rcases U with⟨U,u3⟩|⟨U,q',rfl,u4⟩
     ·exact .inl ⟨U,R _ _ u3⟩
     exact .inr ⟨U,_,rfl,K _ _ u4⟩
   refine⟨cells,n,p1,p2,by simpa using p3,p4,z2,fun j A G=>?_⟩;obtain⟨q,v1,v2,v3⟩:=p5 0 (v.map AV.p) j (.p A) rfl (by rw[XK,G];rfl);exact⟨q,by simpa using v1,v2,bO.weaken (fun j _ F=>aa j F) v3⟩
  exact⟨l,V.1,V.2,ab⟩
def uH (d b:Nat):AV->AV
 | .p (.raw (.pointer (some ⟨c,0,none⟩)))=>if c=b then .ptr d 0 0 0 else .p (.raw (.pointer (some ⟨c,0,none⟩)))
 |x=>x
def Ec (d b:Nat):TV->TV
 | .one x=> .one (uH d b x)
 | .agg c=> .agg (c.map (uH d b))
 | .fn f c=> .fn f (c.map (uH d b))
 | .tup e=> .tup (e.map fun t=>(t.1,t.2.map (uH d b)))
theorem BI {a:Act} {s:AS} {d:Nat} (aa:w.heap.size<=n\/b n) (ap: ¬c n) (hd:s.H d=[]) (r:gG n x w (fun j=>b j\/j=n) (fun j=>c j\/j=n) s v a W):
  de w b c ⟨s.tmps.map (Ec d n),aw s.H d [⟨x,v.length,[v.map AV.p]⟩]⟩ a W:=by
 obtain⟨k1,av,T,C,ac,_,_,cells,l,p1,p2,p3,p4,p5,p6⟩:=r;have ac:aT (fun j=>c j\/j=n) T s a W:=ac;generalize ab:newρ T d (fun r=>if r=0 then some (n,l)else none)=ρ2;generalize ad:aw s.H d [⟨x,v.length,[v.map AV.p]⟩]=N;have af:N d=[⟨x,v.length,[v.map AV.p]⟩]:=by rw[<- ad,aI]
 have F: ∀A,A≠d->N A=s.H A:=fun A B=>by rw[<- ad,ay B]
 have R: ∀r,ρ2 d r=if r=0 then some (n,l)else none:=fun r=>by rw[<- ab,newρ_eq]
 have M: ∀A r,A≠d->ρ2 A r=T A r:=fun A r B=>by rw[<- ab,newρ_ne B]
 have G: ∀(y:Nat) o,(N d)[y]?=some o->y=0/\o=⟨x,v.length,[v.map AV.p]⟩:=fun y o E=>by
  rw[af]at E
  match y,E with
  |0,E=>exact⟨rfl,by simpa using E.symm⟩
  |y+1,E=>simp at E
 have ae: ∀j,Xo c ρ2 N j->Xo (fun j=>c j\/j=n) T s.H j:=fun j D=>by
  rcases D with D|⟨A,y,o,h,L,K⟩
  ·exact .inl (.inl D)
  by_cases B:A=d
  ·subst B;obtain⟨rfl,_⟩:=G y o L;rw[R,if_pos rfl]at K;injection K with K
   injection K with K
   exact .inl (.inr K.symm)
  rw[F A B]at L;rw[M A y B]at K;exact .inr ⟨A,y,o,h,L,K⟩
 have Y: ∀A m,AV.rel T s.H (Xo (fun j=>c j\/j=n) T s.H) W A m->AV.rel ρ2 N (Xo c ρ2 N) W A m:=pC fun A m hn B=>by
  cases A with
  |fn=>cases hn
  |p A=>exact bO.weaken (fun j _ D=>ae j D) B
  |sl A r a0 len=>
   obtain⟨o,L,K⟩:=B;have V:A≠d:=by rintro rfl;rw[hd]at L;simp at L
   exact⟨o,by rw[F A V];exact L,by rw[M A r V];exact K⟩
  |ptr A r i j=>
   obtain⟨o,b',h,L,K,g3⟩:=B;have V:A≠d:=by rintro rfl;rw[hd]at L;simp at L
   exact⟨o,b',h,by rw[F A V];exact L,by rw[M A r V];exact K,g3⟩
  |junk=>trivial
 have Q: ∀A m,AV.rel T s.H (Xo (fun j=>c j\/j=n) T s.H) W A m->AV.rel ρ2 N (Xo c ρ2 N) W (uH d n A) m:=fun A m B=>by
  unfold uH;split
  ·split
   ·rename_i hb;subst hb;obtain⟨rfl,_⟩:=aU (ρ:=T) (H:=s.H) B;exact⟨⟨x,v.length,[v.map AV.p]⟩,_,l,by rw[af];rfl,by rw[R,if_pos rfl],by simp,by simp⟩
   exact Y _ _ B
  exact Y _ _ B
 have U: ∀v m,bC T s.H (Xo (fun j=>c j\/j=n) T s.H) W v m->bC ρ2 N (Xo c ρ2 N) W (v.map (uH d n)) m:=fun v m ⟨vs,L,K,g3⟩=>by
  refine⟨vs,L,by simpa using K,fun j A B=>?_⟩;rw[XK]at B;obtain⟨y,hy,rfl⟩:=XI.1 B;obtain⟨u,u1,u2,u3⟩:=g3 j y hy;exact⟨u,u1,u2,Q y u u3⟩
 refine⟨k1,by simpa using av,ρ2,⟨⟨C.keep.os,C.keep.tape,C.keep.output,C.keep.size,fun k hk hn=>?_⟩,fun A y o E=>?_,fun A y Z y' o o' j h c' E J D I=>?_,fun A y o j h E D=>?_,fun j D=>C.bar j (.inl D),fun A y o E=>?_⟩,fun t A B=>?_⟩
 ·by_cases ag:k=n
  ·subst ag;exfalso;rcases aa with g|g
   ·omega
   exact hn g
  exact C.keep.block k hk (fun hh=>by
   rcases hh with hh|hh
   ·exact hn hh
   exact ag hh)
 ·by_cases B:A=d
  ·subst B;obtain⟨rfl,rfl⟩:=G y o E;refine⟨fun e S=>by simp at S;subst S;simp,p5,?_⟩;rw[R,if_pos rfl];refine⟨cells,p1,p2,by simpa using p3,p4,fun i e j z S hz=>?_⟩
   match i,S with
   |0,S=>
    simp at S;subst S;rw[XK]at hz;obtain⟨y,hy,rfl⟩:=XI.1 hz;obtain⟨m,v1,v2,v3⟩:=p6 j y hy;exact⟨m,by simpa using v1,v2,bO.weaken (fun j _ D=>ae j D) v3⟩
   |i+1,S=>simp at S
  replace E:(N A)[y]?=some o:=E
  rw[F A B]at E;exact dx (C.objs A y o E) (M A y B) (fun _ _ _=>rfl) Y
 ·by_cases B:A=d
  ·subst B;obtain⟨rfl,_⟩:=G y o E;rw[R,if_pos rfl]at D;injection D with D
   injection D with D _
   subst D;by_cases P:Z=A
   ·subst P;obtain⟨rfl,_⟩:=G y' o' J;exact⟨rfl,rfl⟩
   replace J:(N Z)[y']?=some o':=J
   rw[F Z P]at J;rw[M Z y' P]at I;exact absurd (.inr rfl) (C.old Z y' o' _ c' J I).2
  replace E:(N A)[y]?=some o:=E
  rw[F A B]at E;rw[M A y B]at D;by_cases P:Z=d
  ·subst P;obtain⟨rfl,_⟩:=G y' o' J;rw[R,if_pos rfl]at I;injection I with I
   injection I with I _
   subst I;exact absurd (.inr rfl) (C.old A y o _ h E D).2
  replace J:(N Z)[y']?=some o':=J
  rw[F Z P]at J;rw[M Z y' P]at I;exact C.inj A y Z y' o o' j h c' E J D I
 ·by_cases B:A=d
  ·subst B;obtain⟨rfl,_⟩:=G y o E;rw[R,if_pos rfl]at D;injection D with D
   injection D with D _
   subst D;exact⟨aa,ap⟩
  replace E:(N A)[y]?=some o:=E
  rw[F A B]at E;rw[M A y B]at D;obtain⟨L,K⟩:=C.old A y o j h E D;refine⟨?_,fun B=>K (.inl B)⟩;rcases L with g|g|g
  ·exact .inl g
  ·exact .inr g
  exact absurd (.inr g) K
 ·by_cases B:A=d
  ·subst B;obtain⟨_,rfl⟩:=G y o E;intro e S z hz;simp at S;subst S;obtain⟨q,_,rfl⟩:=XR.1 hz;trivial
  replace E:(N A)[y]?=some o:=E
  rw[F A B]at E;exact C.self A y o E
 simp only[XK]at B;obtain⟨y,hy,rfl⟩:=XI.1 B;obtain⟨m,v1,v2⟩:=ac t y hy;refine⟨m,v1,?_⟩;cases y with
 |one A=>exact Q A m v2
 |agg v=>exact U v m v2
 |fn f v=>obtain⟨u,h1,h2⟩:=v2;exact⟨u,U v u h1,h2⟩
 |tup ts=>
  obtain⟨vs,L,K,g3⟩:=v2;refine⟨vs,L,by simpa using K,fun j h v D=>?_⟩;rw[XK]at D;obtain⟨z,hz,ah⟩:=XI.1 D;obtain⟨c',al⟩:=z;simp at ah;obtain⟨rfl,rfl⟩:=ah;obtain⟨u,u1,u2⟩:=g3 j c' al hz;refine⟨u,u1,?_⟩;rcases u2 with⟨u2,u3⟩|⟨u2,q',rfl,u4⟩
  ·exact .inl ⟨u2,U _ _ u3⟩
  exact .inr ⟨u2,_,rfl,Q _ _ u4⟩
theorem uq {P:Program} (d:Nat) {cs:List PV} (u:y.H d=[⟨x,cs.length,[cs.map AV.p]⟩]) (h: ∀b,dG P b x e (fun f j g=>j.H d=[]/\l f ⟨j.tmps.map (Ec d b),aw j.H d [⟨x,g.length,[g.map AV.p]⟩]⟩) ⟨y.tmps.map (rB d b),aw y.H d []⟩ cs):bs P e l y:=fun B O X a w r=>by
 obtain⟨b,o,q,t⟩:=Cr d u r;exact wp_mono (h b _ _ _ _ _ t) fun f z A ⟨j,g,⟨m,n⟩,v⟩=>⟨_,n,BI o q m v⟩
end
section
def XC (Q:Exit->AS->Prop):Exit->AS->Prop
 | .goto _,_=>False
 |e,s=>Q e s
section
variable {P:Program} {s:AS} {Q:Exit->AS->Prop}
theorem Ik (h:bs P e (XC Q) s):bs P (.scope e) Q s:=fun _ _ _ _ _ r=>
 wp_scope_straight (wp_mono (h _ _ _ _ _ r) fun b a w ⟨j,f,g⟩=>by
  cases b<;>first|exact⟨j,f,g⟩|exact f.elim)
theorem Ii (h:Q .normal s):bs P (.label n) Q s:=fun _ _ _ _ _ r=>wp_label ⟨s,h,r⟩
end
section
variable {P:Program} {b:Nat} {ty:TypeId} {cs:List PV} {s:AS} {Q:Exit->AS->List PV->Prop}
theorem Bx (k d:Nat) (F:s.tmps[k]?=some (.raw (.pointer (some ⟨b,0,none⟩)))) (E:s.H d=[]) (h:fz P k e (fun f n=> ∃g,n.H d=[⟨ty,g.length,[g.map AV.p]⟩]/\n.tmps[k]?=some (.one (.ptr d 0 0 0))/\Q f ⟨n.tmps.map (rB d b),aw n.H d []⟩ g) ⟨s.tmps.map (Ec d b),aw s.H d [⟨ty,cs.length,[cs.map AV.p]⟩]⟩):dG P b ty e Q s cs:=fun N O X a w r=>by
 have t:O b:=by obtain⟨_,_,_,_,_,t,_⟩:=r;exact t
 have y:X b:=by obtain⟨_,_,_,_,_,_,y,_⟩:=r;exact y
 have B:(fun j=>O j\/j=b)=O:=by
  funext j;exact propext ⟨fun h=>h.elim id (fun f=>by rw[f];exact t),.inl⟩
 have C:(fun j=>(X j/\j≠b)\/j=b)=X:=by
  funext j;refine propext ⟨fun h=>h.elim (·.1) (fun f=>by rw[f];exact y),fun h=>?_⟩;by_cases f:j=b
  ·exact .inr f
  exact .inl ⟨h,f⟩
 have l:a.tmps[k]?=some (.pointer (some ⟨b,0,none⟩)):=by
  obtain⟨_,_,A,_,m,_⟩:=r;obtain⟨v,o,z⟩:=m k _ F;rw[o,(aU (H:=s.H) (ρ:=A) z).1]
 have M:gG b ty N (fun j=>O j\/j=b) (fun j=>(X j/\j≠b)\/j=b) s cs a w:=by rw[B,C];exact r
 have q:=BI (.inr t) (fun h=>h.2 rfl) E M;refine wp_mono (h _ _ _ _ _ _ ⟨q,l⟩) fun f R U ⟨n,⟨g,J,K,L⟩,G,I⟩=>?_
 obtain⟨u,S,T,x⟩:=Cr d J G;have D:u=b:=by
  obtain⟨_,_,A,_,m,_⟩:=id x;obtain⟨v,o,z⟩:=m k (.raw (.pointer (some ⟨u,0,none⟩))) (by
   show(n.tmps.map (rB d u))[k]?=_;rw[XK,K];simp[rB,jb])
  rw[I]at o;injection o with o
  have:=(aU z).1;rw[<- o]at this;injection this with this
  injection this with this
  injection this with this
  exact this.symm
 subst D;rw[B,C]at x;exact⟨_,g,L,x⟩
end
end
theorem TN {U:Act} (a:Nat) (ad:s9 y.H a) (B:Inv w b c y.H o W) (af:aT c o y U W):Inv w b c (aw y.H a []) o W/\aT c o ⟨y.tmps.map (fb y.H a),aw y.H a []⟩ U W:=by
 have I: ∀(x A:Nat) m,(aw y.H a [] x)[A]?=some m->x≠a/\(y.H x)[A]?=some m:=fun x A m E=>by
  by_cases F:x=a
  ·subst F;rw[aI]at E;simp at E
  rw[ay F]at E;exact⟨F,E⟩
 have V: ∀g,Xo c o (aw y.H a []) g->Xo c o y.H g:=fun g G=>by
  rcases G with G|⟨x,A,m,n,D,K⟩
  ·exact .inl G
  exact .inr ⟨x,A,m,n,(I x A m D).2,K⟩
 have Y: ∀(r:Nat) m,(y.H a)[r]?=some m-> ∀g l,o a r=some (g,l)-> ¬Xo c o (aw y.H a []) g:=fun r m E g l Z hX=>by
  rcases hX with hX|⟨x,A,R,n,D,K⟩
  ·exact(B.old a r m g l E Z).2 hX
  obtain⟨F,ac⟩:=I x A R D;exact F (B.inj x A a r R m g n l ac E K Z).1
 have M: ∀x u,isPure x=true->AV.rel o y.H (Xo c o y.H) W x u->bO (Xo c o (aw y.H a [])) W (tX x) u:=fun x u hp h=>by
  cases x<;>first|exact bO.weaken (fun g _ G=>V g G) h|cases hp
 have S: ∀(r:Nat) m,(y.H a)[r]?=some m-> ∀e∈m.elems,∀x∈e,∀u,AV.rel o y.H (Xo c o y.H) W x u->bO (Xo c o (aw y.H a [])) W (mq y.H a x) u:=fun r m E e T x F u hu=>by
  rcases ad r m E e T x F with hp|⟨r',ag,len,R,rfl,C,ae⟩
  ·have:=M x u hp hu;cases x<;>first|exact this|cases hp
  simp only[mq,C];exact nS (B.objs a r' R C) C (fun e T A hy u hu=>M A u (ae e T A hy) hu) (Y r' R C) hu
 have J: ∀x v,AV.rel o y.H (Xo c o y.H) W x v->AV.rel o (aw y.H a []) (Xo c o (aw y.H a [])) W (dD y.H a x) v:=fP (Cy y.H a) fun x v hn h=>by
  cases x with
  |fn=>cases hn
  |p x=>exact bO.weaken (fun g _ G=>V g G) h
  |sl g r ag len=>
   simp only[dD];by_cases G:g=a
   ·subst G;rw[if_pos rfl];have h':=h;obtain⟨m,D,K,g3⟩:=h;rw[D];exact nS (B.objs g r m D) D (S r m D) (Y r m D) h'
   rw[if_neg G];obtain⟨m,D,K⟩:=h;exact⟨m,by rw[ay G];exact D,K⟩
  |ptr g r i j=>
   simp only[dD];by_cases G:g=a
   ·subst G;rw[if_pos rfl];trivial
   rw[if_neg G];obtain⟨m,b',l,D,K⟩:=h;exact⟨m,b',l,by rw[ay G];exact D,K⟩
  |junk=>trivial
 have L: ∀Q v,bC o y.H (Xo c o y.H) W Q v->bC o (aw y.H a []) (Xo c o (aw y.H a [])) W (Q.map (dD y.H a)) v:=fun Q v h=>by
  obtain⟨vs,D,K,g3⟩:=h;refine⟨vs,D,by simpa using K,fun j x F=>?_⟩;rw[XK]at F;obtain⟨A,hy,rfl⟩:=XI.1 F;obtain⟨u,u1,P,u3⟩:=g3 j A hy;exact⟨u,u1,P,J A u u3⟩
 refine⟨⟨B.keep,fun x A m E=>?_,fun x A x' y' m R g l c' E C=>B.inj x A x' y' m R g l c' (I x A m E).2 (I x' y' R C).2,fun x A m g l E=>B.old x A m g l (I x A m E).2,B.bar,fun x A m E=>B.self x A m (I x A m E).2⟩,fun t x F=>?_⟩
 ·obtain⟨F,C⟩:=I x A m E;obtain⟨q1,q2,q3⟩:=B.objs x A m C;refine⟨q1,q2,?_⟩;cases Z:o x A with
  |none=>rw[Z]at q3;exact q3
  |some bc=>
   obtain⟨g,l⟩:=bc;rw[Z]at q3;obtain⟨cells,p1,p2,p3,p4,p5⟩:=q3;refine⟨cells,p1,p2,p3,p4,fun i e j z T hz=>?_⟩;obtain⟨u,u1,P,u3⟩:=p5 i e j z T hz;have N:=B.self x A m C e (XH T) z (XH hz);have:=J z u u3;refine⟨u,u1,P,?_⟩;cases z with
   |sl z _ _ _=>have N:z=x:=N;subst N;simpa[dD,F] using this
   |ptr z _ _ _=>have N:z=x:=N;subst N;simpa[dD,F] using this
   |fn _ z _=>have N:z=x:=N.1;subst N;simpa[dD,F] using this
   |p z=>exact this
   |junk=>trivial
 simp only[XK]at F;obtain⟨A,hy,rfl⟩:=XI.1 F;obtain⟨v,v1,v2⟩:=af t A hy;refine⟨v,v1,?_⟩;cases A with
 |one x=>exact J x v v2
 |agg Q=>exact L Q v v2
 |fn f Q=>obtain⟨u,h1,h2⟩:=v2;exact⟨u,L Q u h1,h2⟩
 |tup ts=>
  obtain⟨vs,D,K,g3⟩:=v2;refine⟨vs,D,by simpa using K,fun j g Q hj=>?_⟩;rw[XK]at hj;obtain⟨z,hz,aa⟩:=XI.1 hj;obtain⟨b',ab⟩:=z;simp at aa;obtain⟨rfl,rfl⟩:=aa;obtain⟨u,u1,P⟩:=g3 j b' ab hz;refine⟨u,u1,?_⟩;rcases P with⟨P,u3⟩|⟨P,q,rfl,u4⟩
  ·exact .inl ⟨P,L _ _ u3⟩
  exact .inr ⟨P,_,rfl,J q u u4⟩
theorem po (a k:Nat) {cs:List PV} (U:y.H a=[⟨x,n,[cs.map AV.p]⟩]) (W:y.tmps[k]?=some (.one (.ptr a 0 0 0))):bv y ⟨(y.tmps.map (fb y.H a)).set k (.one (.p (.ptr cs))),aw y.H a []⟩:=by
 rintro w0 O X K w ⟨h1,R,D,q,A⟩;have A:aT X D y K w:=A;have z:(y.H a)[0]?=some ⟨x,n,[cs.map AV.p]⟩:=by rw[U];rfl
 have Q:s9 y.H a:=fun r o J e V g l=>by
  rw[U]at J;cases r with
  |succ r=>simp at J
  |zero=>
   simp at J;subst J;simp at V;subst V;obtain⟨h,_,rfl⟩:=XR.1 l;exact .inl rfl
 obtain⟨C,G⟩:=TN a Q q A;refine⟨h1,by simpa using R,D,C,fun t g l=>?_⟩;by_cases e:t=k
 ·subst e;simp only at l;have N:=(XN.1 W).1;rw[Zi (by simpa using N)]at l;injection l with l
  subst l;obtain⟨v,v1,o,b,c,m,E,T,rfl⟩:=A t _ W;rw[z]at m;injection m with m
  subst m;refine⟨_,v1,?_⟩;obtain⟨q1,q2,Z⟩:=q.objs a 0 _ z;rw[E]at Z;obtain⟨cells,Y,p2,p3,p4,p5⟩:=Z;have M: ∀b,Xo X D (aw y.H a []) b->Xo X D y.H b:=fun b F=>by
   rcases F with F|⟨g,h,o,f,m,E⟩
   ·exact .inl F
   by_cases l:g=a
   ·subst l;rw[aI]at m;simp at m
   rw[ay l]at m;exact .inr ⟨g,h,o,f,m,E⟩
  have P: ¬Xo X D (aw y.H a []) b:=fun L=>by
   rcases L with L|⟨g,h,o',f,m,T⟩
   ·exact(q.old a 0 _ b c z E).2 L
   by_cases l:g=a
   ·subst l;rw[aI]at m;simp at m
   rw[ay l]at m;exact l (q.inj g h a 0 o' _ b f c m z T E).1
  show bO _ w (.ptr cs) _;rw[show(0:Nat)*(⟨x,n,[cs.map AV.p]⟩:OObj).es+0=0 by simp];have B: ∀(j:Nat) g,cs[j]?=some g-> ∃u:Value,cells[j]?=some u/\bO (Xo X D (aw y.H a [])) w g u:=fun j g l=>by
   obtain⟨u,I,S,u3⟩:=p5 0 (cs.map AV.p) j (.p g) rfl (by rw[XK,l];rfl);refine⟨u,by simpa using I,bO.weaken (fun b _ F=>M b F) u3⟩
  refine bO.ptr b 0 cs (fun j=>(cells[j]?).getD undef) P (XV.1 Y).1 (fun j g l=>?_) (fun j g l=>?_)
  ·obtain⟨u,I,S⟩:=B j g l;rw[cell_of_row _ b _ cells _ _ Y,Yw,I];rfl
  obtain⟨u,I,S⟩:=B j g l;simp only[I,Y4];exact S
 simp only at l;rw[Yy (Zl e)]at l;exact G t g l
section
def famB (F:List OObj) (b:Rho):Nat->Prop:=fun j=> ∃(r:Nat) (o:OObj) (c:Nat),F[r]?=some o/\b 0 r=some (j,c)
theorem E5 {t:Rho} (L: ∀j,j<w.heap.size->c j->b j) (y:noRefTV q=true) (h:q.rel o r b w m):q.rel t s c w m:=by
 have A: ∀x u,eR x=true->AV.rel o r b w x u->AV.rel t s c w x u:=fun x u z M=>by
  cases x with
  |p x=>exact bO.weaken L M
  |junk=>trivial
  |_=>cases z
 have agg: ∀g m,g.all eR=true->bC o r b w g m->bC t s c w g m:=fun g m G ⟨vs,B,C,D⟩=>by
  simp only[XO]at G;exact⟨vs,B,C,fun j x z=>by obtain⟨u,E,n,F⟩:=D j x z;exact⟨u,E,n,A x u (G x (XH z)) F⟩⟩
 cases q with
 |one x=>exact A x m y h
 |agg g=>exact agg g m y h
 |fn f g=>obtain⟨u,J,K⟩:=h;exact⟨u,agg g u y J,K⟩
 |tup O=>
  simp only[noRefTV,XO]at y;obtain⟨vs,B,C,D⟩:=h;refine⟨vs,B,C,fun j e g I=>?_⟩;obtain⟨u,E,n⟩:=D j e g I;have l:=y (e,g) (XH I);refine⟨u,E,?_⟩;rcases n with⟨n,F⟩|⟨n,x,rfl,N⟩
  ·exact .inl ⟨n,agg _ _ (XO.2 l) F⟩
  exact .inr ⟨n,x,rfl,A x u (l x (by simp)) N⟩
section
variable {P:Program} {s:AS} {a:Act} {w0 w:World} {O X:Nat->Prop}
end
end
end Go.Proofs.YtalmoejhjceflaaGreat
