/-
  Part 10 of a proof (walks and plain facts).
-/
import Derived.Test.YtalmoejhjceflaaGreatR08
import Derived.Shelf.Small.Bits
import Derived.Ground.NamesProg
import Derived.Test.YtalmoejhjceflaaGreatProg
import Derived.Scope
set_option linter.all false
set_option maxRecDepth 100000
set_option maxHeartbeats 64000000
namespace Go.Proofs.YtalmoejhjceflaaGreat
open Go.RowKit Go.Proofs.Tryz
variable {b c:Nat->Prop} {e f:Code} {g:Array Oper} {n:Nat} {w W:World} {h j:OObj} {l:Exit->AS->Prop} {m:Value} {o:Rho} {p:TV} {q:Operand} {r:FuncId} {s:OH} {t:List PV} {u:TypeId} {v:AS} {x:Oper}
section
theorem mz {a:Act} {d:Option Tmp} {k:Nat} (v:Value) (h:d≠some k):(a.put d v).tmps[k]?=a.tmps[k]?:=by
 cases d with
 |none=>rfl
 |some d=>
  have:d≠k:=fun e=>h (by rw[e])
  simp[Act.put,ab6 this]
def kL (k:Nat) (b:Value) (c:World) (O X:Nat->Prop) (s:AS) (a:Act) (w:World):Prop:=da c O X s a w/\a.tmps[k]?=some b
def eY (P:Program) (k:Nat) (c:Code) (Q:Exit->AS->Prop) (s:AS):Prop:=
 ∀(f:Value) (g:World) (O X:Nat->Prop) (a:Act) (w:World),kL k f g O X s a w->c.wp P (fun e h j=> ∃b,Q e b/\kL k f g O X b h j) a w
def eR (k:Nat) (b:Array Oper):Bool:=b.toList.all fun o=>o.dst !=some k
section
variable {P:Program} {k:Nat} {s s':AS} {Q:Exit->AS->Prop}
theorem kL.weak {a:Act} (h:bD s s') (r:kL k m w b c s a W):kL k m w b c s' a W:=⟨h _ _ _ _ _ r.1,r.2⟩
theorem eY.weak (h:bD s s') (r:eY P k e Q s'):eY P k e Q s:=fun _ _ _ _ _ _ q=>r _ _ _ _ _ _ (q.weak h)
theorem eY.mono (h:eY P k e Q s) (q: ∀b s',Q b s'->l b s'):eY P k e l s:=fun _ _ _ _ _ _ r=>
 wp_mono (h _ _ _ _ _ _ r) fun _ _ _ ⟨s',f,g⟩=>⟨s',q _ _ f,g⟩
theorem dM (h:Q .normal s):eY P k .skip Q s:=fun _ _ _ _ _ _ r=>wp_skip ⟨s,h,r⟩
theorem kq {id:Nat} (h:Q (.exit id) s):eY P k (.exit id) Q s:=fun _ _ _ _ _ _ r=>wp_exit ⟨s,h,r⟩
theorem iB (h:Q .ret s):eY P k .ret Q s:=fun _ _ _ _ _ _ r=>wp_ret ⟨s,h,r⟩
theorem bT (h:eY P k e (iP (eY P k f Q) Q) s):eY P k (.seq e f) Q s:=fun _ _ _ _ _ _ r=>
 wp_seq (wp_mono (h _ _ _ _ _ _ r) fun b a w ⟨s',c,g⟩=>by
  cases b with
  |normal=>exact c _ _ _ _ _ _ g
  |_=>exact⟨s',c,g⟩)
theorem fq {id:Nat} (h:eY P k e (mG id Q) s):eY P k (.block id e) Q s:=fun _ _ _ _ _ _ r=>
 wp_block (wp_mono (h _ _ _ _ _ _ r) fun b a w ⟨s',c,f⟩=>by
  cases b with
  |exit g=>
   simp only[mG]at c;simp only[Exit.inBlock];split at c
   ·rename_i hid;rw[if_pos hid];exact⟨s',c,f⟩
   rename_i hid;rw[if_neg hid];exact⟨s',c,f⟩
  |_=>exact⟨s',c,f⟩)
theorem CQ {b:Bool} (m:s.ev q=some (.raw (.bool b))) (p:b=true->eY P k e Q s) (n:b=false->eY P k f Q s):eY P k (.cond q e f) Q s:=fun _ _ _ _ _ _ r=>by
 obtain⟨t,o,u,j,g⟩:=id r.1;have l:=(aV (be g q _ m)).1;exact wp_cond_split l (fun h=>p h _ _ _ _ _ _ r) (fun h=>n h _ _ _ _ _ _ r)
theorem iA (b:s.ev q=some (.raw (.bool true))) (h:eY P k e Q s):eY P k (.cond q e f) Q s:=CQ b (fun _=>h) (fun h=>by cases h)
theorem iz (b:s.ev q=some (.raw (.bool false))) (h:eY P k f Q s):eY P k (.cond q e f) Q s:=CQ b (fun h=>by cases h) (fun _=>h)
theorem wm (b:s.ev q=some (.raw (.bool true))) (h:eY P k f Q s):eY P k (.seq (.cond q .skip e) f) Q s:=bT (iA b (dM h))
theorem wl {id:Nat} (b:s.ev q=some (.raw (.bool false))) (h:Q (.exit id) s):eY P k (.seq (.cond q e (.exit id)) f) Q s:=bT (iz b (kq h))
theorem M7 {G:Type} (St:G->AS) (q:G->Nat) (y:G) (D:bD s (St y)) (round: ∀g,eY P k e (iP (fun s'=> ∃j,q j<q g/\bD s' (St j)) Q) (St g)):eY P k (.loop e) Q s:=fun J K O X a w r=>by
 classical
 let p:Act->World->Nat->Prop:=fun a w n=> ∃g,q g=n/\kL k J K O X (St g) a w
 let m:Act->World->Nat:=fun a w=>if h: ∃n,p a w n then Classical.choose (bJ h)else 0
 refine wp_loop (fun a w=> ∃n,p a w n) m ⟨_,y,rfl,r.weak D⟩ ?_;intro a w t;have F:m a w=Classical.choose (bJ t):=dif_pos t;obtain⟨B,o⟩:=abG (bJ t);rw[<- F]at B;obtain⟨g,L,H⟩:=B;refine wp_mono (round g _ _ _ _ _ _ H) fun b x C ⟨s',z,A⟩=>?_
 cases b with
 |normal=>
  obtain⟨j,E,I⟩:=z;have l:=A.weak I;have f: ∃n,p x C n:=⟨_,j,rfl,l⟩;refine⟨f,?_⟩;have v:m x C=Classical.choose (bJ f):=dif_pos f;obtain⟨_,u⟩:=abG (bJ f);have:=u (q j) ⟨j,rfl,l⟩;rw[v];omega
 |_=>exact⟨s',z,A⟩
theorem jq {G:Type} (St:G->AS) (b:G->Nat) (f:G) {id:Nat} (h:bD s (St f)) (round: ∀g,eY P k e (iP (fun s'=> ∃c,b c<b g/\bD s' (St c)) (mG id Q)) (St g)):eY P k (.block id (.loop e)) Q s:=
 fq (M7 St b f h round)
theorem EG {e:List (cB P)} (l:gP P e) {r:List Nat} {i:Nat} {a:Act} (f:kL k m w b c s a W) (p:x.dst≠some k) (h:aS P e r g i x s=some s') {K:Act->World->Prop} {Q:Exit->Act->World->Prop} (n: ∀v j,kL k m w b c s' (a.put x.dst v) j->K (a.put x.dst v) j):if Region.wanted x (yielded g a.tmps)then x.wp P a W K Q else K (a.put x.dst undef) W:=
 iZ l f.1 h fun v j q=>n v j ⟨q,by rw[mz v p];exact f.2⟩
theorem jI (h:eR k g=true) (b:g[n]?=some x):x.dst≠some k:=by
 unfold eR at h;rw[aah]at h;have:=h x (u5 (by simpa using b));simpa using this
theorem qj {c:List (cB P)} (q:gP P c) {C:List Nat} {b:Array Oper} (t:eR k b=true) {y:Value} {z:World} {O X:Nat->Prop} {Q:Exit->Act->World->Prop}: ∀(l:List Oper) (n:Nat) (s s':AS) (a:Act) (w:World),(∀(j:Nat) o,l[j]?=some o->b[n+j]?=some o)->
  f7 P c C b (l.zipIdx n) s=some s'->kL k y z O X s a w->(∀p m,kL k y z O X s' p m->Q .normal p m)->wpOps P b Q (List.range' n l.length) a w
 |[],n,s,s',a,w,_,h,r,e=>by
  simp only[acw,f7]at h;injection h with h
  subst h;exact e a w r
 |o::l,n,s,s',a,w,u,h,r,e=>by
  simp only[abO,f7]at h;split at h
  ·rename_i D f;simp only[aaG,aa1,wpOps];have x:b[n]?=some o:=by have:=u 0 o rfl;simpa using this
   rw[x];simp only;have:=EG (Q:=Q) q r (jI t x) f (K:=wpOps P b Q (List.range' (n+1) l.length)) (fun v m B=>qj q t l (n+1) D s' _ _ (fun j o A=>by have:=u (j+1) o (by simpa using A);rwa[show n+(j+1)=n+1+j by omega]at this) h B e);split at this
   ·rename_i g;rw[if_pos g];exact .inl this
   rename_i g;rw[if_neg g];exact this
  cases h
theorem Ix (b:List (ao P)) (f:List Nat) {id:Nat} (q:eR k g=true) (h:aT P (b.map ao.a) f (aJ g g.toList 0) (some s) (Q .normal)):eY P k (.region id g false) Q s:=fun u v O X a w r=>by
 obtain⟨s',m,n⟩:=aO P (b.map ao.a) f g g.toList 0 s (Q .normal) h;refine wp_region ?_;rw[aax];have:=qj (ao.ok b) q (Q:=fun e c l=> ∃s',Q e s'/\kL k u v O X s' c l) g.toList 0 s s' a w (fun j o p=>by simpa using p) m r (fun c l t=>⟨s',n,t⟩);simpa using this
theorem M6 (q:P.follows .mixedOrders=true) (b:List (ao P)) (n:List Nat) {id:Nat} (D:bX [] g=true) (M:eR k g=true) (h:aT P (b.map ao.a) n (aJ g g.toList 0) (some s) (Q .normal)):eY P k (.region id g true) Q s:=fun z B O X a w r=>by
 obtain⟨E,H,I⟩:=aO P (b.map ao.a) n g g.toList 0 s (Q .normal) h;refine wp_region_any q ?_;have J:cw P (b.map ao.a) n g (List.range g.size) s=some E:=by
  rw[aax];have:=fA (P:=P) (items:=b.map ao.a) (ow:=n) g.toList 0 s (fun j o m=>by simpa using m);rw[H]at this;simpa using this.symm
 have c:kL k z B O X s a {w with drawn:=w.drawn+1}:=by
  obtain⟨⟨T,U,F,l,f⟩,y⟩:=r;have e:Ext w {w with drawn:=w.drawn+1}:=⟨rfl,rfl,rfl,aaq _,fun _ _=>rfl⟩;have f:aX X F s a w:=f;exact⟨⟨T,U,F,l.grow e,f.grow e⟩,y⟩
 refine mA (sep:=[]) (kB D (by simp)) D (Q:=fun e G A=> ∃s',Q e s'/\kL k z B O X s' G A) (fun _ s a w=>kL k z B O X s a w) ⟨d9 r.1,fun x S=>by simp at S⟩ J (fun p a w C u=>⟨E,I,u⟩) (fun p i o s V a w K t R _ y u L=>?_) g.size (Array.replicate g.size false) s a _ (by simp) ?_ ?_ ?_ c
 ·exact EG (ao.ok b) u (jI M t) y fun v A c=>L v A c
 ·intro j o t N;have m:j<g.size:=(aan.1 t).1;simp[m]at N
 ·exact aaj (abT _ _) (by simp)
 have:lw g.size (fun j=>(Array.replicate g.size false).getD j true)=[]:=by
  unfold lw;rw[abN];intro j m;have:=aaK.1 m;simp[this]
 rw[this];rfl
theorem wn (b:List (ao P)) (c:List Nat) {id:Nat} (f:eR k g=true) (h: ∀K:AS->Prop,(∀s',eY P k e Q s'->K s')->aT P (b.map ao.a) c (aJ g g.toList 0) (some s) K):eY P k (.seq (.region id g false) e) Q s:=
 bT (Ix b c f (h _ fun _ h=>h))
theorem M8 (b:List (ao P)) (c:List Nat) {id:Nat} (e:eR k g=true) (h: ∀K:AS->Prop,(∀s',Q .normal s'->K s')->aT P (b.map ao.a) c (aJ g g.toList 0) (some s) K):eY P k (.region id g false) Q s:=
 Ix b c e (h _ fun _ h=>h)
theorem zk (c:P.follows .mixedOrders=true) (b:List (ao P)) (f:List Nat) {id:Nat} (j:bX [] g=true) (l:eR k g=true) (h: ∀K:AS->Prop,(∀s',eY P k e Q s'->K s')->aT P (b.map ao.a) f (aJ g g.toList 0) (some s) K):eY P k (.seq (.region id g true) e) Q s:=
 bT (M6 c b f j l (h _ fun _ h=>h))
theorem sN {id:Nat} (b:eR k g=true) (h: ∀K:AS->Prop,(∀s',eY P k e Q s'->K s')->aT P [] [] (aJ g g.toList 0) (some s) K):eY P k (.seq (.region id g false) e) Q s:=wn [] [] b h
theorem zj {id:Nat} (b:eR k g=true) (h: ∀K:AS->Prop,(∀s',Q .normal s'->K s')->aT P [] [] (aJ g g.toList 0) (some s) K):eY P k (.region id g false) Q s:=M8 [] [] b h
theorem Fw (f:P.follows .mixedOrders=true) {id:Nat} (b:bX [] g=true) (c:eR k g=true) (h: ∀K:AS->Prop,(∀s',eY P k e Q s'->K s')->aT P [] [] (aJ g g.toList 0) (some s) K):eY P k (.seq (.region id g true) e) Q s:=zk f [] [] b c h
end
/-! The contract of a function that writes a row. -/
def rho1 (b c:Nat):Rho:=fun a r=>if a=0/\r=0 then some (b,c)else none
structure tT (P:Program) (f:FuncId) (args:List TV) (k off len:Nat) (o o':OObj) (r:TV):Prop where
 able:callable P f=true
 es:o'.es=o.es
 size:o'.elems.length=o.elems.length
 pure: ∀e∈o'.elems,∀x∈e,isPure x=true
 noref:noRefTV r=true
 calls: ∀(X:Nat->Prop) (w:World) (vs:Array Value) (b c:Nat),(∀j,X j->j<w.heap.size)-> ¬X b->objRel (rho1 b c) (famH 0 [o]) (fun j=>X j\/j=b) w 0 0 o->vs.size=args.length->
  vs[k]?=some (.slice (some ⟨b,off*o.es,none⟩) len (c-off))->(∀(j:Nat) t,j≠k->args[j]?=some t-> ∃v:Value,vs[j]?=some v/\t.rel (fun _ _=>none) (fun _=>[]) (fun j=>X j\/j=b) w v)->
  Calls P f vs w fun e w'=> ∃v,e= .returned v/\But b w w'/\objRel (rho1 b c) (famH 0 [o']) (fun j=>X j\/j=b) w' 0 0 o'/\r.rel (rho1 b c) (famH 0 [o']) (fun j=>X j\/j=b) w' v
theorem xo1 {X:Nat->Prop} {b c:Nat} {o:OObj}:Xo X (rho1 b c) (famH 0 [o])=fun j=>X j\/j=b:=by
 funext j;apply propext;constructor
 ·rintro(h|⟨a,r,m,f,g,e⟩)
  ·exact .inl h
  unfold rho1 at e;split at e
  ·injection e with e;injection e with e l;exact .inr e.symm
  cases e
 rintro(h|rfl)
 ·exact .inl h
 exact .inr ⟨0,0,o,c,rfl,by simp[rho1]⟩
theorem s8 {a:Nat} (b:(famH 0 [h] a)[n]?=some j):a=0/\n=0/\j=h:=by
 unfold famH at b;split at b
 ·rename_i c;cases n with
  |zero=>simp at b;exact⟨c,rfl,b.symm⟩
  |succ n=>simp at b
 simp at b
theorem ou {l:Rho} {B:OH} {a t A:Nat} (L: ∀e∈h.elems,∀x∈e,isPure x=true) (g:objRel o s b w a n h) (q:l t A=o a n):objRel l B b w t A h:=by
 obtain⟨J,K,m⟩:=g;refine⟨J,K,?_⟩;rw[q];cases y:o a n with
 |none=>rw[y]at m;exact m
 |some C=>
  obtain⟨f,c⟩:=C;rw[y]at m;obtain⟨cells,D,E,F,G,I⟩:=m;refine⟨cells,D,E,F,G,fun i e j x u z=>?_⟩;obtain⟨v,M,N,O⟩:=I i e j x u z;refine⟨v,M,N,?_⟩;have:=L e (u5 u) x (u5 z);cases x with
  |p x=>exact O
  |_=>cases this
theorem tu {n:Rho} {y:OH} {r:TV} (q:noRefTV r=true) (h:r.rel o s b w m):r.rel n y b w m:=by
 have z: ∀x u,fJ x=true->AV.rel o s b w x u->AV.rel n y b w x u:=fun x u t K=>by
  cases x with
  |p x=>exact K
  |junk=>trivial
  |_=>cases t
 have agg: ∀e m,e.all fJ=true->bI o s b w e m->bI n y b w e m:=fun e m F ⟨vs,A,B,C⟩=>by
  simp only[aah]at F;exact⟨vs,A,B,fun j x t=>by obtain⟨u,D,l,E⟩:=C j x t;exact⟨u,D,l,z x u (F x (u5 t)) E⟩⟩
 cases r with
 |one x=>exact z x m q h
 |agg e=>exact agg e m q h
 |fn f e=>obtain⟨u,I,J⟩:=h;exact⟨u,agg e u q I,J⟩
 |tup M=>
  simp only[noRefTV,aah]at q;obtain⟨vs,A,B,C⟩:=h;refine⟨vs,A,B,fun j c e G=>?_⟩;obtain⟨u,D,l⟩:=C j c e G;have g:=q (c,e) (u5 G);refine⟨u,D,?_⟩;rcases l with⟨l,E⟩|⟨l,x,rfl,L⟩
  ·exact .inl ⟨l,agg _ _ (aah.2 g) E⟩
  exact .inr ⟨l,x,rfl,z x u (g x (by simp)) L⟩
def ZF (P:Program) (c:Func) (k b len:Nat) (e:OObj) (r:TV) (s:AS):Prop:=
 s.tmps[k]?=some (.one (.sl 0 0 b len))/\s.H=famH 0 [e]/\pj P s c.results.toList=some r
theorem wK {P:Program} {fn:Func} {args:List TV} {k len:Nat} {z:TV} (hf:P.funcs[r]?=some fn) (hb:fn.body=some e) (hn:callable P r=true) (hk:k<args.length) (a1:0<len) (an:n+len<=h.elems.length) (ap: ∀g∈h.elems,∀x∈g,isPure x=true) (he:j.es=h.es) (hs:j.elems.length=h.elems.length) (hp: ∀g∈j.elems,∀x∈g,isPure x=true) (hr:noRefTV z=true) (l:eY P k e (fun g s=>(g= .normal\/g= .ret)/\ ∃s',bD s s'/\ZF P fn k n len j z s') ⟨args.set k (.one (.sl 0 0 n len))++List.replicate (fn.ntmps-args.length) .undef,famH 0 [h]⟩):tT P r args k n len h j z:=by
 refine⟨hn,he,hs,hp,hr,fun X w vs b C hX ad D av Z N=>?_⟩;refine calls_of_wp hf hb ?_;have V:=xo1 (X:=X) (b:=b) (c:=C) (o:=h);have a0:b<w.heap.size:=by
  obtain⟨_,_,q⟩:=D;simp only[rho1,and_self,if_true]at q;obtain⟨cells,q1,_⟩:=q;exact(aan.1 q1).1
 have af:len<=C-n:=by
  obtain⟨_,_,q⟩:=D;simp only[rho1,and_self,if_true]at q;obtain⟨cells,_,_,q3,_⟩:=q;omega
 have Y:kL k (.slice (some ⟨b,n*h.es,none⟩) len (C-n)) w (fun m=>m=b) X ⟨args.set k (.one (.sl 0 0 n len))++List.replicate (fn.ntmps-args.length) .undef,famH 0 [h]⟩ {tmps:=vs++Array.replicate (fn.ntmps-vs.size) undef,defers:=[]} w:=by
  refine⟨⟨rfl,by simp[av],rho1 b C,⟨Keep.refl w,fun a z o1 O=>?_,fun a z a' r' o1 K b1 c1 c2 O al _ _=>?_,fun a z o1 b1 c1 O B=>?_,hX,fun a z o1 O=>?_⟩,fun t x E=>?_⟩,?_⟩
  ·obtain⟨rfl,rfl,rfl⟩:=s8 O;show objRel _ _ (Xo X (rho1 b C) (famH 0 [o1])) w 0 0 o1;rw[V];exact D
  ·obtain⟨rfl,rfl,_⟩:=s8 O;obtain⟨rfl,rfl,_⟩:=s8 al;exact⟨rfl,rfl⟩
  ·obtain⟨rfl,rfl,_⟩:=s8 O;simp only[rho1,and_self,if_true]at B;injection B with B
   injection B with B M
   subst B;exact⟨.inr rfl,ad⟩
  ·obtain⟨rfl,rfl,rfl⟩:=s8 O;exact dE ap
  ·show ∃v:Value,_/\x.rel (rho1 b C) (famH 0 [h]) (Xo X (rho1 b C) (famH 0 [h])) w v;rw[V];by_cases ht:t<args.length
   ·rw[aal (by simpa using ht)]at E;by_cases T:t=k
    ·subst T;rw[aa2 ht]at E;injection E with E
     subst E;exact⟨_,by rw[aaz (by omega)];exact Z,h,rfl,an,.inr ⟨b,C,C-n,by simp[rho1],rfl,af,fun _=>rfl⟩⟩
    rw[aaI (abD T)]at E;obtain⟨v,v1,v2⟩:=N t x T E;refine⟨v,by rw[aaz (by omega)];exact v1,TV.rel_map v2 (fun y u hy=>?_)⟩;cases y with
    |p y=>exact hy
    |sl a z n len=>obtain⟨h,B,_⟩:=hy;simp at B
    |ptr a z i m=>obtain⟨h,_,_,B,_⟩:=hy;simp at B
    |fn r a qs=>exact(oQ (fun _=>rfl) hy).elim
    |junk=>trivial
   rw[aap (by simp;omega),aaY]at E;split at E
   ·rename_i ag;injection E with E
    subst E;refine⟨undef,?_,dI⟩;simp at ag;rw[aaM (by omega),abo,if_pos (by omega)]
   cases E
  show(vs++_)[k]?=_;rw[aaz (by omega)];exact Z
 refine wp_mono (l _ _ _ _ _ _ Y) fun g a' w' ⟨s1,⟨ae,s2,hw,ab,F,ac⟩,R⟩=>?_
 obtain⟨⟨B,a2,ρ,A,G⟩,S⟩:=R.weak hw;have G:aX X ρ s2 a' w':=G;rw[F]at A;obtain⟨v,v1,v2⟩:=eA (by rw[F];exact A) G ac;rw[F]at v2
 -- the row has not moved
 obtain⟨u,u1,u2⟩:=G k _ ab;rw[S]at u1;injection u1 with u1
 subst u1;obtain⟨K,g1,g2,g3⟩:=u2;rw[F]at g1;obtain⟨_,_,rfl⟩:=s8 g1;have U:ρ 0 0=some (b,C):=by
  rcases g3 with⟨_,g4,_,_⟩|⟨b',c',cap,g4,L,_,g9⟩
  ·cases g4
  have g9:=g9 (by decide);injection L with L g6 g7
  injection L with L
  injection L with L g8
  subst L;have Q:=A.objs 0 0 K rfl;obtain⟨q1,q2,q3⟩:=Q;rw[g4]at q3;obtain⟨cells,q4,q5,q6,_⟩:=q3;obtain⟨p1,p2,p3⟩:=D;simp only[rho1,and_self,if_true]at p3;obtain⟨aa,p4,p5,p6,_⟩:=p3;rw[g4,show c'=C by omega]
 have H:Xo X ρ (famH 0 [K])=fun m=>X m\/m=b:=by
  funext m;apply propext;constructor
  ·rintro(l|⟨a,z,o3,c',B,M⟩)
   ·exact .inl l
   obtain⟨rfl,rfl,_⟩:=s8 B;rw[U]at M;injection M with M;injection M with M h3;exact .inr M.symm
  rintro(l|rfl)
  ·exact .inl l
  exact .inr ⟨0,0,K,C,rfl,U⟩
 have W:=A.objs 0 0 K rfl;rw[H]at W;rw[H]at v2;have I:But b w w':=⟨A.keep.os,A.keep.tape,A.keep.output,A.keep.size,fun m hj ah=>A.keep.block m hj ah⟩;have J:objRel (rho1 b C) (famH 0 [K]) (fun m=>X m\/m=b) w' 0 0 K:=by
  refine ou hp W (by rw[U];simp[rho1])
 have hv1:z.rel (rho1 b C) (famH 0 [K]) (fun m=>X m\/m=b) w' v:=tu hr v2;rcases ae with rfl|rfl
 ·exact⟨B,v,v1,v,rfl,I,J,hv1⟩
 exact⟨B,v,v1,v,rfl,I,J,hv1⟩
end
section
def jc:TV->Bool
 | .one (.p _)=>true
 | .agg b=>b.all isPure
 |_=>false
theorem xS {ρ:Rho} {H:OH} {Y:Nat->Prop} (e:b=Y) (c:jc p=true) (h:p.rel ρ H Y w m):p.rel o s b w m:=by
 subst e;refine tu ?_ h;unfold jc at c;split at c
 ·rfl
 ·rename_i g;simp only[noRefTV,aah]at c⊢;intro x f;have:=c x f;cases x<;>first|rfl|cases this
 cases c
def rz (k:Nat):Nat->List TV->Bool
 |_,[]=>true
 |i,t::l=>(i==k||jc t)&&rz k (i+1) l
theorem xQ {k:Nat}: ∀{l:List TV} {i j:Nat} {t:TV},rz k i l=true->i+j≠k->l[j]?=some t->jc t=true
 |[],_,_,_,_,_,h=>by simp at h
 |u::l,i,0,t,h,c,b=>by
  simp at b;subst b;simp only[rz,aaF,abV,beq_iff_eq]at h;exact h.1.resolve_left (fun e=>c (by rw[e,aa3]))
 |u::l,i,j+1,t,h,c,b=>by
  simp only[rz,aaF]at h;exact xQ (i:=i+1) (j:=j) h.2 (by omega) (by simpa using b)
theorem qb {k:Nat} {args:List TV} (h:rz k 0 args=true): ∀(j:Nat) t,j≠k->args[j]?=some t->jc t=true:=fun j t c b=>xQ (i:=0) (j:=j) h (by omega) b
theorem ez {g:Type} (f:g->List PV) (l:List g): ∀e∈lc f l,∀x∈e,isPure x=true:=fun e b x c=>by
 simp only[lc,aai]at b;obtain⟨y,_,rfl⟩:=b;simp only[aai]at c;obtain⟨z,_,rfl⟩:=c;rfl
theorem eh (F:List OObj):Hm [(0,F)]=famH 0 F:=by funext x;simp[Hm,famH]
section
variable {P:Program} {s:AS} {a:Act} {w0 w:World} {O X:Nat->Prop}
theorem Rk (ap:da w0 O X s a w) {c:Call} (ho:x.op= .call c) (ag:c.callee= .value (.func r)) {args:List TV} {k len B E:Nat} (G:tT P r args k n len h j p) (a3:B<=4999) (hk:k<args.length) (ba:0<len) (a2:eK s.ev c.args.toList=some (args.set k (.one (.sl B E n len)))) (ab: ∀(l:Nat) t,l≠k->args[l]?=some t->jc t=true) (D:(s.H B)[E]?=some h) (a6: ∀e∈h.elems,∀z∈e,isPure z=true) {K:Act->World->Prop} {Q:Exit->Act->World->Prop} (hK: ∀v w',da w0 O X (AS.put ⟨s.tmps,aw s.H B ((s.H B).set E j)⟩ x.dst p) (a.put x.dst v) w'->K (a.put x.dst v) w'):x.wp P a w K Q:=by
 obtain⟨h1,a0,I,A,U⟩:=ap;have U:aX X I s a w:=U;obtain⟨e1,e2⟩:=bP a2;have a4:(args.set k (.one (.sl B E n len)))[k]?=some (.one (.sl B E n len)):=aa2 hk;obtain⟨z,N,a8⟩:=e2 k _ a4;obtain⟨C,g1,g2,g3⟩:=be U z _ a8;rw[D]at g1;injection g1 with g1
 subst g1;obtain⟨b,W,V,hv⟩: ∃b W,I B E=some (b,W)/\a.eval z= .slice (some ⟨b,n*h.es,none⟩) len (W-n):=by
  rcases g3 with⟨_,_,g4,_⟩|⟨b,W,cap,g3,g5,_,g6⟩
  ·omega
  exact⟨b,W,g3,by rw[g5,g6 a3]⟩
 have a5:=A.objs B E h D;have ad:Xo X I s.H b:= .inr ⟨B,E,h,W,D,V⟩;have T:(fun l=>(Xo X I s.H l/\l≠b)\/l=b)=Xo X I s.H:=by
  funext l;apply propext;constructor
  ·rintro(g|rfl)
   ·exact g.1
   exact ad
  intro g;by_cases M:l=b
  ·exact .inr M
  exact .inl ⟨g,M⟩
 have ae: ∀l,Xo X I s.H l->l<w.heap.size:=fun b hb=>by
  rcases hb with hb|⟨z,y,j,m,g1,g2⟩
  ·exact A.bar b hb
  exact bf (A.objs z y j g1) g2
 have av:=f9 (w:=w) ho ag (e:=a.eval) rfl G.able;unfold Oper.wp;rw[av];simp only[Oper.upon];have ac:c.args.size=args.length:=by simpa using e1.symm
 refine(G.calls (fun l=>Xo X I s.H l/\l≠b) w (c.args.map a.eval) b W (fun l M=>ae l M.1) (fun g=>g.2 rfl) ?_ (by simp[ac]) ?_ ?_).mono ?_
 ·rw[T];exact ou a6 a5 (by simp[rho1,V])
 ·rw[aaS];have:c.args[k]?=some z:=by simpa using N
  rw[this];exact congrArg some hv
 ·intro l t M ht;rw[T];have a7:(args.set k (.one (.sl B E n len)))[l]?=some t:=by rw[aaI (abD M)];exact ht
  obtain⟨y,hy,a9⟩:=e2 l t a7;refine⟨a.eval y,?_,xS rfl (ab l t M ht) (be U y t a9)⟩;rw[aaS];have:c.args[l]?=some y:=by simpa using hy
  rw[this];rfl
 rintro e w1 ⟨v,rfl,J,Z,an⟩;show K (a.put x.dst v) w1;refine hK v w1 ?_;rw[T]at Z an;have ah:=(aaf.1 D).1;have S: ∀(z y:Nat) C,(aw s.H B ((s.H B).set E j) z)[y]?=some C->(z=B/\y=E/\C=j)\/(¬(z=B/\y=E)/\(s.H z)[y]?=some C):=fun z y C g=>by
  by_cases N:z=B
  ·subst N;rw[aM]at g;by_cases hy:y=E
   ·subst hy;rw[aa2 ah]at g;injection g with g
    exact .inl ⟨rfl,rfl,g.symm⟩
   rw[aaI (abD hy)]at g;exact .inr ⟨fun g=>hy g.2,g⟩
  rw[aD N]at g;exact .inr ⟨fun g=>N g.1,g⟩
 have R: ∀(z y:Nat) C,(s.H z)[y]?=some C-> ∃L,(aw s.H B ((s.H B).set E j) z)[y]?=some L/\L.es=C.es/\C.elems.length<=L.elems.length/\I z y=I z y:=fun z y C g=>by
  by_cases N:z=B
  ·subst N;by_cases hy:y=E
   ·subst hy;rw[D]at g;injection g with g
    subst g;exact⟨j,by rw[aM,aa2 ah],G.es,by rw[G.size];exact aaq _,rfl⟩
   exact⟨C,by rw[aM,aaI (abD hy)];exact g,rfl,aaq _,rfl⟩
  exact⟨C,by rw[aD N];exact g,rfl,aaq _,rfl⟩
 have F: ∀(z y:Nat) C,(aw s.H B ((s.H B).set E j) z)[y]?=some C-> ∃L,(s.H z)[y]?=some L:=fun z y C g=>by
  rcases S z y C g with⟨rfl,rfl,_⟩|⟨_,g⟩
  ·exact⟨h,D⟩
  exact⟨C,g⟩
 have af:Xo X I (aw s.H B ((s.H B).set E j))=Xo X I s.H:=by
  funext l;apply propext;constructor
  ·rintro(g|⟨z,y,C,m,h1,h2⟩)
   ·exact .inl g
   obtain⟨L,Y⟩:=F z y C h1;exact .inr ⟨z,y,L,m,Y,h2⟩
  rintro(g|⟨z,y,C,m,h1,h2⟩)
  ·exact .inl g
  obtain⟨L,Y,_⟩:=R z y C h1;exact .inr ⟨z,y,L,m,Y,h2⟩
 have mono: ∀z u,AV.rel I s.H (Xo X I s.H) w z u->AV.rel I (aw s.H B ((s.H B).set E j)) (Xo X I (aw s.H B ((s.H B).set E j))) w1 z u:=fun z u N=>
  nT ad J R (fun z y C b' c' h1 h2 _=>by
   obtain⟨L,Y⟩:=F z y C h1;exact .inr ⟨z,y,L,c',Y,h2⟩) N
 have aa:Inv w0 O X (aw s.H B ((s.H B).set E j)) I w1:=by
  refine⟨A.keep.but J (A.old B E h b W D V).1,fun z y C g=>?_,fun z y x' y' C L l c1 c2 g h' q q'=>?_,fun z y C l c1 g q=>?_,fun l M=>aas (A.bar l M) J.size,fun z y C g=>?_⟩
  ·rcases S z y C g with⟨rfl,rfl,rfl⟩|⟨al,g⟩
   ·rw[af];exact ou G.pure Z (by simp[rho1,V])
   refine dO (A.objs z y C g) rfl (fun l c1 M=>?_) mono;refine J.block l (bf (A.objs z y C g) M) ?_;rintro rfl;exact al (A.inj z y B E C h l c1 W g D M V)
  ·obtain⟨o3,Y⟩:=F z y C g;obtain⟨o4,h4⟩:=F x' y' L h';exact A.inj z y x' y' o3 o4 l c1 c2 Y h4 q q'
  ·obtain⟨o3,Y⟩:=F z y C g;exact A.old z y o3 l c1 Y q
  rcases S z y C g with⟨rfl,rfl,rfl⟩|⟨al,g⟩
  ·exact dE G.pure
  exact A.self z y C g
 have a1:aX X I ⟨s.tmps,aw s.H B ((s.H B).set E j)⟩ a w1:=fun t z N=>by
  obtain⟨u,u1,u2⟩:=U t z N;exact⟨u,u1,TV.rel_map u2 mono⟩
 refine⟨by rw[f5];exact h1,by rw[jL,fg];exact a0,I,by rw[fK];exact aa,oy a0 a1 ?_⟩;show p.rel I (aw s.H B ((s.H B).set E j)) (Xo X I (aw s.H B ((s.H B).set E j))) w1 v;rw[af];exact tu G.noref an
def cwTs (b:Array Oper) (m:Nat) (s:AS):Option (FuncId×List TV):=match b[m]? with
 |some o=>match o.guard,o.op with
  |none,.call c=>match c.callee with
   | .value (.func f)=>match eK s.ev c.args.toList with
    |some e=>some (f,e)
    |none=>none
   |_=>none
  |_,_=>none
 |none=>none
def cwD (b:Array Oper) (m:Nat):Option Tmp:=(b[m]?).bind (·.dst)
def Ws (b:Array Oper) (m:Nat) (r:TV) (c e:Nat) (f:OObj) (s:AS):AS:=AS.put ⟨s.tmps,aw s.H c ((s.H c).set e f)⟩ (cwD b m) r
structure Vv (ops:Array Oper) (m:Nat) (f:FuncId) (args:List TV) (k off len fa fr:Nat) (o0:OObj) (s:AS):Prop where
 ts:cwTs ops m s=some (f,args.set k (.one (.sl fa fr off len)))
 row:(s.H fa)[fr]?=some o0
theorem zh (m:Nat) {args:List TV} {k len:Nat} (C:tT P r args k n len h j p) (J W:Nat) (u:List (ao P)) (H:List Nat) {id:Nat} (hk:k<args.length) (D:0<len) (A: ∀(q:Nat) t,q≠k->args[q]?=some t->jc t=true) (R: ∀e∈h.elems,∀x∈e,isPure x=true) (hl:s.tmps.length<=1000000) (L:m<g.toList.length) (b:aT P (u.map ao.a) H (aJ g (g.toList.take m) 0) (some s) (fun G=>Vv g m r args k n len J W h G/\G.tmps.length<=1000000/\aT P (u.map ao.a) H (aJ g (g.toList.drop (m+1)) (m+1)) (some (Ws g m p J W j G)) (l .normal))) (K:J<=4999):bo P (.region id g false) l s:=fun w0 O X a w r0=>by
 obtain⟨G,Y,⟨y,q2⟩,aa,Z⟩:=aO P (u.map ao.a) H g _ 0 s _ b;obtain⟨F,h3,h4⟩:=aO P (u.map ao.a) H g _ (m+1) _ _ Z;obtain⟨o,N⟩: ∃o,g[m]?=some o:=⟨g[m],by simp at L;simp[L]⟩;unfold cwTs at y;rw[N]at y;simp only at y;split at y
 ·rename_i c hg E;split at y
  ·rename_i f' B;split at y
   ·rename_i ts U;injection y with y
    injection y with y q3
    subst y q3;refine wp_region ?_;have T:g.size=(g.toList.take m).length+(1+(g.toList.drop (m+1)).length):=by simp at L⊢;omega
    rw[T,aax,<- abf,aaO];have M:(g.toList.take m).length=m:=by rw[abc];omega
    refine mo (ao.ok u) (g.toList.take m) 0 s G a w (fun q o z=>?_) Y r0 fun I V r'=>?_
    ·rw[aaH]at z;split at z
     ·simpa using z
     cases z
    rw[M,abX 1,aa1];simp only[wpOps,N];rw[if_pos (by simp[Region.wanted,hg])];refine .inl (Rk r' E B C K hk D U A q2 R fun v w1 S=>?_);refine ic (ao.ok u) (Q:=fun e I V=> ∃F,l e F/\da w0 O X F I V) (g.toList.drop (m+1)) (m+1) _ F _ _ (fun q o z=>?_) h3 ?_ (fun I V hr=>⟨F,h4,hr⟩)
    ·rw[aaN]at z;simpa using z
    have:cwD g m=o.dst:=by unfold cwD;rw[N];rfl
    unfold Ws;rw[this];exact S
   cases y
  cases y
 cases y
theorem wh (m:Nat) {args:List TV} {k len:Nat} (v:tT P r args k n len h j p) (B C:Nat) (q:List (ao P)) (F:List Nat) {id:Nat} (H:k<args.length) (z:0<len) (u: ∀(o:Nat) t,o≠k->args[o]?=some t->jc t=true) (E: ∀b∈h.elems,∀x∈b,isPure x=true) (I:s.tmps.length<=1000000) (J:m<g.toList.length) (c: ∀K:AS->Prop,(∀A,(Vv g m r args k n len B C h A/\A.tmps.length<=1000000/\ ∀K:AS->Prop,(∀G,bo P e l G->K G)->aT P (q.map ao.a) F (aJ g (g.toList.drop (m+1)) (m+1)) (some (Ws g m p B C j A)) K)->K A)->aT P (q.map ao.a) F (aJ g (g.toList.take m) 0) (some s) K) (D:B<=4999:=by decide):bo P (.seq (.region id g false) e) l s:=
 ai (zh m v B C q F H z u E I J (c _ fun A ⟨L,M,N⟩=>⟨L,M,N _ fun _ c=>c⟩) D)
theorem Fo (m:Nat) {args:List TV} {k len:Nat} (u:tT P r args k n len h j p) (z A:Nat) (o:List (ao P)) (D:List Nat) {id:Nat} (F:k<args.length) (v:0<len) (q: ∀(c:Nat) t,c≠k->args[c]?=some t->jc t=true) (C: ∀e∈h.elems,∀x∈e,isPure x=true) (G:s.tmps.length<=1000000) (H:m<g.toList.length) (b: ∀K:AS->Prop,(∀y,(Vv g m r args k n len z A h y/\y.tmps.length<=1000000/\ ∀K:AS->Prop,(∀E,l .normal E->K E)->aT P (o.map ao.a) D (aJ g (g.toList.drop (m+1)) (m+1)) (some (Ws g m p z A j y)) K)->K y)->aT P (o.map ao.a) D (aJ g (g.toList.take m) 0) (some s) K) (B:z<=4999:=by decide):bo P (.region id g false) l s:=
 zh m u z A o D F v q C G H (b _ fun y ⟨I,J,L⟩=>⟨I,J,L _ fun _ b=>b⟩) B
end
end
end Go.Proofs.YtalmoejhjceflaaGreat
namespace Go.Proofs
open Go.Shelf
def Tryz.lays133_ren:Go.Shelf.Ren:=⟨fun|133=>211|128=>184|n=>n,fun|51=>165|3=>3|4=>4|46=>164|5=>5|9=>9|n=>n,fun|n=>n⟩
theorem Tryz.lays133:Go.Proofs.Lays.n133 prog Tryz.lays133_ren:={
 mixed:=by kernel_rfl
 f128:=func184.trans (congrArg some (by kernel_rfl))
 f133:=func211.trans (congrArg some (by kernel_rfl))
 t3:=underlying3
 a3:=isAgg3
 z3:=sizeOf3
 v3:=zeroValue3
 t4:=underlying4
 a4:=isAgg4
 z4:=sizeOf4
 v4:=zeroValue4
 t5:=underlying5
 a5:=isAgg5
 z5:=sizeOf5
 v5:=zeroValue5
 t9:=underlying9
 a9:=isAgg9
 z9:=sizeOf9
 v9:=zeroValue9
 t46:=underlying164
 a46:=isAgg164
 z46:=sizeOf164
 v46:=zeroValue164
 t51:=underlying165
 a51:=isAgg165
 z51:=sizeOf165
 v51:=zeroValue165}
end Go.Proofs
namespace Go.Proofs.YtalmoejhjceflaaGreat
open Go.RowKit Go.Proofs.Tryz
variable {b c:Nat->Prop} {e f:Code} {g:Array Oper} {n:Nat} {w W:World} {h j:OObj} {l:Exit->AS->Prop} {m:Value} {o:Rho} {p:TV} {q:Operand} {r:FuncId} {s:OH} {t:List PV} {u:TypeId} {v:AS} {x:Oper}
section
def ig:AV->Bool
 | .p (.raw _)=>true
 | .p (.sl [])=>true
 | .p _=>false
 |_=>true
def G7:TV->Bool
 | .one x=>ig x
 | .agg b=>b.all ig
 | .tup c=>c.all fun t=>t.2.all ig
 | .fn _ b=>b.all ig
def vz (r:CallRes):Prop:=G7 r.r=true/\ ∀o∈r.fam,∀e∈o.elems,∀x∈e,ig x=true
def xR:TV->Bool
 | .fn _ b=>b.all isPure
 |t=>jc t
section
variable {P:Program} {s:AS} {a:Act} {w0 w w1:World} {O X:Nat->Prop} {ρ:Rho} {H:OH}
theorem oE {x:AV} (y:ig x=true) (h:AV.rel ρ H b w x m):AV.rel ρ H c w x m:=by
 cases x with
 |p x=>
  cases x with
  |raw u=>
   obtain⟨rfl,A⟩:=aV (ρ:=ρ) (H:=H) h;exact bQ.raw _ A
  |sl q=>
   cases q with
   |nil=>
    have h:bQ b w (.sl []) m:=h;generalize n:PV.sl []=x at h;cases h with
    |raw m h=>cases n
    |ptr g o z f B C D F=>cases n
    |nil a l=>exact bQ.nil _ _
    |sl g o G cap q f B C E t I D F=>
     injection n with n
     subst n;exact bQ.nil _ _
   |cons e q=>cases y
  |ptr z=>cases y
 |sl a r o len=>exact h
 |ptr a r i j=>exact h
 |fn=>exact h
 |junk=>trivial
theorem ya (o:G7 p=true) (h:p.rel ρ H b w m):p.rel ρ H c w m:=by
 have agg: ∀g m,g.all ig=true->bI ρ H b w g m->bI ρ H c w g m:=fun g m B ⟨vs,q,r,y⟩=>by
  simp only[aah]at B;exact⟨vs,q,r,fun j x D=>by obtain⟨u,z,n,A⟩:=y j x D;exact⟨u,z,n,oE (B x (u5 D)) A⟩⟩
 cases p with
 |one x=>exact oE o h
 |agg g=>exact agg g m o h
 |fn f g=>obtain⟨u,E,F⟩:=h;exact⟨u,agg g u o E,F⟩
 |tup I=>
  simp only[G7,aah]at o;obtain⟨vs,q,r,y⟩:=h;refine⟨vs,q,r,fun j e g C=>?_⟩;obtain⟨u,z,n⟩:=y j e g C;have l:=o (e,g) (u5 C);refine⟨u,z,?_⟩;rcases n with⟨n,A⟩|⟨n,x,rfl,G⟩
  ·exact .inl ⟨n,agg _ _ (by simpa only[aah] using l) A⟩
  exact .inr ⟨n,_,rfl,oE (l x (by simp)) G⟩
theorem li {f:OH} {t:TV} (c:jc t=true) (h:t.rel ρ H b w m):t.rel o f (fun _=>False) w m:=by
 refine xS (Y:=fun _=>False) rfl c ?_ (ρ:=ρ) (H:=H);unfold jc at c;split at c
 ·exact bQ.weaken (fun _ _ h=>h.elim) h
 ·rename_i y;simp only[aah]at c;obtain⟨vs,g,l,n⟩:=h;refine⟨vs,g,l,fun j x e=>?_⟩;obtain⟨u,p,q,r⟩:=n j x e;have:=c x (u5 e);refine⟨u,p,q,?_⟩;cases x<;>first|exact bQ.weaken (fun _ _ h=>h.elim) r|cases this
 cases c
theorem uB {g:OH} (c:xR p=true) (h:p.rel ρ H b w m):p.rel o g (fun _=>False) w m:=by
 cases p with
 |fn f e=>
  obtain⟨u,j,l⟩:=h;exact⟨u,li (t:= .agg e) c j,l⟩
 |one x=>exact li c h
 |agg e=>exact li c h
 |tup n=>exact li c h
def Zq (b:Array Oper) (m:Nat) (res:CallRes) (s:AS):AS:=match cwD b m with
 |some d=>iW s d (renTV d res.r) (res.fam.map (renO d))
 |none=>s
end
end
section
section
variable {P:Program} {b:Nat} {ty:TypeId} {cs cs':List PV} {Q:Exit->AS->List PV->Prop} {s:AS}
end
theorem DL {a:Act} (d:Nat) (hd:v.H d=[⟨u,t.length,[t.map AV.p]⟩]) (r:da w b c v a W):
  ∃l,(w.heap.size<=l\/b l)/\ ¬c l/\iu l u w (fun j=>b j\/j=l) (fun j=>c j\/j=l) ⟨v.tmps.map (tj d l),aw v.H d []⟩ t a W:=by
 obtain⟨h1,ae,L,C,Z⟩:=r;have Z:aX c L v a W:=Z;have J:(v.H d)[0]?=some ⟨u,t.length,[t.map AV.p]⟩:=by rw[hd];rfl
 obtain⟨z1,z2,z3⟩:=C.objs d 0 _ J;cases N:L d 0 with
 |none=>rw[N]at z3;cases z3
 |some bc=>
  obtain⟨l,n⟩:=bc;rw[N]at z3;obtain⟨cells,p1,p2,p3,p4,p5⟩:=z3;have V:=C.old d 0 _ l n J N;have M: ∀(x y:Nat) o,(aw v.H d [] x)[y]?=some o->x≠d/\(v.H x)[y]?=some o:=fun x y o Q=>by
   by_cases G:x=d
   ·subst G;rw[aM]at Q;simp at Q
   rw[aD G]at Q;exact⟨G,Q⟩
  have aa: ∀j,Xo (fun j=>c j\/j=l) L (aw v.H d []) j->Xo c L v.H j:=fun j F=>by
   rcases F with(F|rfl)|⟨x,y,o,n',P,E⟩
   ·exact .inl F
   ·exact .inr ⟨d,0,_,n,J,N⟩
   exact .inr ⟨x,y,o,n',(M x y o P).2,E⟩
  have K: ∀x B,AV.rel L v.H (Xo c L v.H) W x B->AV.rel L (aw v.H d []) (Xo (fun j=>c j\/j=l) L (aw v.H d [])) W (jR d l x) B:=gk (DU d l) fun x B hn G=>by
   cases x with
   |fn=>cases hn
   |p x=>exact bQ.weaken (fun j _ F=>aa j F) G
   |sl x r ag len=>
    simp only[jR];split
    ·trivial
    rename_i D;obtain⟨o,P,E⟩:=G;exact⟨o,by rw[aD D];exact P,E⟩
   |ptr x r i j=>
    simp only[jR];split
    ·rename_i D;subst D;split
     ·rename_i hc;obtain⟨rfl,rfl,rfl⟩:=hc;obtain⟨o,b',Y,P,E,g3,g4⟩:=G;rw[N]at E;injection E with E
      injection E with E af
      subst E;rw[g4];simp only[ab2,aa3];exact bQ.raw _ rfl
     trivial
    rename_i D;obtain⟨o,b',Y,P,E⟩:=G;exact⟨o,b',Y,by rw[aD D];exact P,E⟩
   |junk=>trivial
  have R: ∀t B,bI L v.H (Xo c L v.H) W t B->bI L (aw v.H d []) (Xo (fun j=>c j\/j=l) L (aw v.H d [])) W (t.map (jR d l)) B:=fun t B ⟨vs,P,E,g3⟩=>by
   refine⟨vs,P,by simpa using E,fun j x G=>?_⟩;rw[u9]at G;obtain⟨y,hy,rfl⟩:=u6.1 G;obtain⟨A,u1,U,u3⟩:=g3 j y hy;exact⟨A,u1,U,K y A u3⟩
  have ab:iu l u w (fun j=>b j\/j=l) (fun j=>c j\/j=l) ⟨v.tmps.map (tj d l),aw v.H d []⟩ t a W:=by
   refine⟨h1,by simpa using ae,L,⟨⟨C.keep.os,C.keep.tape,C.keep.output,C.keep.size,fun k hk hn=>C.keep.block k hk (fun h=>hn (.inl h))⟩,fun x y o Q=>?_,fun x y x' y' o o' j m Y Q I=>C.inj x y x' y' o o' j m Y (M x y o Q).2 (M x' y' o' I).2,fun x y o j m Q F=>?_,fun j F=>?_,fun x y o Q=>C.self x y o (M x y o Q).2⟩,fun q x G=>?_,.inr rfl,.inr rfl,?_⟩
   ·obtain⟨D,I⟩:=M x y o Q;obtain⟨q1,q2,q3⟩:=C.objs x y o I;refine⟨q1,q2,?_⟩;cases hr:L x y with
    |none=>rw[hr]at q3;exact q3
    |some bc=>
     obtain⟨b',Y⟩:=bc;rw[hr]at q3;obtain⟨S,r1,r2,r3,r4,r5⟩:=q3;refine⟨S,r1,r2,r3,r4,fun i e j z he hz=>?_⟩;obtain⟨A,u1,U,u3⟩:=r5 i e j z he hz;have T:=C.self x y o I e (u5 he) z (u5 hz);have:=K z A u3;refine⟨A,u1,U,?_⟩;cases z with
     |sl z _ _ _=>have T:z=x:=T;subst T;simpa[jR,D] using this
     |ptr z _ _ _=>have T:z=x:=T;subst T;simpa[jR,D] using this
     |fn _ z _=>have T:z=x:=T.1;subst T;simpa[jR,D] using this
     |p z=>exact this
     |junk=>trivial
   ·obtain⟨D,I⟩:=M x y o Q;obtain⟨P,E⟩:=C.old x y o j m I F;refine⟨?_,?_⟩
    ·rcases P with g|g
     ·exact .inl g
     exact .inr (.inl g)
    rintro(g|rfl)
    ·exact E g
    exact D (C.inj x y d 0 o _ j m n I J F N).1
   ·rcases F with F|rfl
    ·exact C.bar j F
    exact(aan.1 p1).1
   ·simp only[u9]at G;obtain⟨y,hy,rfl⟩:=u6.1 G;obtain⟨B,v1,v2⟩:=Z q y hy;refine⟨B,v1,?_⟩;cases y with
    |one x=>exact K x B v2
    |agg t=>exact R t B v2
    |fn f t=>obtain⟨A,h1,h2⟩:=v2;exact⟨A,R t A h1,h2⟩
    |tup ts=>
     obtain⟨vs,P,E,g3⟩:=v2;refine⟨vs,P,by simpa using E,fun j m t F=>?_⟩;rw[u9]at F;obtain⟨z,hz,ac⟩:=u6.1 F;obtain⟨Y,ad⟩:=z;simp at ac;obtain⟨rfl,rfl⟩:=ac;obtain⟨A,u1,U⟩:=g3 j Y ad hz;refine⟨A,u1,?_⟩;rcases U with⟨U,u3⟩|⟨U,q',rfl,u4⟩
     ·exact .inl ⟨U,R _ _ u3⟩
     exact .inr ⟨U,_,rfl,K _ _ u4⟩
   refine⟨cells,n,p1,p2,by simpa using p3,p4,z2,fun j x G=>?_⟩;obtain⟨B,v1,v2,v3⟩:=p5 0 (t.map AV.p) j (.p x) rfl (by rw[u9,G];rfl);exact⟨B,by simpa using v1,v2,bQ.weaken (fun j _ F=>aa j F) v3⟩
  exact⟨l,V.1,V.2,ab⟩
def wE (d b:Nat):AV->AV
 | .p (.raw (.pointer (some ⟨c,0,none⟩)))=>if c=b then .ptr d 0 0 0 else .p (.raw (.pointer (some ⟨c,0,none⟩)))
 |x=>x
def FR (d b:Nat):TV->TV
 | .one x=> .one (wE d b x)
 | .agg c=> .agg (c.map (wE d b))
 | .fn f c=> .fn f (c.map (wE d b))
 | .tup e=> .tup (e.map fun t=>(t.1,t.2.map (wE d b)))
theorem C8 {a:Act} {d:Nat} (aa:w.heap.size<=n\/b n) (an: ¬c n) (hd:v.H d=[]) (r:iu n u w (fun j=>b j\/j=n) (fun j=>c j\/j=n) v t a W):
  da w b c ⟨v.tmps.map (FR d n),aw v.H d [⟨u,t.length,[t.map AV.p]⟩]⟩ a W:=by
 obtain⟨k1,ap,U,D,ac,_,_,cells,l,p1,p2,p3,p4,p5,p6⟩:=r;have ac:aX (fun j=>c j\/j=n) U v a W:=ac;generalize ab:newρ U d (fun r=>if r=0 then some (n,l)else none)=ρ2;generalize ad:aw v.H d [⟨u,t.length,[t.map AV.p]⟩]=P;have af:P d=[⟨u,t.length,[t.map AV.p]⟩]:=by rw[<- ad,aM]
 have G: ∀x,x≠d->P x=v.H x:=fun x C=>by rw[<- ad,aD C]
 have S: ∀r,ρ2 d r=if r=0 then some (n,l)else none:=fun r=>by rw[<- ab,newρ_eq]
 have N: ∀x r,x≠d->ρ2 x r=U x r:=fun x r C=>by rw[<- ab,newρ_ne C]
 have I: ∀(y:Nat) o,(P d)[y]?=some o->y=0/\o=⟨u,t.length,[t.map AV.p]⟩:=fun y o F=>by
  rw[af]at F
  match y,F with
  |0,F=>exact⟨rfl,by simpa using F.symm⟩
  |y+1,F=>simp at F
 have ae: ∀j,Xo c ρ2 P j->Xo (fun j=>c j\/j=n) U v.H j:=fun j E=>by
  rcases E with E|⟨x,y,o,h,M,L⟩
  ·exact .inl (.inl E)
  by_cases C:x=d
  ·subst C;obtain⟨rfl,_⟩:=I y o M;rw[S,if_pos rfl]at L;injection L with L
   injection L with L
   exact .inl (.inr L.symm)
  rw[G x C]at M;rw[N x y C]at L;exact .inr ⟨x,y,o,h,M,L⟩
 have Z: ∀x B,AV.rel U v.H (Xo (fun j=>c j\/j=n) U v.H) W x B->AV.rel ρ2 P (Xo c ρ2 P) W x B:=qH fun x B hn C=>by
  cases x with
  |fn=>cases hn
  |p x=>exact bQ.weaken (fun j _ E=>ae j E) C
  |sl x r av len=>
   obtain⟨o,M,L⟩:=C;have Y:x≠d:=by rintro rfl;rw[hd]at M;simp at M
   exact⟨o,by rw[G x Y];exact M,by rw[N x r Y];exact L⟩
  |ptr x r i j=>
   obtain⟨o,b',h,M,L,g3⟩:=C;have Y:x≠d:=by rintro rfl;rw[hd]at M;simp at M
   exact⟨o,b',h,by rw[G x Y];exact M,by rw[N x r Y];exact L,g3⟩
  |junk=>trivial
 have R: ∀x B,AV.rel U v.H (Xo (fun j=>c j\/j=n) U v.H) W x B->AV.rel ρ2 P (Xo c ρ2 P) W (wE d n x) B:=fun x B C=>by
  unfold wE;split
  ·split
   ·rename_i hb;subst hb;obtain⟨rfl,_⟩:=aV (ρ:=U) (H:=v.H) C;exact⟨⟨u,t.length,[t.map AV.p]⟩,_,l,by rw[af];rfl,by rw[S,if_pos rfl],by simp,by simp⟩
   exact Z _ _ C
  exact Z _ _ C
 have V: ∀t B,bI U v.H (Xo (fun j=>c j\/j=n) U v.H) W t B->bI ρ2 P (Xo c ρ2 P) W (t.map (wE d n)) B:=fun t B ⟨vs,M,L,g3⟩=>by
  refine⟨vs,M,by simpa using L,fun j x C=>?_⟩;rw[u9]at C;obtain⟨y,hy,rfl⟩:=u6.1 C;obtain⟨A,u1,u2,u3⟩:=g3 j y hy;exact⟨A,u1,u2,R y A u3⟩
 refine⟨k1,by simpa using ap,ρ2,⟨⟨D.keep.os,D.keep.tape,D.keep.output,D.keep.size,fun k hk hn=>?_⟩,fun x y o F=>?_,fun x y x' y' o o' j h c' F K E J=>?_,fun x y o j h F E=>?_,fun j E=>D.bar j (.inl E),fun x y o F=>?_⟩,fun m x C=>?_⟩
 ·by_cases ag:k=n
  ·subst ag;exfalso;rcases aa with g|g
   ·omega
   exact hn g
  exact D.keep.block k hk (fun hh=>by
   rcases hh with hh|hh
   ·exact hn hh
   exact ag hh)
 ·by_cases C:x=d
  ·subst C;obtain⟨rfl,rfl⟩:=I y o F;refine⟨fun e T=>by simp at T;subst T;simp,p5,?_⟩;rw[S,if_pos rfl];refine⟨cells,p1,p2,by simpa using p3,p4,fun i e j z T hz=>?_⟩
   match i,T with
   |0,T=>
    simp at T;subst T;rw[u9]at hz;obtain⟨y,hy,rfl⟩:=u6.1 hz;obtain⟨B,v1,v2,v3⟩:=p6 j y hy;exact⟨B,by simpa using v1,v2,bQ.weaken (fun j _ E=>ae j E) v3⟩
   |i+1,T=>simp at T
  replace F:(P x)[y]?=some o:=F
  rw[G x C]at F;exact dO (D.objs x y o F) (N x y C) (fun _ _ _=>rfl) Z
 ·by_cases C:x=d
  ·subst C;obtain⟨rfl,_⟩:=I y o F;rw[S,if_pos rfl]at E;injection E with E
   injection E with E _
   subst E;by_cases Q:x'=x
   ·subst Q;obtain⟨rfl,_⟩:=I y' o' K;exact⟨rfl,rfl⟩
   replace K:(P x')[y']?=some o':=K
   rw[G x' Q]at K;rw[N x' y' Q]at J;exact absurd (.inr rfl) (D.old x' y' o' _ c' K J).2
  replace F:(P x)[y]?=some o:=F
  rw[G x C]at F;rw[N x y C]at E;by_cases Q:x'=d
  ·subst Q;obtain⟨rfl,_⟩:=I y' o' K;rw[S,if_pos rfl]at J;injection J with J
   injection J with J _
   subst J;exact absurd (.inr rfl) (D.old x y o _ h F E).2
  replace K:(P x')[y']?=some o':=K
  rw[G x' Q]at K;rw[N x' y' Q]at J;exact D.inj x y x' y' o o' j h c' F K E J
 ·by_cases C:x=d
  ·subst C;obtain⟨rfl,_⟩:=I y o F;rw[S,if_pos rfl]at E;injection E with E
   injection E with E _
   subst E;exact⟨aa,an⟩
  replace F:(P x)[y]?=some o:=F
  rw[G x C]at F;rw[N x y C]at E;obtain⟨M,L⟩:=D.old x y o j h F E;refine⟨?_,fun C=>L (.inl C)⟩;rcases M with g|g|g
  ·exact .inl g
  ·exact .inr g
  exact absurd (.inr g) L
 ·by_cases C:x=d
  ·subst C;obtain⟨_,rfl⟩:=I y o F;intro e T z hz;simp at T;subst T;obtain⟨q,_,rfl⟩:=aai.1 hz;trivial
  replace F:(P x)[y]?=some o:=F
  rw[G x C]at F;exact D.self x y o F
 simp only[u9]at C;obtain⟨y,hy,rfl⟩:=u6.1 C;obtain⟨B,v1,v2⟩:=ac m y hy;refine⟨B,v1,?_⟩;cases y with
 |one x=>exact R x B v2
 |agg t=>exact V t B v2
 |fn f t=>obtain⟨A,h1,h2⟩:=v2;exact⟨A,V t A h1,h2⟩
 |tup ts=>
  obtain⟨vs,M,L,g3⟩:=v2;refine⟨vs,M,by simpa using L,fun j h t E=>?_⟩;rw[u9]at E;obtain⟨z,hz,ah⟩:=u6.1 E;obtain⟨c',al⟩:=z;simp at ah;obtain⟨rfl,rfl⟩:=ah;obtain⟨A,u1,u2⟩:=g3 j c' al hz;refine⟨A,u1,?_⟩;rcases u2 with⟨u2,u3⟩|⟨u2,q',rfl,u4⟩
  ·exact .inl ⟨u2,V _ _ u3⟩
  exact .inr ⟨u2,_,rfl,R _ _ u4⟩
theorem wg {P:Program} (d:Nat) {cs:List PV} (x:v.H d=[⟨u,cs.length,[cs.map AV.p]⟩]) (h: ∀b,dW P b u e (fun f j g=>j.H d=[]/\l f ⟨j.tmps.map (FR d b),aw j.H d [⟨u,g.length,[g.map AV.p]⟩]⟩) ⟨v.tmps.map (tj d b),aw v.H d []⟩ cs):bo P e l v:=fun B O X a w r=>by
 obtain⟨b,o,q,t⟩:=DL d x r;exact wp_mono (h b _ _ _ _ _ t) fun f z A ⟨j,g,⟨m,n⟩,y⟩=>⟨_,n,C8 o q m y⟩
end
section
def noG (Q:Exit->AS->Prop):Exit->AS->Prop
 | .goto _,_=>False
 |e,s=>Q e s
section
variable {P:Program} {s:AS} {Q:Exit->AS->Prop}
theorem Kl (h:bo P e (noG Q) s):bo P (.scope e) Q s:=fun _ _ _ _ _ r=>
 wp_scope_straight (wp_mono (h _ _ _ _ _ r) fun b a w ⟨j,f,g⟩=>by
  cases b<;>first|exact⟨j,f,g⟩|exact f.elim)
theorem Kj (h:Q .normal s):bo P (.label n) Q s:=fun _ _ _ _ _ r=>wp_label ⟨s,h,r⟩
end
section
variable {P:Program} {b:Nat} {ty:TypeId} {cs:List PV} {s:AS} {Q:Exit->AS->List PV->Prop}
theorem CZ (k d:Nat) (F:s.tmps[k]?=some (.raw (.pointer (some ⟨b,0,none⟩)))) (E:s.H d=[]) (h:eY P k e (fun f n=> ∃g,n.H d=[⟨ty,g.length,[g.map AV.p]⟩]/\n.tmps[k]?=some (.one (.ptr d 0 0 0))/\Q f ⟨n.tmps.map (tj d b),aw n.H d []⟩ g) ⟨s.tmps.map (FR d b),aw s.H d [⟨ty,cs.length,[cs.map AV.p]⟩]⟩):dW P b ty e Q s cs:=fun N O X a w r=>by
 have t:O b:=by obtain⟨_,_,_,_,_,t,_⟩:=r;exact t
 have y:X b:=by obtain⟨_,_,_,_,_,_,y,_⟩:=r;exact y
 have B:(fun j=>O j\/j=b)=O:=by
  funext j;exact propext ⟨fun h=>h.elim id (fun f=>by rw[f];exact t),.inl⟩
 have C:(fun j=>(X j/\j≠b)\/j=b)=X:=by
  funext j;refine propext ⟨fun h=>h.elim (·.1) (fun f=>by rw[f];exact y),fun h=>?_⟩;by_cases f:j=b
  ·exact .inr f
  exact .inl ⟨h,f⟩
 have l:a.tmps[k]?=some (.pointer (some ⟨b,0,none⟩)):=by
  obtain⟨_,_,A,_,m,_⟩:=r;obtain⟨v,o,z⟩:=m k _ F;rw[o,(aV (H:=s.H) (ρ:=A) z).1]
 have M:iu b ty N (fun j=>O j\/j=b) (fun j=>(X j/\j≠b)\/j=b) s cs a w:=by rw[B,C];exact r
 have q:=C8 (.inr t) (fun h=>h.2 rfl) E M;refine wp_mono (h _ _ _ _ _ _ ⟨q,l⟩) fun f R U ⟨n,⟨g,J,K,L⟩,G,I⟩=>?_
 obtain⟨u,S,T,x⟩:=DL d J G;have D:u=b:=by
  obtain⟨_,_,A,_,m,_⟩:=id x;obtain⟨v,o,z⟩:=m k (.raw (.pointer (some ⟨u,0,none⟩))) (by
   show(n.tmps.map (tj d u))[k]?=_;rw[u9,K];simp[tj,jR])
  rw[I]at o;injection o with o
  have:=(aV z).1;rw[<- o]at this;injection this with this
  injection this with this
  injection this with this
  exact this.symm
 subst D;rw[B,C]at x;exact⟨_,g,L,x⟩
end
end
theorem WE {U:Act} (a:Nat) (ad:uQ v.H a) (B:Inv w b c v.H o W) (af:aX c o v U W):Inv w b c (aw v.H a []) o W/\aX c o ⟨v.tmps.map (fc v.H a),aw v.H a []⟩ U W:=by
 have I: ∀(x y:Nat) m,(aw v.H a [] x)[y]?=some m->x≠a/\(v.H x)[y]?=some m:=fun x y m E=>by
  by_cases F:x=a
  ·subst F;rw[aM]at E;simp at E
  rw[aD F]at E;exact⟨F,E⟩
 have V: ∀g,Xo c o (aw v.H a []) g->Xo c o v.H g:=fun g G=>by
  rcases G with G|⟨x,y,m,n,D,K⟩
  ·exact .inl G
  exact .inr ⟨x,y,m,n,(I x y m D).2,K⟩
 have Y: ∀(r:Nat) m,(v.H a)[r]?=some m-> ∀g l,o a r=some (g,l)-> ¬Xo c o (aw v.H a []) g:=fun r m E g l Z hX=>by
  rcases hX with hX|⟨x,y,R,n,D,K⟩
  ·exact(B.old a r m g l E Z).2 hX
  obtain⟨F,ac⟩:=I x y R D;exact F (B.inj x y a r R m g n l ac E K Z).1
 have M: ∀x u,isPure x=true->AV.rel o v.H (Xo c o v.H) W x u->bQ (Xo c o (aw v.H a [])) W (vO x) u:=fun x u hp h=>by
  cases x<;>first|exact bQ.weaken (fun g _ G=>V g G) h|cases hp
 have S: ∀(r:Nat) m,(v.H a)[r]?=some m-> ∀e∈m.elems,∀x∈e,∀u,AV.rel o v.H (Xo c o v.H) W x u->bQ (Xo c o (aw v.H a [])) W (nr v.H a x) u:=fun r m E e T x F u hu=>by
  rcases ad r m E e T x F with hp|⟨r',ag,len,R,rfl,C,ae⟩
  ·have:=M x u hp hu;cases x<;>first|exact this|cases hp
  simp only[nr,C];exact oY (B.objs a r' R C) C (fun e T y hy u hu=>M y u (ae e T y hy) hu) (Y r' R C) hu
 have J: ∀x A,AV.rel o v.H (Xo c o v.H) W x A->AV.rel o (aw v.H a []) (Xo c o (aw v.H a [])) W (dN v.H a x) A:=gk (DT v.H a) fun x A hn h=>by
  cases x with
  |fn=>cases hn
  |p x=>exact bQ.weaken (fun g _ G=>V g G) h
  |sl g r ag len=>
   simp only[dN];by_cases G:g=a
   ·subst G;rw[if_pos rfl];have h':=h;obtain⟨m,D,K,g3⟩:=h;rw[D];exact oY (B.objs g r m D) D (S r m D) (Y r m D) h'
   rw[if_neg G];obtain⟨m,D,K⟩:=h;exact⟨m,by rw[aD G];exact D,K⟩
  |ptr g r i j=>
   simp only[dN];by_cases G:g=a
   ·subst G;rw[if_pos rfl];trivial
   rw[if_neg G];obtain⟨m,b',l,D,K⟩:=h;exact⟨m,b',l,by rw[aD G];exact D,K⟩
  |junk=>trivial
 have L: ∀Q A,bI o v.H (Xo c o v.H) W Q A->bI o (aw v.H a []) (Xo c o (aw v.H a [])) W (Q.map (dN v.H a)) A:=fun Q A h=>by
  obtain⟨vs,D,K,g3⟩:=h;refine⟨vs,D,by simpa using K,fun j x F=>?_⟩;rw[u9]at F;obtain⟨y,hy,rfl⟩:=u6.1 F;obtain⟨u,u1,P,u3⟩:=g3 j y hy;exact⟨u,u1,P,J y u u3⟩
 refine⟨⟨B.keep,fun x y m E=>?_,fun x y x' y' m R g l c' E C=>B.inj x y x' y' m R g l c' (I x y m E).2 (I x' y' R C).2,fun x y m g l E=>B.old x y m g l (I x y m E).2,B.bar,fun x y m E=>B.self x y m (I x y m E).2⟩,fun t x F=>?_⟩
 ·obtain⟨F,C⟩:=I x y m E;obtain⟨q1,q2,q3⟩:=B.objs x y m C;refine⟨q1,q2,?_⟩;cases Z:o x y with
  |none=>rw[Z]at q3;exact q3
  |some bc=>
   obtain⟨g,l⟩:=bc;rw[Z]at q3;obtain⟨cells,p1,p2,p3,p4,p5⟩:=q3;refine⟨cells,p1,p2,p3,p4,fun i e j z T hz=>?_⟩;obtain⟨u,u1,P,u3⟩:=p5 i e j z T hz;have N:=B.self x y m C e (u5 T) z (u5 hz);have:=J z u u3;refine⟨u,u1,P,?_⟩;cases z with
   |sl z _ _ _=>have N:z=x:=N;subst N;simpa[dN,F] using this
   |ptr z _ _ _=>have N:z=x:=N;subst N;simpa[dN,F] using this
   |fn _ z _=>have N:z=x:=N.1;subst N;simpa[dN,F] using this
   |p z=>exact this
   |junk=>trivial
 simp only[u9]at F;obtain⟨y,hy,rfl⟩:=u6.1 F;obtain⟨A,v1,v2⟩:=af t y hy;refine⟨A,v1,?_⟩;cases y with
 |one x=>exact J x A v2
 |agg Q=>exact L Q A v2
 |fn f Q=>obtain⟨u,h1,h2⟩:=v2;exact⟨u,L Q u h1,h2⟩
 |tup ts=>
  obtain⟨vs,D,K,g3⟩:=v2;refine⟨vs,D,by simpa using K,fun j g Q hj=>?_⟩;rw[u9]at hj;obtain⟨z,hz,aa⟩:=u6.1 hj;obtain⟨b',ab⟩:=z;simp at aa;obtain⟨rfl,rfl⟩:=aa;obtain⟨u,u1,P⟩:=g3 j b' ab hz;refine⟨u,u1,?_⟩;rcases P with⟨P,u3⟩|⟨P,q,rfl,u4⟩
  ·exact .inl ⟨P,L _ _ u3⟩
  exact .inr ⟨P,_,rfl,J q u u4⟩
theorem qx (a k:Nat) {cs:List PV} (U:v.H a=[⟨u,n,[cs.map AV.p]⟩]) (W:v.tmps[k]?=some (.one (.ptr a 0 0 0))):bD v ⟨(v.tmps.map (fc v.H a)).set k (.one (.p (.ptr cs))),aw v.H a []⟩:=by
 rintro w0 O X K w ⟨h1,R,D,q,A⟩;have A:aX X D v K w:=A;have z:(v.H a)[0]?=some ⟨u,n,[cs.map AV.p]⟩:=by rw[U];rfl
 have Q:uQ v.H a:=fun r o J e V x l=>by
  rw[U]at J;cases r with
  |succ r=>simp at J
  |zero=>
   simp at J;subst J;simp at V;subst V;obtain⟨y,_,rfl⟩:=aai.1 l;exact .inl rfl
 obtain⟨C,G⟩:=WE a Q q A;refine⟨h1,by simpa using R,D,C,fun t x l=>?_⟩;by_cases e:t=k
 ·subst e;simp only at l;have N:=(aaf.1 W).1;rw[aa2 (by simpa using N)]at l;injection l with l
  subst l;obtain⟨h,v1,o,b,c,m,E,T,rfl⟩:=A t _ W;rw[z]at m;injection m with m
  subst m;refine⟨_,v1,?_⟩;obtain⟨q1,q2,Z⟩:=q.objs a 0 _ z;rw[E]at Z;obtain⟨cells,Y,p2,p3,p4,p5⟩:=Z;have M: ∀b,Xo X D (aw v.H a []) b->Xo X D v.H b:=fun b F=>by
   rcases F with F|⟨x,y,o,f,m,E⟩
   ·exact .inl F
   by_cases l:x=a
   ·subst l;rw[aM]at m;simp at m
   rw[aD l]at m;exact .inr ⟨x,y,o,f,m,E⟩
  have P: ¬Xo X D (aw v.H a []) b:=fun L=>by
   rcases L with L|⟨x,y,o',f,m,T⟩
   ·exact(q.old a 0 _ b c z E).2 L
   by_cases l:x=a
   ·subst l;rw[aM]at m;simp at m
   rw[aD l]at m;exact l (q.inj x y a 0 o' _ b f c m z T E).1
  show bQ _ w (.ptr cs) _;rw[show(0:Nat)*(⟨u,n,[cs.map AV.p]⟩:OObj).es+0=0 by simp];have B: ∀(j:Nat) x,cs[j]?=some x-> ∃g:Value,cells[j]?=some g/\bQ (Xo X D (aw v.H a [])) w x g:=fun j x l=>by
   obtain⟨g,I,S,u3⟩:=p5 0 (cs.map AV.p) j (.p x) rfl (by rw[u9,l];rfl);refine⟨g,by simpa using I,bQ.weaken (fun b _ F=>M b F) u3⟩
  refine bQ.ptr b 0 cs (fun j=>(cells[j]?).getD undef) P (aan.1 Y).1 (fun j x l=>?_) (fun j x l=>?_)
  ·obtain⟨g,I,S⟩:=B j x l;rw[cell_of_row _ b _ cells _ _ Y,aaO,I];rfl
  obtain⟨g,I,S⟩:=B j x l;simp only[I,abh];exact S
 simp only at l;rw[aaI (abD e)]at l;exact G t x l
end Go.Proofs.YtalmoejhjceflaaGreat
