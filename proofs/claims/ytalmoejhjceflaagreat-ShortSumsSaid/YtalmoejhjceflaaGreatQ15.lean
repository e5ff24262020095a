/-
  Part 16 of a proof (walks and plain facts).
-/
import Derived.Test.YtalmoejhjceflaaGreatQ14
import Derived.Lib.SliceRun
import Derived.Shelf.Small.Bits
import Derived.Ground.NamesProg
import Derived.Test.YtalmoejhjceflaaGreatProg
set_option linter.all false
set_option maxRecDepth 100000
set_option maxHeartbeats 64000000
namespace Go.Proofs.YtalmoejhjceflaaGreat
open Go.RowKit Go.Proofs.Tryz
variable {w W:World} {b:Array Oper} {c:FuncId} {n:Nat} {e:Nat->Prop} {f:List Nat} {g:Code} {h:Value} {s:AS} {j:Oper} {l:TV}
section
theorem WV {X:Nat->Prop} {C:Rho} {res:CallRes} (A:Inv w e X s.H C W) (v2:l.rel C s.H (Xo X C s.H) W h) (I:xp s.H n l) (af:res.fam=(s.H n).map (renO 0)) (hr:res.r=renTV 0 l):
  ∃t:Rho,Inv w e X (famH 0 res.fam) t W/\res.r.rel t (famH 0 res.fam) (Xo X t (famH 0 res.fam)) W h/\ ∀b,Xo X t (famH 0 res.fam) b->Xo X C s.H b:=by
 obtain⟨B,h5⟩:=A5 I;have Q: ∀(k:Nat) o,(famH 0 res.fam 0)[k]?=some o-> ∃F,(s.H n)[k]?=some F/\o=renO 0 F:=fun k o D=>by
  grind [famH]
 have J: ∀(x k:Nat) o,(famH 0 res.fam x)[k]?=some o->x=0:=fun x k o D=>by
  grind [famH]
 have U: ∀b,Xo X (fun _ k=>C n k) (famH 0 res.fam) b->Xo X C s.H b:=fun b V=>by
  rcases V with V|⟨x,k,o,q,E,P⟩
  ·exact .inl V
  have:=J x k o E;subst this;obtain⟨F,g3,_⟩:=Q k o E;exact .inr ⟨n,k,F,q,g3,P⟩
 have K: ∀x u,bH n x->AV.rel C s.H (Xo X C s.H) W x u->AV.rel (fun _ k=>C n k) (famH 0 res.fam) (Xo X (fun _ k=>C n k) (famH 0 res.fam)) W (b6 0 x) u:=kj (c:=bH n) (fun _ _ _ _ _ _ m=>m.1) (ny 0) fun x u hn L N=>by
  cases x with
  |fn=>cases hn
  |p x=>exact bS.weaken (fun b _ V=>U b V) N
  |sl x k ah len=>
   have L:x=n:=L;subst L;obtain⟨o,E,P,g3⟩:=N;have h6:x<=4999:=h5.resolve_right fun m=>by grind
   exact⟨renO 0 o,by grind [famH],by grind [renO],qw (ρ':=fun _ k=>C x k) (a':=0) (r':=k) h6 g3 rfl⟩
  |ptr x k i j=>
   have L:x=n:=L;subst L;obtain⟨o,b,c,E,P,g3,g4⟩:=N;exact⟨renO 0 o,b,c,by grind [famH],P,by grind [renO],g4⟩
  |junk=>trivial
 have Z: ∃t:Rho,Inv w e X (famH 0 res.fam) t W/\res.r.rel t (famH 0 res.fam) (Xo X t (famH 0 res.fam)) W h/\ ∀b,Xo X t (famH 0 res.fam) b->Xo X C s.H b:=by
  refine⟨fun _ k=>C n k,⟨A.keep,fun x k o D=>?_,fun x k x' k' o F b c c' D aa M ae=>?_,fun x k o b c D M=>?_,A.bar,fun x k o D=>?_⟩,?_,U⟩
  ·have:=J x k o D;subst this;obtain⟨F,E,rfl⟩:=Q k o D;obtain⟨z1,z2,z3⟩:=A.objs n k F E;refine⟨fun g he=>?_,z2,?_⟩
   ·grind [renO]
   cases ab:C n k with
   |none=>grind [renO]
   |some bc=>
    obtain⟨b,q⟩:=bc;rw[ab]at z3;obtain⟨cells,p1,p2,p3,p4,p5⟩:=z3;simp only[ab];refine⟨cells,p1,p2,by grind [renO],p4,fun i g j z he J=>?_⟩;simp only[renO,ach]at he;obtain⟨e',Y,rfl⟩:=acf.1 he;rw[ach]at J;obtain⟨z',ad,rfl⟩:=acf.1 J;obtain⟨u,u1,u2,u3⟩:=p5 i e' j z' Y ad;exact⟨u,u1,u2,K z' u (A.self n k F E e' (acd Y) z' (acd ad)) u3⟩
  ·have S:=J x k o D;have e2:=J x' k' F aa;subst S e2;obtain⟨o1,E,_⟩:=Q k o D;obtain⟨o2,P,_⟩:=Q k' F aa;exact⟨rfl,(A.inj n k n k' o1 o2 b c c' E P M ae).2⟩
  ·have S:=J x k o D;subst S;obtain⟨o1,E,_⟩:=Q k o D;exact A.old n k o1 b c E M
  ·have S:=J x k o D;subst S;obtain⟨o1,E,rfl⟩:=Q k o D;intro g he z ag;grind [renO,dM]
  rw[hr];have agg: ∀G u,(∀x∈G,bH n x)->bM C s.H (Xo X C s.H) W G u->bM (fun _ k=>C n k) (famH 0 res.fam) (Xo X (fun _ k=>C n k) (famH 0 res.fam)) W (G.map (b6 0)) u:=fun G u L m=>by
   obtain⟨us,T,h2,h3⟩:=m;refine⟨us,T,by grind,fun j x N=>?_⟩;grind
  cases l with
  |one x=>exact K x h B v2
  |agg G=>exact agg G h B v2
  |fn f G=>obtain⟨u,T,h2⟩:=v2;exact⟨u,agg G u B T,h2⟩
  |tup ts=>
   obtain⟨us,T,h2,h3⟩:=v2;refine⟨us,T,by grind,fun j b G N=>?_⟩;rw[ach]at N;obtain⟨y,hy,ac⟩:=acf.1 N;obtain⟨b',R⟩:=y;simp at ac;obtain⟨rfl,rfl⟩:=ac;obtain⟨u,u1,u2⟩:=h3 j b' R hy;have L:=B (b',R) (acd hy);grind
 exact Z
section
variable {P:Program} {b:Nat} {ty:TypeId} {cs cs':List PV} {Q:Exit->AS->List PV->Prop} {s:AS}
theorem lU {fn:Func} {args:List TV} {res:CallRes} (hf:P.funcs[c]?=some fn) (hb:fn.body=some g) (hn:callable P c=true) (h:eH P b ty g (fun e s k=>(e= .normal\/e= .ret)/\k=cs'/\ ∃W,bJ s W/\nd P fn res W) ⟨args++List.replicate (fn.ntmps-args.length) .undef,fun _=>[]⟩ cs):CallT P b ty c args cs res cs':=by
 refine⟨hn,fun X w vs Z K F M z=>?_⟩;refine calls_of_wp hf hb ?_;have E: ∀j,j<w.heap.size->Xo X (fun _ _=>none) (fun _=>[]) j->X j:=fun j _ h=>by
  rcases h with h|⟨a,r,o,g,q,Y⟩
  ·exact h
  cases Y
 have H:i9 b ty w (fun j=>j=b) X ⟨args++List.replicate (fn.ntmps-args.length) .undef,fun _=>[]⟩ cs {tmps:=vs++Array.replicate (fn.ntmps-vs.size) undef,defers:=[]} w:=by
  refine⟨rfl,by simp[M],fun _ _=>none,⟨Keep.refl w,fun a r o A=>by simp at A,fun a r S r' o o' b g c' A=>by simp at A,fun a r o b g A=>by simp at A,Z,fun a r o A=>by simp at A⟩,fun t x n=>?_,rfl,K,F.weaken E⟩;by_cases ht:t<args.length
  ·rw[acx ht]at n;obtain⟨v,O,R⟩:=z t x n;refine⟨v,by grind,TV.rel_map R (fun y u N=>?_)⟩;cases y with
   |p y=>exact bS.weaken E N
   |sl a r ac len=>obtain⟨o,q,_⟩:=N;simp at q
   |ptr a r i j=>obtain⟨o,_,_,q,_⟩:=N;simp at q
   |fn c a qs=>grind [qM]
   |junk=>trivial
  rw[acD (by omega),ac5]at n;split at n
  ·rename_i aa;injection n with n
   subst n;refine⟨undef,?_,d6⟩;grind
  cases n
 refine wp_mono (h _ _ _ _ _ H) fun e S w' ⟨s1,k,⟨he,hk,s2,hw,r,a0,I,C,G,hr⟩,B⟩=>?_
 subst hk;obtain⟨q,ab,ρ,m,D,_,_,l⟩:=B.weak hw;have D:bo X ρ s2 S w':=D;obtain⟨v,O,R⟩:=fq m D I;obtain⟨J,T,U,V⟩:=WV m R C G hr;rcases he with rfl|rfl
 ·exact⟨q,v,O,v,rfl,J,T,U,l.weaken fun j _ L=>V j L⟩
 exact⟨q,v,O,v,rfl,J,T,U,l.weaken fun j _ L=>V j L⟩
/-! Regions. -/
theorem Jx {e c:List (cG P)} {i d:Nat} {ev:Operand->Option TV} {H:OH} {op:Op} (h:e.find? (·.i==i)=c.find? (·.i==i)):cB P e f i d ev H op=cB P c f i d ev H op:=by
 cases op<;>simp only[cB,h]
theorem BA {g c:List (cG P)} {l:Array Oper} {i:Nat} (h:g.find? (·.i==i)=c.find? (·.i==i)):be P g f l i j s=be P c f l i j s:=by
 have e:dY P g f i j s=dY P c f i j s:=by
  grind [dY,Jx]
 simp_all[be]
def kT (e:Array Oper) (m:Nat):Bool:=match e[m]? with
 |some o=>o.guard.isNone&&(match o.op with
  | .call c=>(match c.callee with
   | .value (.func _)=>true
   | .value (.tmp _)=>true
   |_=>false)
  |_=>false)
 |none=>false
theorem GO {e:Array Oper} (h:kT e n=true) (g:e[n]?=some j):j.guard=none/\ ∃c y,j.op= .call c/\c.callee= .value y/\((∃f,y= .func f)\/ ∃k,y= .tmp k):=by
 unfold kT at h;rw[g]at h;simp only[acN]at h;obtain⟨l,p⟩:=h;refine⟨by simp_all,?_⟩;grind
theorem JK {c:List (aq P)} {e:cG P} {i:Nat} (h:i≠e.i):(c.map aq.a++[e]).find? (·.i==i)=(c.map aq.a).find? (·.i==i):=by
 grind
theorem N7 {e:List (aq P)} {f:cG P} (h:e.all (fun c=>c.i !=f.i)=true):(e.map aq.a++[f]).find? (·.i==f.i)=some f:=by
 grind [aq.a]
theorem Db {X:Nat->Prop} {a:Act} (g:List (aq P)) (l:cG P) {A:List Nat} {m:Array Oper} {i:Nat} (F:m[i]?=some j) (E:kT m l.i=true) (D:g.all (fun c=>c.i !=l.i)=true) (u:lentOk l.args l.res cs'=true) (r:CallT P b ty l.f l.args cs l.res cs') {x:List PV} (G:i=l.i->x=cs) {y:AS} (n:i9 b ty w e X s x a W) (h:be P (g.map aq.a++[l]) A m i j s=some y) {K:Act->World->Prop} {Q:Exit->Act->World->Prop} (q: ∀v p,i9 b ty w e X y (if i=l.i then cs' else x) (a.put j.dst v) p->K (a.put j.dst v) p):if Region.wanted j (yielded m a.tmps)then j.wp P a W K Q else K (a.put j.dst undef) W:=by
 by_cases t:i=l.i
 ·grind [GO,Region.wanted,be,V7,N7]
 rw[BA (JK t)]at h;obtain⟨Own,B,C⟩:=n.rebase;simp only[if_neg t]at q;exact jT (aq.ok g) B h fun v p z=>q v p (C _ _ _ z)
theorem C4 {w0:World} {O X:Nat->Prop} (g:List (aq P)) (m:cG P) {H:List Nat} {n:Array Oper} (C:kT n m.i=true) (B:g.all (fun c=>c.i !=m.i)=true) (q:lentOk m.args m.res cs'=true) (p:CallT P b ty m.f m.args cs m.res cs') {Q:Exit->Act->World->Prop}:
  ∀(l:List Oper) (k:Nat) (s t:AS) (a:Act) (w:World),(∀(j:Nat) o,l[j]?=some o->n[k+j]?=some o)->gB P (g.map aq.a++[m]) H n (l.zipIdx k) s=some t->i9 b ty w0 O X s (if k<=m.i then cs else cs') a w->
   (∀y u,i9 b ty w0 O X t (if k+l.length<=m.i then cs else cs') y u->Q .normal y u)->wpOps P n Q (List.range' k l.length) a w
 |[],k,s,t,a,w,_,h,r,z=>by
  simp only[aek,gB]at h;injection h with h
  subst h;exact z a w r
 |o::l,k,s,t,a,w,D,h,r,z=>by
  simp only[adQ,gB]at h;split at h
  ·rename_i I A;simp only[acC,acW,wpOps];have E:n[k]?=some o:=by have:=D 0 o rfl;omega
   rw[E];simp only;have:=Db (Q:=Q) g m E C B q p (x:=if k<=m.i then cs else cs') (fun L=>if_pos (by omega)) r A (K:=wpOps P n Q (List.range' (k+1) l.length)) (fun v u F=>C4 g m C B q p l (k+1) I t _ _ (fun j o J=>by have:=D (j+1) o (by grind);grind) h (by
    have e:(if k=m.i then cs' else if k<=m.i then cs else cs')=if k+1<=m.i then cs else cs':=by
     grind
    rw[e]at F;exact F) (fun y u G=>z y u (by grind)))
   grind
  cases h
theorem Ce (m:Nat) {args:List TV} {res:CallRes} (q:CallT P b ty c args cs res cs') (n:List (aq P)) (x:List Nat) {id:Nat} {l:Array Oper} (C:kT l m=true) (B:n.all (fun g=>g.i !=m)=true) (t:lentOk args res cs'=true) (h:aY P (n.map aq.a++[⟨m,c,args,res⟩]) x (aK l l.toList 0) (some s) (fun p=>Q .normal p cs')):eH P b ty (.region id l false) Q s cs:=fun u O X a w r=>by
 obtain⟨p,z,A⟩:=aP P _ x l l.toList 0 s _ h;refine wp_region ?_;rw[acK];have E:m<l.size:=by
  grind [kT]
 have:=C4 (w0:=u) (O:=O) (X:=X) n ⟨m,c,args,res⟩ C B t q (Q:=fun e v y=> ∃p k,Q e p k/\i9 b ty u O X p k v y) l.toList 0 s p a w (fun j o D=>by grind) z (by grind) (fun v y F=>⟨p,cs',A,by
  grind⟩)
 omega
theorem Cd (B:P.follows .mixedOrders=true) (m:Nat) {args:List TV} {res:CallRes} (t:CallT P b ty c args cs res cs') (n:List (aq P)) (E:List Nat) {id:Nat} {l:Array Oper} (I:bZ [] l=true) (W:kT l m=true) (U:n.all (fun g=>g.i !=m)=true) (y:lentOk args res cs'=true) (h:aY P (n.map aq.a++[⟨m,c,args,res⟩]) E (aK l l.toList 0) (some s) (fun A=>Q .normal A cs')):eH P b ty (.region id l true) Q s cs:=fun G O X a w r=>by
 obtain⟨L,h1,T⟩:=aP P _ E l l.toList 0 s _ h;have hm:m<l.size:=by
  grind [kT]
 refine wp_region_any B ?_;have z:cY P (n.map aq.a++[⟨m,c,args,res⟩]) E l (List.range l.size) s=some L:=by
  grind [List.range_eq_range',gJ]
 have D:i9 b ty G O X s cs a {w with drawn:=w.drawn+1}:=by
  obtain⟨Own,R,S⟩:=r.rebase;obtain⟨q1,q2,M,u,q⟩:=R;have e:Ext w {w with drawn:=w.drawn+1}:=⟨rfl,rfl,rfl,acs _,fun _ _=>rfl⟩;have q:bo X M s a w:=q;exact S _ _ _ ⟨q1,q2,M,u.grow e,q.grow e⟩
 refine oc (sep:=[]) (lZ I (by simp)) I (Q:=fun e N F=> ∃A k,Q e A k/\i9 b ty G O X A k N F) (fun p s a w=>i9 b ty G O X s (if p m then cs' else cs) a w) ⟨fd r.rel,fun x hx=>by simp at hx⟩ z (fun p a w H J=>⟨L,cs',T,by
  grind⟩) (fun p i o s s1 a w K C Y _ Z J V=>?_) l.size (Array.replicate l.size false) s a _ (by simp) ?_ ?_ ?_ ?_
 ·refine Db n ⟨m,c,args,res⟩ C W U y t (x:=if p m then cs' else cs) (fun hi=>?_) J Z (fun v F D=>V v F ?_)
  ·grind
  grind [dH]
 ·intro j o C hp;have hj:j<l.size:=(acB.1 C).1;simp_all
 ·grind
 ·have:mU l.size (fun j=>(Array.replicate l.size false).getD j true)=[]:=by
   simp_all[mU]
  rw[this];rfl
 simp_all
theorem vS (m:Nat) {args:List TV} {res:CallRes} (n:CallT P b ty c args cs res cs') (j:List (aq P)) (p:List Nat) {id:Nat} {l:Array Oper} (t:kT l m=true) (r:j.all (fun e=>e.i !=m)=true) (o:lentOk args res cs'=true) (h: ∀K:AS->Prop,(∀q,eH P b ty g Q q cs'->K q)->aY P (j.map aq.a++[⟨m,c,args,res⟩]) p (aK l l.toList 0) (some s) K):eH P b ty (.seq (.region id l false) g) Q s cs:=
 cd (Ce m n j p t r o (h _ fun _ h=>h))
theorem iX (m:Nat) {args:List TV} {res:CallRes} (l:CallT P b ty c args cs res cs') (g:List (aq P)) (o:List Nat) {id:Nat} {j:Array Oper} (r:kT j m=true) (q:g.all (fun e=>e.i !=m)=true) (n:lentOk args res cs'=true) (h: ∀K:AS->Prop,(∀p,Q .normal p cs'->K p)->aY P (g.map aq.a++[⟨m,c,args,res⟩]) o (aK j j.toList 0) (some s) K):eH P b ty (.region id j false) Q s cs:=
 Ce m l g o r q n (h _ fun _ h=>h)
theorem I1 (p:P.follows .mixedOrders=true) (m:Nat) {args:List TV} {res:CallRes} (n:CallT P b ty c args cs res cs') (j:List (aq P)) (q:List Nat) {id:Nat} {l:Array Oper} (v:bZ [] l=true) (u:kT l m=true) (t:j.all (fun e=>e.i !=m)=true) (o:lentOk args res cs'=true) (h: ∀K:AS->Prop,(∀r,eH P b ty g Q r cs'->K r)->aY P (j.map aq.a++[⟨m,c,args,res⟩]) q (aK l l.toList 0) (some s) K):eH P b ty (.seq (.region id l true) g) Q s cs:=
 cd (Cd p m n j q v u t o (h _ fun _ h=>h))
theorem lS (o:P.follows .mixedOrders=true) (m:Nat) {args:List TV} {res:CallRes} (l:CallT P b ty c args cs res cs') (g:List (aq P)) (p:List Nat) {id:Nat} {j:Array Oper} (u:bZ [] j=true) (t:kT j m=true) (r:g.all (fun e=>e.i !=m)=true) (n:lentOk args res cs'=true) (h: ∀K:AS->Prop,(∀q,Q .normal q cs'->K q)->aY P (g.map aq.a++[⟨m,c,args,res⟩]) p (aK j j.toList 0) (some s) K):eH P b ty (.region id j true) Q s cs:=
 Cd o m l g p u t r n (h _ fun _ h=>h)
end
/-! A box of one's own is lent. -/
def kU (d b:Nat):AV->AV
 | .sl x r c len=>if x=d then .junk else .sl x r c len
 | .ptr x r i j=>if x=d then(if r=0/\i=0/\j=0 then .raw (.pointer (some ⟨b,0,none⟩))else .junk)else .ptr x r i j
 | .fn f x e=>if x=d then .junk else .fn f x e
 |x=>x
theorem GW (d b:Nat):rE (kU d b):=fun f x e=>by
 by_cases h:x=d
 ·exact .inl (if_pos h)
 exact .inr ⟨x,e,if_neg h,rfl,fun n q c=>⟨q,c,if_neg h⟩⟩
def xI (d b:Nat):TV->TV
 | .one x=> .one (kU d b x)
 | .agg c=> .agg (c.map (kU d b))
 | .fn f c=> .fn f (c.map (kU d b))
 | .tup e=> .tup (e.map fun t=>(t.1,t.2.map (kU d b)))
theorem Qo {P:Program} {Q:Exit->AS->Prop} (d:Nat) {ty:TypeId} {cs:List PV} (hd:s.H d=[⟨ty,cs.length,[cs.map AV.p]⟩]) (h: ∀b,eH P b ty g (fun e N _=>Q e N) ⟨s.tmps.map (xI d b),aF s.H d []⟩ cs):bA P g Q s:=fun w0 O X a w r=>by
 obtain⟨h1,ap,G,m,U⟩:=r;have U:bo X G s a w:=U;have F:(s.H d)[0]?=some ⟨ty,cs.length,[cs.map AV.p]⟩:=by rw[hd];rfl
 obtain⟨z1,z2,z3⟩:=m.objs d 0 _ F;cases L:G d 0 with
 |none=>grind
 |some bc=>
  obtain⟨b,n⟩:=bc;rw[L]at z3;obtain⟨cells,p1,p2,p3,p4,p5⟩:=z3;have ag:=m.old d 0 _ b n F L;have I: ∀(x y:Nat) o,(aF s.H d [] x)[y]?=some o->x≠d/\(s.H x)[y]?=some o:=fun x y o K=>by
   grind [aS,aM]
  have aa: ∀j,Xo (fun j=>X j\/j=b) G (aF s.H d []) j->Xo X G s.H j:=fun j A=>by
   rcases A with(A|rfl)|⟨x,y,o,n',M,B⟩
   ·exact .inl A
   ·exact .inr ⟨d,0,_,n,F,L⟩
   exact .inr ⟨x,y,o,n',(I x y o M).2,B⟩
  have T: ∀x v,AV.rel G s.H (Xo X G s.H) w x v->AV.rel G (aF s.H d []) (Xo (fun j=>X j\/j=b) G (aF s.H d [])) w (kU d b x) v:=ic (GW d b) fun x v hn D=>by
   cases x with
   |fn=>cases hn
   |p x=>exact bS.weaken (fun j _ A=>aa j A) D
   |sl x r af len=>
    simp only[kU];split
    ·trivial
    rename_i J;obtain⟨o,M,B⟩:=D;exact⟨o,by grind [aM],B⟩
   |ptr x r i j=>
    simp only[kU];split
    ·rename_i J;subst J;split
     ·rename_i hc;obtain⟨rfl,rfl,rfl⟩:=hc;obtain⟨o,b',Z,M,B,g3,g4⟩:=D;rw[L]at B;injection B with B
      injection B with B al
      subst B;rw[g4];simp only[aeS,ac9];exact bS.raw _ rfl
     trivial
    rename_i J;obtain⟨o,b',Z,M,B⟩:=D;exact⟨o,b',Z,by grind [aM],B⟩
   |junk=>trivial
  have S: ∀cs v,bM G s.H (Xo X G s.H) w cs v->bM G (aF s.H d []) (Xo (fun j=>X j\/j=b) G (aF s.H d [])) w (cs.map (kU d b)) v:=fun cs v ⟨vs,M,B,g3⟩=>by
   refine⟨vs,M,by grind,fun j x D=>?_⟩;grind
  have ab:i9 b ty w0 (fun j=>O j\/j=b) (fun j=>X j\/j=b) ⟨s.tmps.map (xI d b),aF s.H d []⟩ cs a w:=by
   refine⟨h1,by grind,G,⟨⟨m.keep.os,m.keep.tape,m.keep.output,m.keep.size,fun k hk hn=>m.keep.block k hk (fun h=>hn (.inl h))⟩,fun x y o K=>?_,fun x y x' y' o o' j g Z K E=>m.inj x y x' y' o o' j g Z (I x y o K).2 (I x' y' o' E).2,fun x y o j g K A=>?_,fun j A=>?_,fun x y o K=>m.self x y o (I x y o K).2⟩,fun t x D=>?_,.inr rfl,.inr rfl,?_⟩
   ·obtain⟨J,E⟩:=I x y o K;obtain⟨q1,q2,q3⟩:=m.objs x y o E;refine⟨q1,q2,?_⟩;cases hr:G x y with
    |none=>grind
    |some bc=>
     obtain⟨b',Z⟩:=bc;rw[hr]at q3;obtain⟨R,r1,r2,r3,r4,r5⟩:=q3;refine⟨R,r1,r2,r3,r4,fun i e j z he hz=>?_⟩;obtain⟨u,u1,u2,u3⟩:=r5 i e j z he hz;have Y:=m.self x y o E e (acd he) z (acd hz);have:=T z u u3;refine⟨u,u1,u2,?_⟩;cases z with
     |sl z _ _ _=>have Y:z=x:=Y;grind [kU]
     |ptr z _ _ _=>have Y:z=x:=Y;grind [kU]
     |fn _ z _=>have Y:z=x:=Y.1;grind [kU]
     |p z=>exact this
     |junk=>trivial
   ·obtain⟨J,E⟩:=I x y o K;obtain⟨M,B⟩:=m.old x y o j g E A;refine⟨?_,?_⟩
    ·grind
    rintro(l|rfl)
    ·exact B l
    exact J (m.inj x y d 0 o _ j g n E F A L).1
   ·rcases A with A|rfl
    ·exact m.bar j A
    grind
   ·simp only[ach]at D;obtain⟨y,hy,rfl⟩:=acf.1 D;obtain⟨v,v1,W⟩:=U t y hy;refine⟨v,v1,?_⟩;cases y with
    |one x=>exact T x v W
    |agg cs=>exact S cs v W
    |fn f cs=>obtain⟨u,h1,h2⟩:=W;exact⟨u,S cs u h1,h2⟩
    |tup ts=>
     obtain⟨vs,M,B,g3⟩:=W;refine⟨vs,M,by grind,fun j g cs A=>?_⟩;grind
   refine⟨cells,n,p1,p2,by omega,p4,z2,fun j x D=>?_⟩;obtain⟨v,v1,W,v3⟩:=p5 0 (cs.map AV.p) j (.p x) rfl (by grind);exact⟨v,by grind,W,bS.weaken (fun j _ A=>aa j A) v3⟩
  refine wp_mono (h b _ _ _ _ _ ab) fun e a' w' ⟨N,ah,hq,hr⟩=>⟨N,hq,?_⟩
  obtain⟨k1,ae,C,q,V,_,_,_⟩:=hr;have V:bo (fun j=>X j\/j=b) C N a' w':=V;have ad: ∀j,Xo X C N.H j->Xo (fun j=>X j\/j=b) C N.H j:=fun j A=>by
   rcases A with A|A
   ·exact .inl (.inl A)
   exact .inr A
  have ac: ∀x v,AV.rel C N.H (Xo (fun j=>X j\/j=b) C N.H) w' x v->AV.rel C N.H (Xo X C N.H) w' x v:=fun x v D=>by
   cases x with
   |p x=>exact bS.weaken (fun j _ A=>ad j A) D
   |sl x r af len=>exact D
   |ptr x r i j=>exact D
   |fn=>exact D
   |junk=>trivial
  refine⟨k1,ae,C,⟨⟨q.keep.os,q.keep.tape,q.keep.output,q.keep.size,fun k hk hn=>?_⟩,fun x y o K=>d9 (q.objs x y o K) rfl (fun _ _ _=>rfl) ac,q.inj,fun x y o j g K A=>?_,fun j A=>q.bar j (.inl A),q.self⟩,fun t x D=>?_⟩
  ·by_cases an:k=b
   ·grind
   exact q.keep.block k hk (fun hh=>by
    grind)
  ·obtain⟨M,B⟩:=q.old x y o j g K A;grind
  obtain⟨v,v1,W⟩:=V t x D;grind [TV.rel_map]
end
theorem RD (w:World) (q:Nat) (b:Array Obj):Ext w (Sort.grow (w.drewN q) b):=
 ⟨rfl,rfl,rfl,by simp,fun k c=>by show(w.heap++b)[k]?=w.heap[k]?;grind⟩
structure NItem where
 key:Int
 vals:List Int
 at_:Option Addr
 cap:Nat
 deriving Inhabited
def NItem.val (b:NItem):Value:= .slice b.at_ b.vals.length b.cap
def NItem.agg (b:NItem):Value:= .agg #[.int .i64 b.key,.slice b.at_ b.vals.length b.cap]
def kY (a b:NItem):Int:=NQ a.key a.vals b.key b.vals
def zK (a b:NItem):Bool:=kY a b==0
structure ItemOk (w:World) (g:Nat) (it:NItem):Prop where
 rd:RdI .i64 w it.at_ it.vals
 ne: ∀p,it.at_=some p->p.block≠g
 le:it.vals.length<=9223372036854775807
theorem ItemOk.ext {b:NItem} (h:ItemOk w n b) (e:Ext w W):ItemOk W n b:=⟨h.rd.ext e,h.ne,h.le⟩
theorem BC (a b:NItem) (w:World) (g:Nat) (c:ItemOk w g a) (f:ItemOk w g b):
  Calls prog 132 #[a.agg,b.agg] w fun e j=>e= .returned (.int .i64 (kY a b))/\Ext w j:=
 (mq a.key b.key a.at_ b.at_ a.cap b.cap a.vals b.vals w c.rd f.rd c.le f.le).mono fun _ _ ⟨h,q,m,l⟩=>⟨h,by grind [RD]⟩
theorem A9 (a b:NItem) (bx sx so:Nat) (w:World) (g:Nat) (ha:ItemOk w g a) (hb:ItemOk w g b) (h1:w.cell? ⟨bx,0,none⟩=some (.pointer (some ⟨sx,so,none⟩))) (h2:w.cell? ⟨sx,so+1,none⟩=some (.func (Fn.func 132) #[] #[])):
  Calls prog 200 #[a.agg,b.agg,.pointer (some ⟨bx,0,none⟩)] w fun e w'=>e= .returned (.bool (zK a b))/\Ext w w':=by
 have HA:=acg ha;have HB:=acg hb;clear ha hb;unfold NItem.agg
 go_enter func200,ntmps200
 go_wp2_with fail
 obtain⟨c1,c2,c3,c4,he,hg⟩:=Di w (.int .i64 a.key) (.slice a.at_ a.vals.length a.cap) (.int .i64 b.key) (.slice b.at_ b.vals.length b.cap) 177;have h1':=he.cell h1;have h2':=he.cell h2;have HE:=acg he;clear he hg h1 h2;generalize(w.alloc (.cells #[.int .i64 a.key,.slice a.at_ a.vals.length a.cap] 177)).alloc (.cells #[.int .i64 b.key,.slice b.at_ b.vals.length b.cap] 177)=w2 at*
 refine du 6 (by kernel_rfl) (by kernel_rfl) ?_;simp only[adS,aeM,adK,adC];generalize w2.drew=w3 at*
 iterate 6 still_step
 refine wpStill_nil ?_;have HC:=acg (BC a b w3 g (HA.out.ext HE.out) (HB.out.ext HE.out));unfold NItem.agg at HC
 go_wp2_with fail
 refine HC.out.mono ?_;rintro e w' ⟨rfl,he⟩;have HE2:=acg (HE.out.trans he);clear he
 go_wp2_with fail
 go_ret
 exact⟨rfl,HE2.out⟩
theorem uS {g t N:Nat}: ∀(vs:List Value) (o:Nat) (w:World) (f:Nat->Value),w.rowIs g t N f-> ∃b,(w.setCells g o vs).rowIs g t N b/\(∀j,j<o->b j=f j)/\ ∀k,k≠g->(w.setCells g o vs).heap[k]?=w.heap[k]?
 |[],o,w,f,h=>⟨f,h,fun _ _=>rfl,fun _ _=>rfl⟩
 |v::r,o,w,f,h=>by
  obtain⟨b,c,e,l⟩:=uS r (o+1) (w.setCell ⟨g,o,none⟩ v) _ (h.set o v);refine⟨b,c,fun j m=>?_,fun k n=>?_⟩
  ·grind
  show((w.setCell ⟨g,o,none⟩ v).setCells g (o+1) r).heap[k]?=_;grind [Below.heap_setCell]
theorem gH (h:Ext w W) (g:Nat):w.grownBy W (some g):=⟨h.os,h.tape,h.output,h.size,fun k b _=>h.block k b⟩
theorem kv {a:World} (h:a.grownBy w (some n)) (k:w.grownBy W (some n)):a.grownBy W (some n):=
 ⟨k.os.trans h.os,k.tape.trans h.tape,k.output.trans h.output,acl h.size k.size,fun i f e=>(k.block i (acp f h.size) e).trans (h.block i f e)⟩
theorem DV {a:World} (h:a.grownBy w (some n)) (o:Nat) (v:Value):a.grownBy (w.setCell ⟨n,o,none⟩ v) (some n):=
 kv h ⟨rfl,rfl,rfl,by simp,fun k _ c=>afK _ _ _ _ (fun e=>c (by rw[e]))⟩
theorem w8 {a b:World} {g:Nat}: ∀(vs:List Value) (o:Nat) {b:World},a.grownBy b (some g)->a.grownBy (b.setCells g o vs) (some g)
 |[],_,_,h=>h
 |v::r,o,_,h=>w8 (b:=b) r (o+1) (DV h o v)
theorem qO (b:w.grownBy W (some n)) {p:Addr} (f:w.cell? p=some h) (c:p.block≠n):W.cell? p=some h:=
 b.cell f (fun e=>c (by injection e))
theorem RdI.gb {k:IntKind} {A:Option Addr} {c:List Int} (h:RdI k w A c) (f: ∀p,A=some p->p.block≠n) (m:w.grownBy W (some n)):RdI k W A c:=fun e=>by
 obtain⟨b,j,rfl,l⟩:=h e;grind [qO]
def iS (l:List Int) (a:Nat):Nat:=if a<l.length then a+1 else a
section
section
variable {P:Program} {f:FuncId} {args:List TV} {res:CallRes}
theorem UB {fam:List OObj} {res:CallRes} (m:bJ ⟨[l],famH 0 fam⟩ ⟨[res.r],Hm [(0,res.fam)]⟩) (c: ∃g:Rho,Inv w (fun _=>False) e (famH 0 fam) g W/\l.rel g (famH 0 fam) (Xo e g (famH 0 fam)) W h):
  ∃g:Rho,Inv w (fun _=>False) e (famH 0 res.fam) g W/\res.r.rel g (famH 0 res.fam) (Xo e g (famH 0 res.fam)) W h:=by
 have b:Hm [(0,res.fam)]=famH 0 res.fam:=by rfl
 rw[b]at m;obtain⟨g,n,u⟩:=c;obtain⟨_,_,q,o,p⟩:=m w (fun _=>False) e ⟨#[h],[]⟩ W ⟨rfl,rfl,g,n,fun j x y=>by
  grind⟩
 obtain⟨A,s,z⟩:=p 0 _ rfl;grind
theorem CallC.weak {fam:List OObj} (h:CallC P f args ⟨fam,l⟩) (j:bJ ⟨[l],famH 0 fam⟩ ⟨[res.r],Hm [(0,res.fam)]⟩):CallC P f args res:=
 ⟨h.1,fun X w vs b g c=>(h.2 X w vs b g c).mono fun _ _ ⟨v,e,k⟩=>⟨v,e,UB j k⟩⟩
end
end
section
def Alt (k:Nat) (f:List Nat->Int):Prop:= ∀b c d e,b.length+e.length+2=k->f (b++c::d::e)= - f (b++d::c::e)
theorem Alt.cons {k:Nat} {f:List Nat->Int} (h:Alt (k+1) f) (c:Nat):Alt k (fun l=>f (c::l)):=fun e a b g j=>h (c::e) a b g (by simp;omega)
theorem Mm {r:Nat->Int}: ∀(b:List Nat) {f g:List Nat->Int},(∀l,l.length+1=b.length->f l= - g l)->eE r f b= - eE r g b
 |[],_,_,_=>rfl
 |c::b,f,g,h=>by
  rw[eE,eE,h b rfl,Mm b (f:=fun l=>f (c::l)) (g:=fun l=>g (c::l)) (fun l e=>h (c::l) (by simp;omega))];grind
theorem LH {r:Nat->Int}: ∀(j:List Nat) (k:Nat) (f:List Nat->Int),Alt k f-> ∀c d b,j.length+b.length+2=k+1->eE r f (j++c::d::b)= - eE r f (j++d::c::b)
 |[],k,f,h,c,d,b,m=>by
  have e:=Mm (r:=r) b (f:=fun l=>f (c::d::l)) (g:=fun l=>f (d::c::l)) (fun l n=>h [] c d l (by omega));grind [eE]
 |x::j,k,f,h,c,d,b,m=>by
  obtain⟨k,rfl⟩: ∃o,k=o+1:=⟨k-1,by omega⟩;simp only[ad9,eE];rw[LH j k _ (h.cons x) c d b (by grind),h j c d b (by grind)];grind
theorem J9 (R:FF): ∀k,Alt k (om R k)
 |0=>fun b c d e h=>by omega
 |k+1=>fun b c d e h=>LH b k _ (J9 R k) c d e h
theorem DD {k:Nat} {f:List Nat->Int} (h:Alt k f) (c:Nat) (g:List Nat): ∀(e b:List Nat),b.length+e.length+g.length+2=k->f (b++c::(e++c::g))=0
 |[],b,j=>by
  have:=h b c c g (by omega);grind
 |x::e,b,j=>by
  have l:=h b c x (e++c::g) (by grind);have m:=DD h c g e (b++[x]) (by grind);grind
/-! Columns. -/
theorem oK {r s:Nat->Int}: ∀(b:List Nat) {f g:List Nat->Int},b.Nodup->(∀c∈b,r c=s c)->(∀l,l.length+1=b.length->(∀c∈l,c∈b)->l.Nodup->f l=g l)->eE r f b=eE s g b
 |[],_,_,_,_,_=>rfl
 |c::b,f,g,p,h,n=>by
  obtain⟨o,e⟩:=aej.1 p;rw[eE,eE,h c adf,n b rfl (fun d j=>ac6 _ j) e,oK b e (fun d j=>h d (ac6 _ j)) (fun l t q m=>n (c::l) (by simp;omega) (fun d j=>by
   grind) (aej.2 ⟨fun h=>o (q c h),m⟩))]
def me (R:FF) (a:Nat) (S:Nat->Int):Nat->Nat->Int:=fun i c=>if c=a then S i else R i c
theorem Cs (R:FF) (a:Nat):me R a (fun i=>R i a)=R:=by
 grind [me]
theorem Ml {a:Nat} {u t s s':Int} {r:Nat->Int}: ∀(b:List Nat) (f j m:List Nat->Int),b.Nodup->a∈b->
  (∀l,l.length+1=b.length->(∀c∈l,c∈b)->l.Nodup->(a∈l->f l=u*j l+t*m l)/\(a∉l->j l=f l/\m l=f l))->
  eE (fun c=>if c=a then u*s+t*s' else r c) f b=u*eE (fun c=>if c=a then s else r c) j b+t*eE (fun c=>if c=a then s' else r c) m b
 |[],_,_,_,_,h,_=>by simp at h
 |c::b,f,j,m,E,H,h=>by
  obtain⟨w,g⟩:=aej.1 E;have p: ∀l:List Nat,(∀c∈l,c∈b)-> ∀d∈c::l,d∈c::b:=fun l q d n=>by
   grind
  obtain⟨G,A⟩:=h b rfl (fun d n=>ac6 _ n) g;rw[eE,eE,eE];by_cases e:c=a
  ·subst e;obtain⟨B,C⟩:=A w;have F: ∀d∈b,d≠c:=fun d n e=>w (e▸n)
   have x:eE (fun d=>if d=c then u*s+t*s' else r d) (fun l=>f (c::l)) b=eE r (fun l=>u*j (c::l)+t*m (c::l)) b:=
    oK b g (fun d n=>by grind) (fun l D q o=>(h (c::l) (by simp;omega) (p l q) (aej.2 ⟨fun h=>w (q c h),o⟩)).1 adf)
   have y:eE (fun d=>if d=c then s else r d) (fun l=>j (c::l)) b=eE r (fun l=>j (c::l)) b:=oK b g (fun d n=>by grind) (fun _ _ _ _=>rfl);have z:eE (fun d=>if d=c then s' else r d) (fun l=>m (c::l)) b=eE r (fun l=>m (c::l)) b:=oK b g (fun d n=>by grind) (fun _ _ _ _=>rfl);rw[x,y,z,zZ,B,C];grind
  have v:a∈b:=by
   grind
  have I:=Ml (u:=u) (t:=t) (s:=s) (s':=s') (r:=r) b (fun l=>f (c::l)) (fun l=>j (c::l)) (fun l=>m (c::l)) g v (fun l D q o=>by
   grind)
  grind
theorem SM {R:FF} {a:Nat} {u t:Int} {S T:Nat->Int}: ∀(k:Nat) (b:List Nat),b.Nodup->b.length=k->a∈b->
  om (me R a (fun i=>u*S i+t*T i)) k b=u*om (me R a S) k b+t*om (me R a T) k b
 |0,b,_,g,f=>by grind
 |k+1,b,j,g,f=>by
  refine Ml (r:=R k) (s:=S k) (s':=T k) b _ _ _ j f (fun l h m e=>⟨fun c=>SM k l e (by omega) c,fun c=>?_⟩);grind [uw,me]
theorem x4 {r:Nat->Int} (p:Nat->Nat): ∀(b:List Nat) (f:List Nat->Int),eE (fun c=>r (p c)) (fun l=>f (l.map p)) b=eE r f (b.map p)
 |[],_=>rfl
 |c::b,f=>by
  rw[eE,acA,eE];have:=x4 (r:=r) p b (fun l=>f (p c::l));grind
theorem Et {R:FF} (p:Nat->Nat): ∀(k:Nat) (b:List Nat),om (fun i c=>R i (p c)) k b=om R k (b.map p)
 |0,_=>rfl
 |k+1,b=>by
  have e:om (fun i c=>R i (p c)) k=fun l=>om R k (l.map p):=funext (Et p k)
  simp_all[om,x4]
theorem SN {R:FF} {a k:Nat} (p:f.Nodup) (o:f.length=k) (j:a∈f) (m:n∈f) (l:a≠n):om (me R a (fun i=>R i n)) k f=0:=by
 have e:me R a (fun i=>R i n)=fun i c=>R i (if c=a then n else c):=by
  grind [me]
 rw[e,Et (R:=R) (fun c=>if c=a then n else c)];obtain⟨s,t,rfl⟩:=afN j;have g:n∈s\/n∈t:=by
  grind
 rcases g with h|h
 ·obtain⟨x,y,rfl⟩:=afN h;grind [DD,J9]
 obtain⟨x,y,rfl⟩:=afN h;grind [DD,J9]
theorem zu: ∀n,(ry n).length=n
 |0=>rfl
 |n+1=>by rw[ry,acC,zu n]
theorem vZ: ∀n,(ry n).Nodup
 |0=>List.nodup_nil
 |n+1=>aej.2 ⟨fun h=>by have:=lX h;omega,vZ n⟩
theorem DR {c:Nat} (h:c<n):c∈ry n:=by
 induction n with
 |zero=>omega
 |succ n b=>
  by_cases e:c=n
  ·rw[e];exact adf
  exact ac6 _ (b (by omega))
section
variable {R:FF} {n a b:Nat} (ha:a<n)
include ha
theorem Js (u t:Int) (S T:Nat->Int):dk (me R a (fun i=>u*S i+t*T i)) n=u*dk (me R a S) n+t*dk (me R a T) n:=SM n _ (vZ n) (zu n) (DR ha)
theorem Gk (e:b<n) (c:a≠b):dk (me R a (fun i=>R i b)) n=0:=SN (vZ n) (zu n) (DR ha) (DR e) c
theorem VI {S:Nat->Int} (h: ∀i,i<n->S i=0):dk (me R a S) n=0:=by
 have c:=Js (R:=R) (n:=n) ha 0 0 S S;grind [me,nk]
theorem NW (f:b<n) (c:a≠b) (t:Int):dk (me R a (fun i=>R i a+t*R i b)) n=dk R n:=by
 have e:=Js (R:=R) (n:=n) ha 1 t (fun i=>R i a) (fun i=>R i b);grind [Cs,Gk]
end
/-! Rows exchanged. -/
end
theorem ig: ∀x:List Int,dn x x=0
 |[]=>rfl
 |a::x=>by simp[dn,ig x]
theorem qI: ∀{x y:List Int},dn x y=0->x=y
 |[],[],_=>rfl
 |[],_::_,h=>by simp[dn]at h
 |_::_,[],h=>by simp[dn]at h
 |a::x,b::y,h=>by
  unfold dn at h;split at h
  ·omega
  split at h
  ·omega
  rw[qI h,show a=b from by omega]
theorem Tp (A B:Option Addr) (c d:Nat) (a b:List (List Int)) (w:World) (ha:vy .i64 w A a) (hb:vy .i64 w B b) (la:a.length<=9223372036854775807) (lb:b.length<=9223372036854775807):
  Calls prog 17 #[.slice A a.length c,.slice B b.length d] w fun e w'=>e= .returned (.bool (decide (a=b)))/\Ext w w':=by
 have HA:=acg ha;have HB:=acg hb;clear ha hb;by_cases hl:a.length=b.length
 ·have hlb:((a.length:Int) !=(b.length:Int))=false:=by simp[hl]
  have HL:=acg hl;have hle:a.length<=b.length:=by omega
  clear hl
  go_enter func17,ntmps17
  go_wp2_with fail
  clear hlb
  go_loopw [13,5] (fun i _ wr=> ∃k:Nat,k<=a.length/\i= .int .i64 k/\Hid (Ext w wr)/\Hid (∀j,j<k->a[j]?=b[j]?)) (fun i _ _=>a.length-(intOf i).toNat)
  case atStart=>grind [Lib.hid,Ext.refl]
  case round=>
   obtain⟨k,hk,rfl,HE,HQ⟩:=hrel;by_cases hlt:k<a.length
   ·obtain⟨x,hx⟩:=getElem?_of_lt hlt;obtain⟨y,hy⟩:=getElem?_of_lt (l:=b) (k:=k) (by omega);obtain⟨b1,o1,B1,c1,rfl,hc1,hcl1,hlx,hr1⟩:=(HA.out.ext HE.out.drew).at_ hx;obtain⟨b2,o2,B2,c2,rfl,hc2,hcl2,hly,hr2⟩:=(HB.out.ext HE.out.drew).at_ hy;have HX:=acg hx;have HY:=acg hy;have HR1:=acg hr1;have HR2:=acg hr2;have HE1:=acg HE.out.drew;have hkb:(k:Int)<(b.length:Int):=by omega
    clear hx hy hr1 hr2 HE
    go_wp2_with fail
    refine du 8 (by kernel_rfl) (by kernel_rfl) ?_;simp only[adS,aeM,adK,adC];generalize wr.drew=w3 at*
    iterate 8 still_step
    refine wpStill_nil ?_;have HC:=acg (qp B1 B2 c1 c2 x y w3 HR1.out HR2.out hlx hly);clear hc1 hc2;by_cases h0:dn x y=0
    ·have h0':(dn x y !=0)=false:=by simp[h0]
     have H0:=acg h0;clear h0
     go_wp2_with fail
     refine HC.out.mono ?_;rintro e w4 ⟨rfl,n,rfl⟩
     go_wp2_with fail
     go_roundw
     case rel=>
      refine⟨k+1,by omega,by go_num,acg (HE1.out.drewN n),acg (fun j hj=>?_)⟩;by_cases e:j=k
      ·subst e;rw[HX.out,HY.out,qI H0.out]
      exact HQ.out j (by omega)
     grind [intOf]
    have h0':(dn x y !=0)=true:=by simp[h0]
    go_wp2_with fail
    refine HC.out.mono ?_;rintro e w4 ⟨rfl,n,rfl⟩
    go_wp2_with fail
    go_ret
    refine⟨eJ (fun h=>?_),HE1.out.drewN n⟩;subst h;have h1:=HX.out;rw[HY.out]at h1;grind [ig]
   go_wp2_with fail
   go_ret
   refine⟨EH ?_,HE.out⟩;apply acz;intro j;rcases ae6 j a.length with h|h
   ·exact HQ.out j (by omega)
   rw[ad6 h,ad6 (by have:=HL.out;omega)]
 have hlb:((a.length:Int) !=(b.length:Int))=true:=by simp;omega
 go_enter func17,ntmps17
 go_wp2_with fail
 go_ret
 exact⟨eJ (fun h=>hl (by rw[h])),Ext.refl _⟩
end Go.Proofs.YtalmoejhjceflaaGreat
namespace Go.Proofs
open Go.Shelf
def Tryz.lays129_ren:Go.Shelf.Ren:=⟨fun|129=>185|n=>n,fun|53=>116|3=>3|4=>4|46=>164|5=>5|9=>9|n=>n,fun|n=>n⟩
theorem Tryz.lays129:Go.Proofs.Lays.n129 prog Tryz.lays129_ren:={
 mixed:=by kernel_rfl
 f129:=func185.trans (congrArg some (by kernel_rfl))
 t3:=underlying3
 a3:=isAgg3
 z3:=sizeOf3
 v3:=zeroValue3
 t4:=underlying4
 a4:=isAgg4
 z4:=sizeOf4
 v4:=zeroValue4
 t5:=underlying5
 a5:=isAgg5
 z5:=sizeOf5
 v5:=zeroValue5
 t9:=underlying9
 a9:=isAgg9
 z9:=sizeOf9
 v9:=zeroValue9
 t46:=underlying164
 a46:=isAgg164
 z46:=sizeOf164
 v46:=zeroValue164
 t53:=underlying116
 a53:=isAgg116
 z53:=sizeOf116
 v53:=zeroValue116}
end Go.Proofs
namespace Go.Proofs.YtalmoejhjceflaaGreat
open Go.RowKit Go.Proofs.Tryz
variable {w W:World} {b:Array Oper} {c:FuncId} {n:Nat} {e:Nat->Prop} {f:List Nat} {g:Code} {h:Value} {s:AS} {j:Oper} {l:TV}
end Go.Proofs.YtalmoejhjceflaaGreat
