/-
  Part 16 of a proof (walks and plain facts).
-/
import Derived.Test.YtalmoejhjceflaaGreatR14
import Derived.Lib.SliceRun
set_option linter.all false
set_option maxRecDepth 100000
set_option maxHeartbeats 64000000
namespace Go.Proofs.YtalmoejhjceflaaGreat
open Go.RowKit Go.Proofs.Tryz
variable {w W:World} {b:Array Oper} {n:Nat} {c:FuncId} {e:Nat->Prop} {f:List Nat} {g:Code} {h:Value} {s:AS} {j:Oper} {l:TV}
section
theorem TK {X:Nat->Prop} {C:Rho} {res:CallRes} (A:Inv w e X s.H C W) (v2:l.rel C s.H (Xo X C s.H) W h) (I:tW s.H n l) (af:res.fam=(s.H n).map (renO 0)) (hr:res.r=renTV 0 l):
  ∃t:Rho,Inv w e X (famH 0 res.fam) t W/\res.r.rel t (famH 0 res.fam) (Xo X t (famH 0 res.fam)) W h/\ ∀b,Xo X t (famH 0 res.fam) b->Xo X C s.H b:=by
 obtain⟨B,h5⟩:=xP I;have Q: ∀(k:Nat) o,(famH 0 res.fam 0)[k]?=some o-> ∃F,(s.H n)[k]?=some F/\o=renO 0 F:=fun k o D=>by
  grind [famH]
 have J: ∀(x k:Nat) o,(famH 0 res.fam x)[k]?=some o->x=0:=fun x k o D=>by
  grind [famH]
 have U: ∀b,Xo X (fun _ k=>C n k) (famH 0 res.fam) b->Xo X C s.H b:=fun b V=>by
  rcases V with V|⟨x,k,o,q,E,P⟩
  ·exact .inl V
  have:=J x k o E;subst this;obtain⟨F,g3,_⟩:=Q k o E;exact .inr ⟨n,k,F,q,g3,P⟩
 have K: ∀x u,bs n x->AV.rel C s.H (Xo X C s.H) W x u->AV.rel (fun _ k=>C n k) (famH 0 res.fam) (Xo X (fun _ k=>C n k) (famH 0 res.fam)) W (cb 0 x) u:=j3 (c:=bs n) (fun _ _ _ _ _ _ m=>m.1) (oC 0) fun x u hn L N=>by
  cases x with
  |fn=>cases hn
  |p x=>exact bM.weaken (fun b _ V=>U b V) N
  |sl x k ah len=>
   have L:x=n:=L;subst L;obtain⟨o,E,P,g3⟩:=N;have h6:x<=4999:=h5.resolve_right fun m=>by grind
   exact⟨renO 0 o,by grind [famH],by grind [renO],tf (ρ':=fun _ k=>C x k) (a':=0) (r':=k) h6 g3 rfl⟩
  |ptr x k i j=>
   have L:x=n:=L;subst L;obtain⟨o,b,c,E,P,g3,g4⟩:=N;exact⟨renO 0 o,b,c,by grind [famH],P,by grind [renO],g4⟩
  |junk=>trivial
 have Z: ∃t:Rho,Inv w e X (famH 0 res.fam) t W/\res.r.rel t (famH 0 res.fam) (Xo X t (famH 0 res.fam)) W h/\ ∀b,Xo X t (famH 0 res.fam) b->Xo X C s.H b:=by
  refine⟨fun _ k=>C n k,⟨A.keep,fun x k o D=>?_,fun x k x' k' o F b c c' D aa M ae=>?_,fun x k o b c D M=>?_,A.bar,fun x k o D=>?_⟩,?_,U⟩
  ·have:=J x k o D;subst this;obtain⟨F,E,rfl⟩:=Q k o D;obtain⟨z1,z2,z3⟩:=A.objs n k F E;refine⟨fun g he=>?_,z2,?_⟩
   ·grind [renO]
   cases ab:C n k with
   |none=>grind [renO]
   |some bc=>
    obtain⟨b,q⟩:=bc;rw[ab]at z3;obtain⟨cells,p1,p2,p3,p4,p5⟩:=z3;simp only[ab];refine⟨cells,p1,p2,by grind [renO],p4,fun i g j z he J=>?_⟩;simp only[renO,aam]at he;obtain⟨e',Y,rfl⟩:=aak.1 he;rw[aam]at J;obtain⟨z',ad,rfl⟩:=aak.1 J;obtain⟨u,u1,u2,u3⟩:=p5 i e' j z' Y ad;exact⟨u,u1,u2,K z' u (A.self n k F E e' (aai Y) z' (aai ad)) u3⟩
  ·have S:=J x k o D;have e2:=J x' k' F aa;subst S e2;obtain⟨o1,E,_⟩:=Q k o D;obtain⟨o2,P,_⟩:=Q k' F aa;exact⟨rfl,(A.inj n k n k' o1 o2 b c c' E P M ae).2⟩
  ·have S:=J x k o D;subst S;obtain⟨o1,E,_⟩:=Q k o D;exact A.old n k o1 b c E M
  ·have S:=J x k o D;subst S;obtain⟨o1,E,rfl⟩:=Q k o D;intro g he z ag;grind [renO,dB]
  rw[hr];have agg: ∀G u,(∀x∈G,bs n x)->bH C s.H (Xo X C s.H) W G u->bH (fun _ k=>C n k) (famH 0 res.fam) (Xo X (fun _ k=>C n k) (famH 0 res.fam)) W (G.map (cb 0)) u:=fun G u L m=>by
   obtain⟨us,T,h2,h3⟩:=m;refine⟨us,T,by grind,fun j x N=>?_⟩;grind
  cases l with
  |one x=>exact K x h B v2
  |agg G=>exact agg G h B v2
  |fn f G=>obtain⟨u,T,h2⟩:=v2;exact⟨u,agg G u B T,h2⟩
  |tup ts=>
   obtain⟨us,T,h2,h3⟩:=v2;refine⟨us,T,by grind,fun j b G N=>?_⟩;rw[aam]at N;obtain⟨y,hy,ac⟩:=aak.1 N;obtain⟨b',R⟩:=y;simp at ac;obtain⟨rfl,rfl⟩:=ac;obtain⟨u,u1,u2⟩:=h3 j b' R hy;have L:=B (b',R) (aai hy);grind
 exact Z
section
variable {P:Program} {b:Nat} {ty:TypeId} {cs cs':List PV} {Q:Exit->AS->List PV->Prop} {s:AS}
theorem j5 {fn:Func} {args:List TV} {res:CallRes} (hf:P.funcs[c]?=some fn) (hb:fn.body=some g) (hn:callable P c=true) (h:dV P b ty g (fun e s k=>(e= .normal\/e= .ret)/\k=cs'/\ ∃W,bG s W/\mZ P fn res W) ⟨args++List.replicate (fn.ntmps-args.length) .undef,fun _=>[]⟩ cs):CallT P b ty c args cs res cs':=by
 refine⟨hn,fun X w vs Z K F M z=>?_⟩;refine calls_of_wp hf hb ?_;have E: ∀j,j<w.heap.size->Xo X (fun _ _=>none) (fun _=>[]) j->X j:=fun j _ h=>by
  rcases h with h|⟨a,r,o,g,q,Y⟩
  ·exact h
  cases Y
 have H:gT b ty w (fun j=>j=b) X ⟨args++List.replicate (fn.ntmps-args.length) .undef,fun _=>[]⟩ cs {tmps:=vs++Array.replicate (fn.ntmps-vs.size) undef,defers:=[]} w:=by
  refine⟨rfl,by simp[M],fun _ _=>none,⟨Keep.refl w,fun a r o A=>by simp at A,fun a r S r' o o' b g c' A=>by simp at A,fun a r o b g A=>by simp at A,Z,fun a r o A=>by simp at A⟩,fun t x n=>?_,rfl,K,F.weaken E⟩;by_cases ht:t<args.length
  ·rw[aaB ht]at n;obtain⟨v,O,R⟩:=z t x n;refine⟨v,by grind,TV.rel_map R (fun y u N=>?_)⟩;cases y with
   |p y=>exact bM.weaken E N
   |sl a r ac len=>obtain⟨o,q,_⟩:=N;simp at q
   |ptr a r i j=>obtain⟨o,_,_,q,_⟩:=N;simp at q
   |fn c a qs=>grind [qA]
   |junk=>trivial
  rw[aaE (by omega),aba]at n;split at n
  ·rename_i aa;injection n with n
   subst n;refine⟨undef,?_,eJ⟩;grind
  cases n
 refine wp_mono (h _ _ _ _ _ H) fun e S w' ⟨s1,k,⟨he,hk,s2,hw,r,a0,I,C,G,hr⟩,B⟩=>?_
 subst hk;obtain⟨q,ab,ρ,m,D,_,_,l⟩:=B.weak hw;have D:aV X ρ s2 S w':=D;obtain⟨v,O,R⟩:=fF m D I;obtain⟨J,T,U,V⟩:=TK m R C G hr;rcases he with rfl|rfl
 ·exact⟨q,v,O,v,rfl,J,T,U,l.weaken fun j _ L=>V j L⟩
 exact⟨q,v,O,v,rfl,J,T,U,l.weaken fun j _ L=>V j L⟩
/-! Regions. -/
theorem Gb {e c:List (df P)} {i d:Nat} {ev:Operand->Option TV} {H:OH} {op:Op} (h:e.find? (·.i==i)=c.find? (·.i==i)):cn P e f i d ev H op=cn P c f i d ev H op:=by
 cases op<;>simp only[cn,h]
theorem yk {g c:List (df P)} {l:Array Oper} {i:Nat} (h:g.find? (·.i==i)=c.find? (·.i==i)):aU P g f l i j s=aU P c f l i j s:=by
 have e:d6 P g f i j s=d6 P c f i j s:=by
  grind [d6,Gb]
 simp_all[aU]
def jr (e:Array Oper) (m:Nat):Bool:=match e[m]? with
 |some o=>o.guard.isNone&&(match o.op with
  | .call c=>(match c.callee with
   | .value (.func _)=>true
   | .value (.tmp _)=>true
   |_=>false)
  |_=>false)
 |none=>false
theorem DK {e:Array Oper} (h:jr e n=true) (g:e[n]?=some j):j.guard=none/\ ∃c y,j.op= .call c/\c.callee= .value y/\((∃f,y= .func f)\/ ∃k,y= .tmp k):=by
 unfold jr at h;rw[g]at h;simp only[aaO]at h;obtain⟨l,p⟩:=h;refine⟨by simp_all,?_⟩;grind
theorem Gn {c:List (ao P)} {e:df P} {i:Nat} (h:i≠e.i):(c.map ao.a++[e]).find? (·.i==i)=(c.map ao.a).find? (·.i==i):=by
 grind
theorem KX {e:List (ao P)} {f:df P} (h:e.all (fun c=>c.i !=f.i)=true):(e.map ao.a++[f]).find? (·.i==f.i)=some f:=by
 grind [ao.a]
theorem Ah {X:Nat->Prop} {a:Act} (g:List (ao P)) (l:df P) {A:List Nat} {m:Array Oper} {i:Nat} (F:m[i]?=some j) (E:jr m l.i=true) (D:g.all (fun c=>c.i !=l.i)=true) (u:lentOk l.args l.res cs'=true) (r:CallT P b ty l.f l.args cs l.res cs') {x:List PV} (G:i=l.i->x=cs) {y:AS} (n:gT b ty w e X s x a W) (h:aU P (g.map ao.a++[l]) A m i j s=some y) {K:Act->World->Prop} {Q:Exit->Act->World->Prop} (q: ∀v p,gT b ty w e X y (if i=l.i then cs' else x) (a.put j.dst v) p->K (a.put j.dst v) p):if Region.wanted j (yielded m a.tmps)then j.wp P a W K Q else K (a.put j.dst undef) W:=by
 by_cases t:i=l.i
 ·grind [DK,Region.wanted,aU,S3,KX]
 rw[yk (Gn t)]at h;obtain⟨Own,B,C⟩:=n.rebase;simp only[if_neg t]at q;exact iv (ao.ok g) B h fun v p z=>q v p (C _ _ _ z)
theorem zZ {w0:World} {O X:Nat->Prop} (g:List (ao P)) (m:df P) {H:List Nat} {n:Array Oper} (C:jr n m.i=true) (B:g.all (fun c=>c.i !=m.i)=true) (q:lentOk m.args m.res cs'=true) (p:CallT P b ty m.f m.args cs m.res cs') {Q:Exit->Act->World->Prop}:
  ∀(l:List Oper) (k:Nat) (s t:AS) (a:Act) (w:World),(∀(j:Nat) o,l[j]?=some o->n[k+j]?=some o)->ib P (g.map ao.a++[m]) H n (l.zipIdx k) s=some t->gT b ty w0 O X s (if k<=m.i then cs else cs') a w->
   (∀y u,gT b ty w0 O X t (if k+l.length<=m.i then cs else cs') y u->Q .normal y u)->wpOps P n Q (List.range' k l.length) a w
 |[],k,s,t,a,w,_,h,r,z=>by
  simp only[acV,ib]at h;injection h with h
  subst h;exact z a w r
 |o::l,k,s,t,a,w,D,h,r,z=>by
  simp only[acb,ib]at h;split at h
  ·rename_i I A;simp only[aaP,abb,wpOps];have E:n[k]?=some o:=by have:=D 0 o rfl;omega
   rw[E];simp only;have:=Ah (Q:=Q) g m E C B q p (x:=if k<=m.i then cs else cs') (fun L=>if_pos (by omega)) r A (K:=wpOps P n Q (List.range' (k+1) l.length)) (fun v u F=>zZ g m C B q p l (k+1) I t _ _ (fun j o J=>by have:=D (j+1) o (by grind);grind) h (by
    have e:(if k=m.i then cs' else if k<=m.i then cs else cs')=if k+1<=m.i then cs else cs':=by
     grind
    rw[e]at F;exact F) (fun y u G=>z y u (by grind)))
   grind
  cases h
theorem yR (m:Nat) {args:List TV} {res:CallRes} (q:CallT P b ty c args cs res cs') (n:List (ao P)) (x:List Nat) {id:Nat} {l:Array Oper} (C:jr l m=true) (B:n.all (fun g=>g.i !=m)=true) (t:lentOk args res cs'=true) (h:aS P (n.map ao.a++[⟨m,c,args,res⟩]) x (aJ l l.toList 0) (some s) (fun p=>Q .normal p cs')):dV P b ty (.region id l false) Q s cs:=fun u O X a w r=>by
 obtain⟨p,z,A⟩:=aR P _ x l l.toList 0 s _ h;refine wp_region ?_;rw[aaX];have E:m<l.size:=by
  grind [jr]
 have:=zZ (w0:=u) (O:=O) (X:=X) n ⟨m,c,args,res⟩ C B t q (Q:=fun e v y=> ∃p k,Q e p k/\gT b ty u O X p k v y) l.toList 0 s p a w (fun j o D=>by grind) z (by grind) (fun v y F=>⟨p,cs',A,by
  grind⟩)
 omega
theorem yQ (B:P.follows .mixedOrders=true) (m:Nat) {args:List TV} {res:CallRes} (t:CallT P b ty c args cs res cs') (n:List (ao P)) (E:List Nat) {id:Nat} {l:Array Oper} (I:bY [] l=true) (W:jr l m=true) (U:n.all (fun g=>g.i !=m)=true) (y:lentOk args res cs'=true) (h:aS P (n.map ao.a++[⟨m,c,args,res⟩]) E (aJ l l.toList 0) (some s) (fun A=>Q .normal A cs')):dV P b ty (.region id l true) Q s cs:=fun G O X a w r=>by
 obtain⟨L,h1,T⟩:=aR P _ E l l.toList 0 s _ h;have hm:m<l.size:=by
  grind [jr]
 refine wp_region_any B ?_;have z:dy P (n.map ao.a++[⟨m,c,args,res⟩]) E l (List.range l.size) s=some L:=by
  grind [List.range_eq_range',gS]
 have D:gT b ty G O X s cs a {w with drawn:=w.drawn+1}:=by
  obtain⟨Own,R,S⟩:=r.rebase;obtain⟨q1,q2,M,u,q⟩:=R;have e:Ext w {w with drawn:=w.drawn+1}:=⟨rfl,rfl,rfl,aar _,fun _ _=>rfl⟩;have q:aV X M s a w:=q;exact S _ _ _ ⟨q1,q2,M,u.grow e,q.grow e⟩
 refine pm (sep:=[]) (lF I (by simp)) I (Q:=fun e N F=> ∃A k,Q e A k/\gT b ty G O X A k N F) (fun p s a w=>gT b ty G O X s (if p m then cs' else cs) a w) ⟨eP r.rel,fun x hx=>by simp at hx⟩ z (fun p a w H J=>⟨L,cs',T,by
  grind⟩) (fun p i o s s1 a w K C Y _ Z J V=>?_) l.size (Array.replicate l.size false) s a _ (by simp) ?_ ?_ ?_ ?_
 ·refine Ah n ⟨m,c,args,res⟩ C W U y t (x:=if p m then cs' else cs) (fun hi=>?_) J Z (fun v F D=>V v F ?_)
  ·grind
  grind [dJ]
 ·intro j o C hp;have hj:j<l.size:=(aaD.1 C).1;simp_all
 ·grind
 ·have:l5 l.size (fun j=>(Array.replicate l.size false).getD j true)=[]:=by
   simp_all[l5]
  rw[this];rfl
 simp_all
theorem si (m:Nat) {args:List TV} {res:CallRes} (n:CallT P b ty c args cs res cs') (j:List (ao P)) (p:List Nat) {id:Nat} {l:Array Oper} (t:jr l m=true) (r:j.all (fun e=>e.i !=m)=true) (o:lentOk args res cs'=true) (h: ∀K:AS->Prop,(∀q,dV P b ty g Q q cs'->K q)->aS P (j.map ao.a++[⟨m,c,args,res⟩]) p (aJ l l.toList 0) (some s) K):dV P b ty (.seq (.region id l false) g) Q s cs:=
 b6 (yR m n j p t r o (h _ fun _ h=>h))
theorem fJ (m:Nat) {args:List TV} {res:CallRes} (l:CallT P b ty c args cs res cs') (g:List (ao P)) (o:List Nat) {id:Nat} {j:Array Oper} (r:jr j m=true) (q:g.all (fun e=>e.i !=m)=true) (n:lentOk args res cs'=true) (h: ∀K:AS->Prop,(∀p,Q .normal p cs'->K p)->aS P (g.map ao.a++[⟨m,c,args,res⟩]) o (aJ j j.toList 0) (some s) K):dV P b ty (.region id j false) Q s cs:=
 yR m l g o r q n (h _ fun _ h=>h)
theorem FG (p:P.follows .mixedOrders=true) (m:Nat) {args:List TV} {res:CallRes} (n:CallT P b ty c args cs res cs') (j:List (ao P)) (q:List Nat) {id:Nat} {l:Array Oper} (v:bY [] l=true) (u:jr l m=true) (t:j.all (fun e=>e.i !=m)=true) (o:lentOk args res cs'=true) (h: ∀K:AS->Prop,(∀r,dV P b ty g Q r cs'->K r)->aS P (j.map ao.a++[⟨m,c,args,res⟩]) q (aJ l l.toList 0) (some s) K):dV P b ty (.seq (.region id l true) g) Q s cs:=
 b6 (yQ p m n j q v u t o (h _ fun _ h=>h))
theorem jZ (o:P.follows .mixedOrders=true) (m:Nat) {args:List TV} {res:CallRes} (l:CallT P b ty c args cs res cs') (g:List (ao P)) (p:List Nat) {id:Nat} {j:Array Oper} (u:bY [] j=true) (t:jr j m=true) (r:g.all (fun e=>e.i !=m)=true) (n:lentOk args res cs'=true) (h: ∀K:AS->Prop,(∀q,Q .normal q cs'->K q)->aS P (g.map ao.a++[⟨m,c,args,res⟩]) p (aJ j j.toList 0) (some s) K):dV P b ty (.region id j true) Q s cs:=
 yQ o m l g p u t r n (h _ fun _ h=>h)
end
/-! A box of one's own is lent. -/
def i5 (d b:Nat):AV->AV
 | .sl x r c len=>if x=d then .junk else .sl x r c len
 | .ptr x r i j=>if x=d then(if r=0/\i=0/\j=0 then .raw (.pointer (some ⟨b,0,none⟩))else .junk)else .ptr x r i j
 | .fn f x e=>if x=d then .junk else .fn f x e
 |x=>x
theorem DR (d b:Nat):oR (i5 d b):=fun f x e=>by
 by_cases h:x=d
 ·exact .inl (if_pos h)
 exact .inr ⟨x,e,if_neg h,rfl,fun n q c=>⟨q,c,if_neg h⟩⟩
def sN (d b:Nat):TV->TV
 | .one x=> .one (i5 d b x)
 | .agg c=> .agg (c.map (i5 d b))
 | .fn f c=> .fn f (c.map (i5 d b))
 | .tup e=> .tup (e.map fun t=>(t.1,t.2.map (i5 d b)))
theorem CJ {P:Program} {Q:Exit->AS->Prop} (d:Nat) {ty:TypeId} {cs:List PV} (hd:s.H d=[⟨ty,cs.length,[cs.map AV.p]⟩]) (h: ∀b,dV P b ty g (fun e N _=>Q e N) ⟨s.tmps.map (sN d b),ax s.H d []⟩ cs):bf P g Q s:=fun w0 O X a w r=>by
 obtain⟨h1,av,G,m,U⟩:=r;have U:aV X G s a w:=U;have F:(s.H d)[0]?=some ⟨ty,cs.length,[cs.map AV.p]⟩:=by rw[hd];rfl
 obtain⟨z1,z2,z3⟩:=m.objs d 0 _ F;cases L:G d 0 with
 |none=>grind
 |some bc=>
  obtain⟨b,n⟩:=bc;rw[L]at z3;obtain⟨cells,p1,p2,p3,p4,p5⟩:=z3;have ag:=m.old d 0 _ b n F L;have I: ∀(x y:Nat) o,(ax s.H d [] x)[y]?=some o->x≠d/\(s.H x)[y]?=some o:=fun x y o K=>by
   grind [aM,aG]
  have aa: ∀j,Xo (fun j=>X j\/j=b) G (ax s.H d []) j->Xo X G s.H j:=fun j A=>by
   rcases A with(A|rfl)|⟨x,y,o,n',M,B⟩
   ·exact .inl A
   ·exact .inr ⟨d,0,_,n,F,L⟩
   exact .inr ⟨x,y,o,n',(I x y o M).2,B⟩
  have T: ∀x v,AV.rel G s.H (Xo X G s.H) w x v->AV.rel G (ax s.H d []) (Xo (fun j=>X j\/j=b) G (ax s.H d [])) w (i5 d b x) v:=gp (DR d b) fun x v hn D=>by
   cases x with
   |fn=>cases hn
   |p x=>exact bM.weaken (fun j _ A=>aa j A) D
   |sl x r af len=>
    simp only[i5];split
    ·trivial
    rename_i J;obtain⟨o,M,B⟩:=D;exact⟨o,by grind [aG],B⟩
   |ptr x r i j=>
    simp only[i5];split
    ·rename_i J;subst J;split
     ·rename_i hc;obtain⟨rfl,rfl,rfl⟩:=hc;obtain⟨o,b',Z,M,B,g3,g4⟩:=D;rw[L]at B;injection B with B
      injection B with B al
      subst B;rw[g4];simp only[adP,aa5];exact bM.raw _ rfl
     trivial
    rename_i J;obtain⟨o,b',Z,M,B⟩:=D;exact⟨o,b',Z,by grind [aG],B⟩
   |junk=>trivial
  have S: ∀cs v,bH G s.H (Xo X G s.H) w cs v->bH G (ax s.H d []) (Xo (fun j=>X j\/j=b) G (ax s.H d [])) w (cs.map (i5 d b)) v:=fun cs v ⟨vs,M,B,g3⟩=>by
   refine⟨vs,M,by grind,fun j x D=>?_⟩;grind
  have ab:gT b ty w0 (fun j=>O j\/j=b) (fun j=>X j\/j=b) ⟨s.tmps.map (sN d b),ax s.H d []⟩ cs a w:=by
   refine⟨h1,by grind,G,⟨⟨m.keep.os,m.keep.tape,m.keep.output,m.keep.size,fun k hk hn=>m.keep.block k hk (fun h=>hn (.inl h))⟩,fun x y o K=>?_,fun x y x' y' o o' j g Z K E=>m.inj x y x' y' o o' j g Z (I x y o K).2 (I x' y' o' E).2,fun x y o j g K A=>?_,fun j A=>?_,fun x y o K=>m.self x y o (I x y o K).2⟩,fun t x D=>?_,.inr rfl,.inr rfl,?_⟩
   ·obtain⟨J,E⟩:=I x y o K;obtain⟨q1,q2,q3⟩:=m.objs x y o E;refine⟨q1,q2,?_⟩;cases hr:G x y with
    |none=>grind
    |some bc=>
     obtain⟨b',Z⟩:=bc;rw[hr]at q3;obtain⟨R,r1,r2,r3,r4,r5⟩:=q3;refine⟨R,r1,r2,r3,r4,fun i e j z he hz=>?_⟩;obtain⟨u,u1,u2,u3⟩:=r5 i e j z he hz;have Y:=m.self x y o E e (aai he) z (aai hz);have:=T z u u3;refine⟨u,u1,u2,?_⟩;cases z with
     |sl z _ _ _=>have Y:z=x:=Y;grind [i5]
     |ptr z _ _ _=>have Y:z=x:=Y;grind [i5]
     |fn _ z _=>have Y:z=x:=Y.1;grind [i5]
     |p z=>exact this
     |junk=>trivial
   ·obtain⟨J,E⟩:=I x y o K;obtain⟨M,B⟩:=m.old x y o j g E A;refine⟨?_,?_⟩
    ·grind
    rintro(l|rfl)
    ·exact B l
    exact J (m.inj x y d 0 o _ j g n E F A L).1
   ·rcases A with A|rfl
    ·exact m.bar j A
    grind
   ·simp only[aam]at D;obtain⟨y,hy,rfl⟩:=aak.1 D;obtain⟨v,v1,W⟩:=U t y hy;refine⟨v,v1,?_⟩;cases y with
    |one x=>exact T x v W
    |agg cs=>exact S cs v W
    |fn f cs=>obtain⟨u,h1,h2⟩:=W;exact⟨u,S cs u h1,h2⟩
    |tup ts=>
     obtain⟨vs,M,B,g3⟩:=W;refine⟨vs,M,by grind,fun j g cs A=>?_⟩;grind
   refine⟨cells,n,p1,p2,by omega,p4,z2,fun j x D=>?_⟩;obtain⟨v,v1,W,v3⟩:=p5 0 (cs.map AV.p) j (.p x) rfl (by grind);exact⟨v,by grind,W,bM.weaken (fun j _ A=>aa j A) v3⟩
  refine wp_mono (h b _ _ _ _ _ ab) fun e a' w' ⟨N,ah,hq,hr⟩=>⟨N,hq,?_⟩
  obtain⟨k1,ae,C,q,V,_,_,_⟩:=hr;have V:aV (fun j=>X j\/j=b) C N a' w':=V;have ad: ∀j,Xo X C N.H j->Xo (fun j=>X j\/j=b) C N.H j:=fun j A=>by
   rcases A with A|A
   ·exact .inl (.inl A)
   exact .inr A
  have ac: ∀x v,AV.rel C N.H (Xo (fun j=>X j\/j=b) C N.H) w' x v->AV.rel C N.H (Xo X C N.H) w' x v:=fun x v D=>by
   cases x with
   |p x=>exact bM.weaken (fun j _ A=>ad j A) D
   |sl x r af len=>exact D
   |ptr x r i j=>exact D
   |fn=>exact D
   |junk=>trivial
  refine⟨k1,ae,C,⟨⟨q.keep.os,q.keep.tape,q.keep.output,q.keep.size,fun k hk hn=>?_⟩,fun x y o K=>dP (q.objs x y o K) rfl (fun _ _ _=>rfl) ac,q.inj,fun x y o j g K A=>?_,fun j A=>q.bar j (.inl A),q.self⟩,fun t x D=>?_⟩
  ·by_cases ap:k=b
   ·grind
   exact q.keep.block k hk (fun hh=>by
    grind)
  ·obtain⟨M,B⟩:=q.old x y o j g K A;grind
  obtain⟨v,v1,W⟩:=V t x D;grind [TV.rel_map]
end
theorem N6 (w:World) (q:Nat) (b:Array Obj):Ext w (Sort.grow (w.drewN q) b):=
 ⟨rfl,rfl,rfl,by simp,fun k c=>by show(w.heap++b)[k]?=w.heap[k]?;grind⟩
structure NItem where
 key:Int
 vals:List Int
 at_:Option Addr
 cap:Nat
 deriving Inhabited
def NItem.val (b:NItem):Value:= .slice b.at_ b.vals.length b.cap
def NItem.agg (b:NItem):Value:= .agg #[.int .i64 b.key,.slice b.at_ b.vals.length b.cap]
def jy (a b:NItem):Int:=KE a.key a.vals b.key b.vals
def wq (a b:NItem):Bool:=jy a b==0
structure ItemOk (w:World) (g:Nat) (it:NItem):Prop where
 rd:RdI .i64 w it.at_ it.vals
 ne: ∀p,it.at_=some p->p.block≠g
 le:it.vals.length<=9223372036854775807
theorem ItemOk.ext {b:NItem} (h:ItemOk w n b) (e:Ext w W):ItemOk W n b:=⟨h.rd.ext e,h.ne,h.le⟩
theorem ym (a b:NItem) (w:World) (g:Nat) (c:ItemOk w g a) (f:ItemOk w g b):
  Calls prog 132 #[a.agg,b.agg] w fun e j=>e= .returned (.int .i64 (jy a b))/\Ext w j:=
 (kD a.key b.key a.at_ b.at_ a.cap b.cap a.vals b.vals w c.rd f.rd c.le f.le).mono fun _ _ ⟨h,q,m,l⟩=>⟨h,by grind [N6]⟩
theorem xT (a b:NItem) (bx sx so:Nat) (w:World) (g:Nat) (ha:ItemOk w g a) (hb:ItemOk w g b) (h1:w.cell? ⟨bx,0,none⟩=some (.pointer (some ⟨sx,so,none⟩))) (h2:w.cell? ⟨sx,so+1,none⟩=some (.func (Fn.func 132) #[] #[])):
  Calls prog 200 #[a.agg,b.agg,.pointer (some ⟨bx,0,none⟩)] w fun e w'=>e= .returned (.bool (wq a b))/\Ext w w':=by
 have HA:=aal ha;have HB:=aal hb;clear ha hb;unfold NItem.agg
 go_enter func200,ntmps200
 go_wp2_with fail
 obtain⟨c1,c2,c3,c4,he,hg⟩:=Ap w (.int .i64 a.key) (.slice a.at_ a.vals.length a.cap) (.int .i64 b.key) (.slice b.at_ b.vals.length b.cap) 177;have h1':=he.cell h1;have h2':=he.cell h2;have HE:=aal he;clear he hg h1 h2;generalize(w.alloc (.cells #[.int .i64 a.key,.slice a.at_ a.vals.length a.cap] 177)).alloc (.cells #[.int .i64 b.key,.slice b.at_ b.vals.length b.cap] 177)=w2 at*
 refine cX 6 (by kernel_rfl) (by kernel_rfl) ?_;simp only[abF,acy,abM,abL];generalize w2.drew=w3 at*
 iterate 6 still_step
 refine wpStill_nil ?_;have HC:=aal (ym a b w3 g (HA.out.ext HE.out) (HB.out.ext HE.out));unfold NItem.agg at HC
 go_wp2_with fail
 refine HC.out.mono ?_;rintro e w' ⟨rfl,he⟩;have HE2:=aal (HE.out.trans he);clear he
 go_wp2_with fail
 go_ret
 exact⟨rfl,HE2.out⟩
theorem ru {g t N:Nat}: ∀(vs:List Value) (o:Nat) (w:World) (f:Nat->Value),w.rowIs g t N f-> ∃b,(w.setCells g o vs).rowIs g t N b/\(∀j,j<o->b j=f j)/\ ∀k,k≠g->(w.setCells g o vs).heap[k]?=w.heap[k]?
 |[],o,w,f,h=>⟨f,h,fun _ _=>rfl,fun _ _=>rfl⟩
 |v::r,o,w,f,h=>by
  obtain⟨b,c,e,l⟩:=ru r (o+1) (w.setCell ⟨g,o,none⟩ v) _ (h.set o v);refine⟨b,c,fun j m=>?_,fun k n=>?_⟩
  ·grind
  show((w.setCell ⟨g,o,none⟩ v).setCells g (o+1) r).heap[k]?=_;grind [Below.heap_setCell]
theorem fh (h:Ext w W) (g:Nat):w.grownBy W (some g):=⟨h.os,h.tape,h.output,h.size,fun k b _=>h.block k b⟩
theorem iX {a:World} (h:a.grownBy w (some n)) (k:w.grownBy W (some n)):a.grownBy W (some n):=
 ⟨k.os.trans h.os,k.tape.trans h.tape,k.output.trans h.output,aap h.size k.size,fun i f e=>(k.block i (aaA f h.size) e).trans (h.block i f e)⟩
theorem A4 {a:World} (h:a.grownBy w (some n)) (o:Nat) (v:Value):a.grownBy (w.setCell ⟨n,o,none⟩ v) (some n):=
 iX h ⟨rfl,rfl,rfl,by simp,fun k _ c=>adk _ _ _ _ (fun e=>c (by rw[e]))⟩
theorem tI {a b:World} {g:Nat}: ∀(vs:List Value) (o:Nat) {b:World},a.grownBy b (some g)->a.grownBy (b.setCells g o vs) (some g)
 |[],_,_,h=>h
 |v::r,o,_,h=>tI (b:=b) r (o+1) (A4 h o v)
theorem ox (b:w.grownBy W (some n)) {p:Addr} (f:w.cell? p=some h) (c:p.block≠n):W.cell? p=some h:=
 b.cell f (fun e=>c (by injection e))
theorem RdI.gb {k:IntKind} {A:Option Addr} {c:List Int} (h:RdI k w A c) (f: ∀p,A=some p->p.block≠n) (m:w.grownBy W (some n)):RdI k W A c:=fun e=>by
 obtain⟨b,j,rfl,l⟩:=h e;grind [ox]
def gI (l:List Int) (a:Nat):Nat:=if a<l.length then a+1 else a
section
section
variable {P:Program} {f:FuncId} {args:List TV} {res:CallRes}
theorem Ri {fam:List OObj} {res:CallRes} (m:bG ⟨[l],famH 0 fam⟩ ⟨[res.r],Hm [(0,res.fam)]⟩) (c: ∃g:Rho,Inv w (fun _=>False) e (famH 0 fam) g W/\l.rel g (famH 0 fam) (Xo e g (famH 0 fam)) W h):
  ∃g:Rho,Inv w (fun _=>False) e (famH 0 res.fam) g W/\res.r.rel g (famH 0 res.fam) (Xo e g (famH 0 res.fam)) W h:=by
 have b:Hm [(0,res.fam)]=famH 0 res.fam:=by rfl
 rw[b]at m;obtain⟨g,n,u⟩:=c;obtain⟨_,_,q,o,p⟩:=m w (fun _=>False) e ⟨#[h],[]⟩ W ⟨rfl,rfl,g,n,fun j x y=>by
  grind⟩
 obtain⟨A,s,z⟩:=p 0 _ rfl;grind
theorem CallC.weak {fam:List OObj} (h:CallC P f args ⟨fam,l⟩) (j:bG ⟨[l],famH 0 fam⟩ ⟨[res.r],Hm [(0,res.fam)]⟩):CallC P f args res:=
 ⟨h.1,fun X w vs b g c=>(h.2 X w vs b g c).mono fun _ _ ⟨v,e,k⟩=>⟨v,e,Ri j k⟩⟩
end
end
theorem jM: ∀x:List Int,dj x x=0
 |[]=>rfl
 |a::x=>by simp[dj,jM x]
theorem qu: ∀{x y:List Int},dj x y=0->x=y
 |[],[],_=>rfl
 |[],_::_,h=>by simp[dj]at h
 |_::_,[],h=>by simp[dj]at h
 |a::x,b::y,h=>by
  unfold dj at h;split at h
  ·omega
  split at h
  ·omega
  rw[qu h,show a=b from by omega]
theorem P5 (A B:Option Addr) (c d:Nat) (a b:List (List Int)) (w:World) (ha:oP .i64 w A a) (hb:oP .i64 w B b) (la:a.length<=9223372036854775807) (lb:b.length<=9223372036854775807):
  Calls prog 17 #[.slice A a.length c,.slice B b.length d] w fun e w'=>e= .returned (.bool (decide (a=b)))/\Ext w w':=by
 have HA:=aal ha;have HB:=aal hb;clear ha hb;by_cases hl:a.length=b.length
 ·have hlb:((a.length:Int) !=(b.length:Int))=false:=by simp[hl]
  have HL:=aal hl;have hle:a.length<=b.length:=by omega
  clear hl
  go_enter func17,ntmps17
  go_wp2_with fail
  clear hlb
  go_loopw [13,5] (fun i _ wr=> ∃k:Nat,k<=a.length/\i= .int .i64 k/\Hid (Ext w wr)/\Hid (∀j,j<k->a[j]?=b[j]?)) (fun i _ _=>a.length-(intOf i).toNat)
  case atStart=>grind [Lib.hid,Ext.refl]
  case round=>
   obtain⟨k,hk,rfl,HE,HQ⟩:=hrel;by_cases hlt:k<a.length
   ·obtain⟨x,hx⟩:=getElem?_of_lt hlt;obtain⟨y,hy⟩:=getElem?_of_lt (l:=b) (k:=k) (by omega);obtain⟨b1,o1,B1,c1,rfl,hc1,hcl1,hlx,hr1⟩:=(HA.out.ext HE.out.drew).at_ hx;obtain⟨b2,o2,B2,c2,rfl,hc2,hcl2,hly,hr2⟩:=(HB.out.ext HE.out.drew).at_ hy;have HX:=aal hx;have HY:=aal hy;have HR1:=aal hr1;have HR2:=aal hr2;have HE1:=aal HE.out.drew;have hkb:(k:Int)<(b.length:Int):=by omega
    clear hx hy hr1 hr2 HE
    go_wp2_with fail
    refine cX 8 (by kernel_rfl) (by kernel_rfl) ?_;simp only[abF,acy,abM,abL];generalize wr.drew=w3 at*
    iterate 8 still_step
    refine wpStill_nil ?_;have HC:=aal (nQ B1 B2 c1 c2 x y w3 HR1.out HR2.out hlx hly);clear hc1 hc2;by_cases h0:dj x y=0
    ·have h0':(dj x y !=0)=false:=by simp[h0]
     have H0:=aal h0;clear h0
     go_wp2_with fail
     refine HC.out.mono ?_;rintro e w4 ⟨rfl,n,rfl⟩
     go_wp2_with fail
     go_roundw
     case rel=>
      refine⟨k+1,by omega,by go_num,aal (HE1.out.drewN n),aal (fun j hj=>?_)⟩;by_cases e:j=k
      ·subst e;rw[HX.out,HY.out,qu H0.out]
      exact HQ.out j (by omega)
     grind [intOf]
    have h0':(dj x y !=0)=true:=by simp[h0]
    go_wp2_with fail
    refine HC.out.mono ?_;rintro e w4 ⟨rfl,n,rfl⟩
    go_wp2_with fail
    go_ret
    refine⟨dY (fun h=>?_),HE1.out.drewN n⟩;subst h;have h1:=HX.out;rw[HY.out]at h1;grind [jM]
   go_wp2_with fail
   go_ret
   refine⟨BJ ?_,HE.out⟩;apply aaC;intro j;rcases acQ j a.length with h|h
   ·exact HQ.out j (by omega)
   rw[adW h,adW (by have:=HL.out;omega)]
 have hlb:((a.length:Int) !=(b.length:Int))=true:=by simp;omega
 go_enter func17,ntmps17
 go_wp2_with fail
 go_ret
 exact⟨dY (fun h=>hl (by rw[h])),Ext.refl _⟩
section
def XX (k:Nat) (f:List Nat->Int):Prop:= ∀b c d e,b.length+e.length+2=k->f (b++c::d::e)= - f (b++d::c::e)
theorem XX.cons {k:Nat} {f:List Nat->Int} (h:XX (k+1) f) (c:Nat):XX k (fun l=>f (c::l)):=fun e a b g j=>h (c::e) a b g (by simp;omega)
theorem I6 {r:Nat->Int}: ∀(b:List Nat) {f g:List Nat->Int},(∀l,l.length+1=b.length->f l= - g l)->dK r f b= - dK r g b
 |[],_,_,_=>rfl
 |c::b,f,g,h=>by
  rw[dK,dK,h b rfl,I6 b (f:=fun l=>f (c::l)) (g:=fun l=>g (c::l)) (fun l e=>h (c::l) (by simp;omega))];grind
theorem AJ {r:Nat->Int}: ∀(j:List Nat) (k:Nat) (f:List Nat->Int),XX k f-> ∀c d b,j.length+b.length+2=k+1->dK r f (j++c::d::b)= - dK r f (j++d::c::b)
 |[],k,f,h,c,d,b,m=>by
  have e:=I6 (r:=r) b (f:=fun l=>f (c::d::l)) (g:=fun l=>f (d::c::l)) (fun l n=>h [] c d l (by omega));grind [dK]
 |x::j,k,f,h,c,d,b,m=>by
  obtain⟨k,rfl⟩: ∃o,k=o+1:=⟨k-1,by omega⟩;simp only[aca,dK];rw[AJ j k _ (h.cons x) c d b (by grind),h j c d b (by grind)];grind
theorem Bw (R:FF): ∀k,XX k (om R k)
 |0=>fun b c d e h=>by omega
 |k+1=>fun b c d e h=>AJ b k _ (Bw R k) c d e h
theorem uy {k:Nat} {f:List Nat->Int} (h:XX k f) (c:Nat) (g:List Nat): ∀(e b:List Nat),b.length+e.length+g.length+2=k->f (b++c::(e++c::g))=0
 |[],b,j=>by
  have:=h b c c g (by omega);grind
 |x::e,b,j=>by
  have l:=h b c x (e++c::g) (by grind);have m:=uy h c g e (b++[x]) (by grind);grind
/-! Columns. -/
theorem mv {r s:Nat->Int}: ∀(b:List Nat) {f g:List Nat->Int},b.Nodup->(∀c∈b,r c=s c)->(∀l,l.length+1=b.length->(∀c∈l,c∈b)->l.Nodup->f l=g l)->dK r f b=dK s g b
 |[],_,_,_,_,_=>rfl
 |c::b,f,g,p,h,n=>by
  obtain⟨o,e⟩:=acU.1 p;rw[dK,dK,h c aa4,n b rfl (fun d j=>aa0 _ j) e,mv b e (fun d j=>h d (aa0 _ j)) (fun l t q m=>n (c::l) (by simp;omega) (fun d j=>by
   grind) (acU.2 ⟨fun h=>o (q c h),m⟩))]
def mp (R:FF) (a:Nat) (S:Nat->Int):Nat->Nat->Int:=fun i c=>if c=a then S i else R i c
theorem KJ (R:FF) (a:Nat):mp R a (fun i=>R i a)=R:=by
 grind [mp]
theorem I5 {a:Nat} {u t s s':Int} {r:Nat->Int}: ∀(b:List Nat) (f j m:List Nat->Int),b.Nodup->a∈b->
  (∀l,l.length+1=b.length->(∀c∈l,c∈b)->l.Nodup->(a∈l->f l=u*j l+t*m l)/\(a∉l->j l=f l/\m l=f l))->
  dK (fun c=>if c=a then u*s+t*s' else r c) f b=u*dK (fun c=>if c=a then s else r c) j b+t*dK (fun c=>if c=a then s' else r c) m b
 |[],_,_,_,_,h,_=>by simp at h
 |c::b,f,j,m,E,H,h=>by
  obtain⟨w,g⟩:=acU.1 E;have p: ∀l:List Nat,(∀c∈l,c∈b)-> ∀d∈c::l,d∈c::b:=fun l q d n=>by
   grind
  obtain⟨G,A⟩:=h b rfl (fun d n=>aa0 _ n) g;rw[dK,dK,dK];by_cases e:c=a
  ·subst e;obtain⟨B,C⟩:=A w;have F: ∀d∈b,d≠c:=fun d n e=>w (e▸n)
   have x:dK (fun d=>if d=c then u*s+t*s' else r d) (fun l=>f (c::l)) b=dK r (fun l=>u*j (c::l)+t*m (c::l)) b:=
    mv b g (fun d n=>by grind) (fun l D q o=>(h (c::l) (by simp;omega) (p l q) (acU.2 ⟨fun h=>w (q c h),o⟩)).1 aa4)
   have y:dK (fun d=>if d=c then s else r d) (fun l=>j (c::l)) b=dK r (fun l=>j (c::l)) b:=mv b g (fun d n=>by grind) (fun _ _ _ _=>rfl);have z:dK (fun d=>if d=c then s' else r d) (fun l=>m (c::l)) b=dK r (fun l=>m (c::l)) b:=mv b g (fun d n=>by grind) (fun _ _ _ _=>rfl);rw[x,y,z,wJ,B,C];grind
  have v:a∈b:=by
   grind
  have I:=I5 (u:=u) (t:=t) (s:=s) (s':=s') (r:=r) b (fun l=>f (c::l)) (fun l=>j (c::l)) (fun l=>m (c::l)) g v (fun l D q o=>by
   grind)
  grind
theorem Pi {R:FF} {a:Nat} {u t:Int} {S T:Nat->Int}: ∀(k:Nat) (b:List Nat),b.Nodup->b.length=k->a∈b->
  om (mp R a (fun i=>u*S i+t*T i)) k b=u*om (mp R a S) k b+t*om (mp R a T) k b
 |0,b,_,g,f=>by grind
 |k+1,b,j,g,f=>by
  refine I5 (r:=R k) (s:=S k) (s':=T k) b _ _ _ j f (fun l h m e=>⟨fun c=>Pi k l e (by omega) c,fun c=>?_⟩);grind [uJ,mp]
theorem uF {r:Nat->Int} (p:Nat->Nat): ∀(b:List Nat) (f:List Nat->Int),dK (fun c=>r (p c)) (fun l=>f (l.map p)) b=dK r f (b.map p)
 |[],_=>rfl
 |c::b,f=>by
  rw[dK,aaI,dK];have:=uF (r:=r) p b (fun l=>f (p c::l));grind
theorem wY {R:FF} (p:Nat->Nat): ∀(k:Nat) (b:List Nat),om (fun i c=>R i (p c)) k b=om R k (b.map p)
 |0,_=>rfl
 |k+1,b=>by
  have e:om (fun i c=>R i (p c)) k=fun l=>om R k (l.map p):=funext (wY p k)
  simp_all[om,uF]
theorem Pj {R:FF} {a k:Nat} (p:f.Nodup) (o:f.length=k) (j:a∈f) (m:n∈f) (l:a≠n):om (mp R a (fun i=>R i n)) k f=0:=by
 have e:mp R a (fun i=>R i n)=fun i c=>R i (if c=a then n else c):=by
  grind [mp]
 rw[e,wY (R:=R) (fun c=>if c=a then n else c)];obtain⟨s,t,rfl⟩:=adm j;have g:n∈s\/n∈t:=by
  grind
 rcases g with h|h
 ·obtain⟨x,y,rfl⟩:=adm h;grind [uy,Bw]
 obtain⟨x,y,rfl⟩:=adm h;grind [uy,Bw]
theorem qw: ∀n,(lg n).length=n
 |0=>rfl
 |n+1=>by rw[lg,aaP,qw n]
theorem sG: ∀n,(lg n).Nodup
 |0=>List.nodup_nil
 |n+1=>acU.2 ⟨fun h=>by have:=jp h;omega,sG n⟩
theorem AX {c:Nat} (h:c<n):c∈lg n:=by
 induction n with
 |zero=>omega
 |succ n b=>
  by_cases e:c=n
  ·rw[e];exact aa4
  exact aa0 _ (b (by omega))
theorem KK {p:Nat} (h:p<n): ∃b,lg n=b++p::lg p/\ ∀c∈b,p<c:=by
 induction n with
 |zero=>omega
 |succ n g=>
  by_cases e:p=n
  ·exact⟨[],by rw[e];rfl,fun c f=>by simp at f⟩
  grind [lg]
section
variable {R:FF} {n a b:Nat} (ha:a<n)
include ha
theorem NR (u t:Int) (S T:Nat->Int):dk (mp R a (fun i=>u*S i+t*T i)) n=u*dk (mp R a S) n+t*dk (mp R a T) n:=Pi n _ (sG n) (qw n) (AX ha)
theorem NT (e:b<n) (c:a≠b):dk (mp R a (fun i=>R i b)) n=0:=Pj (sG n) (qw n) (AX ha) (AX e) c
theorem SG {S:Nat->Int} (h: ∀i,i<n->S i=0):dk (mp R a S) n=0:=by
 have c:=NR (R:=R) (n:=n) ha 0 0 S S;grind [mp,ny]
end
/-! Rows exchanged. -/
end
end Go.Proofs.YtalmoejhjceflaaGreat
