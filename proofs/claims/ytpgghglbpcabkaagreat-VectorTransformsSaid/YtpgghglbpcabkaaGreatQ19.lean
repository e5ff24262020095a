/-
  Part 20 of a proof (walks and plain facts).
-/
import Derived.Test.YtpgghglbpcabkaaGreatQ18
set_option linter.all false
set_option maxRecDepth 100000
set_option maxHeartbeats 64000000
namespace Go.Proofs.YtpgghglbpcabkaaGreat
open Go.RowKit
section
theorem yT {a:Act} {d:Option Tmp} {k:Nat} (v:Value) (h:d≠some k):(a.put d v).tmps[k]?=a.tmps[k]?:=by
 cases d with
 |none=>rfl
 |some d=>
  have:d≠k:=fun e=>h (by rw[e])
  simp[Act.put,Array.getElem?_setIfInBounds_ne this]
def nn (k:Nat) (v0:Value) (w0:World) (O X:Nat->Prop) (s:AS) (a:Act) (w:World):Prop:=ik w0 O X s a w/\a.tmps[k]?=some v0
def jD (P:Program) (k:Nat) (c:Code) (Q:Exit->AS->Prop) (s:AS):Prop:=
 ∀(v0:Value) (w0:World) (O X:Nat->Prop) (a:Act) (w:World),nn k v0 w0 O X s a w->c.wp P (fun e a' w'=> ∃s',Q e s'/\nn k v0 w0 O X s' a' w') a w
def qA (k:Nat) (ops:Array Oper):Bool:=ops.toList.all fun o=>o.dst !=some k
section
variable {P:Program} {k:Nat} {s s':AS} {Q:Exit->AS->Prop}
theorem nn.weak {v0:Value} {w0 w:World} {O X:Nat->Prop} {a:Act} (h:dG s s') (r:nn k v0 w0 O X s a w):nn k v0 w0 O X s' a w:=⟨h _ _ _ _ _ r.1,r.2⟩
theorem jD.weak {c:Code} (h:dG s s') (r:jD P k c Q s'):jD P k c Q s:=fun _ _ _ _ _ _ q=>r _ _ _ _ _ _ (q.weak h)
theorem jD.mono {c:Code} {Q':Exit->AS->Prop} (h:jD P k c Q s) (q: ∀e s',Q e s'->Q' e s'):jD P k c Q' s:=fun _ _ _ _ _ _ r=>
 wp_mono (h _ _ _ _ _ _ r) fun _ _ _ ⟨s',h1,h2⟩=>⟨s',q _ _ h1,h2⟩
theorem f7 (h:Q .normal s):jD P k .skip Q s:=fun _ _ _ _ _ _ r=>wp_skip ⟨s,h,r⟩
theorem iE {id:Nat} (h:Q (.exit id) s):jD P k (.exit id) Q s:=fun _ _ _ _ _ _ r=>wp_exit ⟨s,h,r⟩
theorem vi (h:Q .ret s):jD P k .ret Q s:=fun _ _ _ _ _ _ r=>wp_ret ⟨s,h,r⟩
theorem dD {x y:Code} (h:jD P k x (lJ (jD P k y Q) Q) s):jD P k (.seq x y) Q s:=fun _ _ _ _ _ _ r=>
 wp_seq (wp_mono (h _ _ _ _ _ _ r) fun e a w ⟨s',h1,h2⟩=>by
  cases e with
  |normal=>exact h1 _ _ _ _ _ _ h2
  |_=>exact⟨s',h1,h2⟩)
theorem gT {id:Nat} {x:Code} (h:jD P k x (nA id Q) s):jD P k (.block id x) Q s:=fun _ _ _ _ _ _ r=>
 wp_block (wp_mono (h _ _ _ _ _ _ r) fun e a w ⟨s',h1,h2⟩=>by
  cases e with
  |exit id'=>
   simp only[nA]at h1
   simp only[Exit.inBlock]
   split at h1
   ·rename_i hid;rw[if_pos hid];exact⟨s',h1,h2⟩
   ·rename_i hid;rw[if_neg hid];exact⟨s',h1,h2⟩
  |_=>exact⟨s',h1,h2⟩)
theorem dJ {c:Operand} {x y:Code} {b:Bool} (hc:s.ev c=some (.raw (.bool b))) (ht:b=true->jD P k x Q s) (hf:b=false->jD P k y Q s):jD P k (.cond c x y) Q s:=fun _ _ _ _ _ _ r=>by
 obtain⟨h1,hsz,ρ,hinv,htm⟩:=id r.1
 have hb:=(dM (ew htm c _ hc)).1
 exact wp_cond_split hb (fun h=>ht h _ _ _ _ _ _ r) (fun h=>hf h _ _ _ _ _ _ r)
theorem DH {G:Type} (St:G->AS) (μ:G->Nat) (g0:G) {c:Code} (h0:dG s (St g0))
  (round: ∀g,jD P k c (lJ (fun s'=> ∃g',μ g'<μ g/\dG s' (St g')) Q) (St g)):jD P k (.loop c) Q s:=fun v0 w0 O X a w r=>by
 classical
 let p:Act->World->Nat->Prop:=fun a w n=> ∃g,μ g=n/\nn k v0 w0 O X (St g) a w
 let m:Act->World->Nat:=fun a w=>if h: ∃n,p a w n then Classical.choose (dj h)else 0
 refine wp_loop (fun a w=> ∃n,p a w n) m ⟨_,g0,rfl,r.weak h0⟩ ?_
 intro a w hI
 have hm:m a w=Classical.choose (dj hI):=dif_pos hI
 obtain⟨hp,hleast⟩:=Classical.choose_spec (dj hI)
 rw[<- hm]at hp
 obtain⟨g,hg,hr⟩:=hp
 refine wp_mono (round g _ _ _ _ _ _ hr) fun e a' w' ⟨s',h1,h2⟩=>?_
 cases e with
 |normal=>
  obtain⟨g',hlt,hw⟩:=h1
  have hr':=h2.weak hw
  have hI': ∃n,p a' w' n:=⟨_,g',rfl,hr'⟩
  refine⟨hI',?_⟩
  have hm':m a' w'=Classical.choose (dj hI'):=dif_pos hI'
  obtain⟨_,hl'⟩:=Classical.choose_spec (dj hI')
  have:=hl' (μ g') ⟨g',rfl,hr'⟩
  rw[hm']
  omega
 |_=>exact⟨s',h1,h2⟩
theorem lQ {G:Type} (St:G->AS) (μ:G->Nat) (g0:G) {id:Nat} {x:Code} (h0:dG s (St g0))
  (round: ∀g,jD P k x (lJ (fun s'=> ∃g',μ g'<μ g/\dG s' (St g')) (nA id Q)) (St g)):jD P k (.block id (.loop x)) Q s:=
 gT (DH St μ g0 h0 round)
theorem IH {items:List (eQ P)} (hI:gk P items) {ow:List Nat} {ops:Array Oper} {i:Nat} {v0:Value} {w0 w:World} {O X:Nat->Prop} {a:Act} (hrel:nn k v0 w0 O X s a w) {o:Oper} (hd:o.dst≠some k) (h:du P items ow ops i o s=some s') {K:Act->World->Prop} {Q:Exit->Act->World->Prop}
  (hK: ∀v w',nn k v0 w0 O X s' (a.put o.dst v) w'->K (a.put o.dst v) w'):if Region.wanted o (yielded ops a.tmps)then o.wp P a w K Q else K (a.put o.dst undef) w:=
 jo hI hrel.1 h fun v w' hr=>hK v w' ⟨hr,by rw[yT v hd];exact hrel.2⟩
theorem xP {ops:Array Oper} (h:qA k ops=true) {j:Nat} {o:Oper} (ho:ops[j]?=some o):o.dst≠some k:=by
 unfold qA at h
 rw[List.all_eq_true]at h
 have:=h o (List.mem_of_getElem? (by simpa using ho))
 simpa using this
theorem sW {items:List (eQ P)} (hI:gk P items) {ow:List Nat} {ops:Array Oper} (hk:qA k ops=true) {v0:Value} {w0:World} {O X:Nat->Prop} {Q:Exit->Act->World->Prop}: ∀(l:List Oper) (n:Nat) (s s':AS) (a:Act) (w:World),(∀(j:Nat) o,l[j]?=some o->ops[n+j]?=some o)->
  jy P items ow ops (l.zipIdx n) s=some s'->nn k v0 w0 O X s a w->(∀a' w',nn k v0 w0 O X s' a' w'->Q .normal a' w')->wpOps P ops Q (List.range' n l.length) a w
 |[],n,s,s',a,w,_,h,r,hQ=>by
  simp only[List.zipIdx_nil,jy]at h
  injection h with h
  subst h
  exact hQ a w r
 |o::l,n,s,s',a,w,hl,h,r,hQ=>by
  simp only[List.zipIdx_cons,jy]at h
  split at h
  ·rename_i s1 hs1
   simp only[List.length_cons,List.range'_succ,wpOps]
   have ho:ops[n]?=some o:=by have:=hl 0 o rfl;simpa using this
   rw[ho]
   simp only
   have:=IH (Q:=Q) hI r (xP hk ho) hs1 (K:=wpOps P ops Q (List.range' (n+1) l.length)) (fun v w' hr=>sW hI hk l (n+1) s1 s' _ _ (fun j o hj=>by have:=hl (j+1) o (by simpa using hj);rwa[show n+(j+1)=n+1+j by omega]at this) h hr hQ)
   split at this
   ·rename_i hw;rw[if_pos hw];exact .inl this
   ·rename_i hw;rw[if_neg hw];exact this
  ·cases h
theorem Ax (items:List (ar P)) (ow:List Nat) {id:Nat} {ops:Array Oper} (hk:qA k ops=true) (hl:s.tmps.length<=1000000) (h:eE P (items.map ar.a) ow (dC ops ops.toList 0) (some s) (Q .normal)):jD P k (.region id ops false) Q s:=fun v0 w0 O X a w r=>by
 obtain⟨s',h1,h2⟩:=dF P (items.map ar.a) ow ops ops.toList 0 s (Q .normal) hl h
 refine wp_region ?_
 rw[List.range_eq_range']
 have:=sW (ar.ok items) hk (Q:=fun e a' w'=> ∃s',Q e s'/\nn k v0 w0 O X s' a' w') ops.toList 0 s s' a w (fun j o hj=>by simpa using hj) h1 r (fun a' w' hr=>⟨s',h2,hr⟩)
 simpa using this
theorem DG (hmx:P.follows .mixedOrders=true) (items:List (ar P)) (ow:List Nat) {id:Nat} {ops:Array Oper} (hd:fV [] ops=true) (hk:qA k ops=true) (hl:s.tmps.length<=1000000) (h:eE P (items.map ar.a) ow (dC ops ops.toList 0) (some s) (Q .normal)):jD P k (.region id ops true) Q s:=fun v0 w0 O X a w r=>by
 obtain⟨sF,h1,h2⟩:=dF P (items.map ar.a) ow ops ops.toList 0 s (Q .normal) hl h
 refine wp_region_any hmx ?_
 have hF:ie P (items.map ar.a) ow ops (List.range ops.size) s=some sF:=by
  rw[List.range_eq_range']
  have:=mV (P:=P) (items:=items.map ar.a) (ow:=ow) ops.toList 0 s (fun j o hj=>by simpa using hj)
  rw[h1]at this
  simpa using this.symm
 have hr':nn k v0 w0 O X s a {w with drawn:=w.drawn+1}:=by
  obtain⟨⟨q1,q2,ρ,hinv,htm⟩,hs⟩:=r
  have e:Ext w {w with drawn:=w.drawn+1}:=⟨rfl,rfl,rfl,Nat.le_refl _,fun _ _=>rfl⟩
  have htm:di X ρ s a w:=htm
  exact⟨⟨q1,q2,ρ,hinv.grow e,htm.grow e⟩,hs⟩
 refine ny (sep:=[]) (rT hd (by simp)) hd (Q:=fun e a' w'=> ∃s',Q e s'/\nn k v0 w0 O X s' a' w') (fun _ s a w=>nn k v0 w0 O X s a w) ⟨l4 r.1,fun x hx=>by simp at hx⟩ hF (fun p a w hall hr=>⟨sF,h2,hr⟩) (fun p i o s s1 a w K ho hpi hs hr hK=>?_) ops.size (Array.replicate ops.size false) s a _ (by simp) ?_ ?_ ?_ hr'
 ·exact IH (ar.ok items) hr (xP hk ho) hs fun v w' hr'=>hK v w' hr'
 ·intro j o ho hp
  have hj:j<ops.size:=(Array.getElem?_eq_some_iff.1 ho).1
  simp[hj]at hp
 ·exact Nat.le_trans (List.length_filter_le _ _) (by simp)
 ·have:tb ops.size (fun j=>(Array.replicate ops.size false).getD j true)=[]:=by
   unfold tb
   rw[List.filter_eq_nil_iff]
   intro j hj
   have:=List.mem_range.1 hj
   simp[this]
  rw[this]
  rfl
theorem b6 (items:List (ar P)) (ow:List Nat) {id:Nat} {ops:Array Oper} {y:Code} (hk:qA k ops=true) (hl:s.tmps.length<=1000000) (h: ∀K:AS->Prop,(∀s',jD P k y Q s'->K s')->eE P (items.map ar.a) ow (dC ops ops.toList 0) (some s) K):jD P k (.seq (.region id ops false) y) Q s:=
 dD (Ax items ow hk hl (h _ fun _ h=>h))
theorem f5 (items:List (ar P)) (ow:List Nat) {id:Nat} {ops:Array Oper} (hk:qA k ops=true) (hl:s.tmps.length<=1000000) (h: ∀K:AS->Prop,(∀s',Q .normal s'->K s')->eE P (items.map ar.a) ow (dC ops ops.toList 0) (some s) K):jD P k (.region id ops false) Q s:=
 Ax items ow hk hl (h _ fun _ h=>h)
theorem i9 (hmx:P.follows .mixedOrders=true) (items:List (ar P)) (ow:List Nat) {id:Nat} {ops:Array Oper} {y:Code} (hd:fV [] ops=true) (hk:qA k ops=true) (hl:s.tmps.length<=1000000) (h: ∀K:AS->Prop,(∀s',jD P k y Q s'->K s')->eE P (items.map ar.a) ow (dC ops ops.toList 0) (some s) K):jD P k (.seq (.region id ops true) y) Q s:=
 dD (DG hmx items ow hd hk hl (h _ fun _ h=>h))
end
/-! The contract of a function that writes a row. -/
def rho1 (b c:Nat):gm:=fun a r=>if a=0/\r=0 then some (b,c)else none
structure qh (P:Program) (f:FuncId) (args:List TV) (k off len:Nat) (o o':OObj) (r:TV):Prop where
 able:callable P f=true
 es:o'.es=o.es
 size:o'.elems.length=o.elems.length
 pure: ∀e∈o'.elems,∀x∈e,isPure x=true
 noref:noRefTV r=true
 calls: ∀(X:Nat->Prop) (w:World) (vs:Array Value) (b c:Nat),(∀j,X j->j<w.heap.size)-> ¬X b->objRel (rho1 b c) (famH 0 [o]) (fun j=>X j\/j=b) w 0 0 o->vs.size=args.length->
  vs[k]?=some (.slice (some ⟨b,off*o.es,none⟩) len (c-off))->(∀(j:Nat) t,j≠k->args[j]?=some t-> ∃v:Value,vs[j]?=some v/\t.rel (fun _ _=>none) (fun _=>[]) (fun j=>X j\/j=b) w v)->
  Calls P f vs w fun e w'=> ∃v,e= .returned v/\But b w w'/\objRel (rho1 b c) (famH 0 [o']) (fun j=>X j\/j=b) w' 0 0 o'/\r.rel (rho1 b c) (famH 0 [o']) (fun j=>X j\/j=b) w' v
theorem La {X:Nat->Prop} {b c:Nat} {o:OObj}:Xo X (rho1 b c) (famH 0 [o])=fun j=>X j\/j=b:=by
 funext j
 apply propext
 constructor
 ·rintro(h|⟨a,r,o',c',h1,h2⟩)
  ·exact .inl h
  ·unfold rho1 at h2
   split at h2
   ·injection h2 with h2;injection h2 with h2 h3;exact .inr h2.symm
   ·cases h2
 ·rintro(h|rfl)
  ·exact .inl h
  ·exact .inr ⟨0,0,o,c,rfl,by simp[rho1]⟩
theorem qM {a r:Nat} {o o':OObj} (h:(famH 0 [o] a)[r]?=some o'):a=0/\r=0/\o'=o:=by
 unfold famH at h
 split at h
 ·rename_i ha
  cases r with
  |zero=>simp at h;exact⟨ha,rfl,h.symm⟩
  |succ r=>simp at h
 ·simp at h
theorem jP {ρ ρ':gm} {H H':OH} {Y:Nat->Prop} {w:World} {a r a' r':Nat} {o:OObj} (hp: ∀e∈o.elems,∀x∈e,isPure x=true) (h:objRel ρ H Y w a r o) (hρ:ρ' a' r'=ρ a r):objRel ρ' H' Y w a' r' o:=by
 obtain⟨h1,h2,h3⟩:=h
 refine⟨h1,h2,?_⟩
 rw[hρ]
 cases hr:ρ a r with
 |none=>rw[hr]at h3;exact h3
 |some bc=>
  obtain⟨b,c⟩:=bc
  rw[hr]at h3
  obtain⟨cells,g1,g2,g3,g4,g5⟩:=h3
  refine⟨cells,g1,g2,g3,g4,fun i e j x he hx=>?_⟩
  obtain⟨v,v1,v2,v3⟩:=g5 i e j x he hx
  refine⟨v,v1,v2,?_⟩
  have:=hp e (List.mem_of_getElem? he) x (List.mem_of_getElem? hx)
  cases x with
  |p x=>exact v3
  |_=>cases this
theorem mQ {ρ ρ':gm} {H H':OH} {Y:Nat->Prop} {w:World} {r:TV} {v:Value} (hn:noRefTV r=true) (h:r.rel ρ H Y w v):r.rel ρ' H' Y w v:=by
 have av: ∀x u,am x=true->AV.rel ρ H Y w x u->AV.rel ρ' H' Y w x u:=fun x u hx hu=>by
  cases x with
  |p x=>exact hu
  |junk=>trivial
  |_=>cases hx
 have agg: ∀cs v,cs.all am=true->dv ρ H Y w cs v->dv ρ' H' Y w cs v:=fun cs v hc ⟨vs,g1,g2,g3⟩=>by
  simp only[List.all_eq_true]at hc
  exact⟨vs,g1,g2,fun j x hx=>by obtain⟨u,u1,u2,u3⟩:=g3 j x hx;exact⟨u,u1,u2,av x u (hc x (List.mem_of_getElem? hx)) u3⟩⟩
 cases r with
 |one x=>exact av x v hn h
 |agg cs=>exact agg cs v hn h
 |fn f cs=>obtain⟨u,h1,h2⟩:=h;exact⟨u,agg cs u hn h1,h2⟩
 |tup ts=>
  simp only[noRefTV,List.all_eq_true]at hn
  obtain⟨vs,g1,g2,g3⟩:=h
  refine⟨vs,g1,g2,fun j c cs hj=>?_⟩
  obtain⟨u,u1,u2⟩:=g3 j c cs hj
  have hall:=hn (c,cs) (List.mem_of_getElem? hj)
  refine⟨u,u1,?_⟩
  rcases u2 with⟨u2,u3⟩|⟨u2,x,rfl,u4⟩
  ·exact .inl ⟨u2,agg _ _ (List.all_eq_true.2 hall) u3⟩
  ·exact .inr ⟨u2,x,rfl,av x u (hall x (by simp)) u4⟩
def KF (P:Program) (fn:Func) (k off len:Nat) (o':OObj) (r:TV) (s:AS):Prop:=
 s.tmps[k]?=some (.one (.sl 0 0 off len))/\s.H=famH 0 [o']/\bE P s fn.results.toList=some r
theorem rK {P:Program} {f:FuncId} {fn:Func} {c:Code} {args:List TV} {k off len:Nat} {o o':OObj} {r:TV} (hf:P.funcs[f]?=some fn) (hb:fn.body=some c) (hn:callable P f=true) (hk:k<args.length) (hlen:0<len) (hol:off+len<=o.elems.length) (hop: ∀e∈o.elems,∀x∈e,isPure x=true)
  (he:o'.es=o.es) (hs:o'.elems.length=o.elems.length) (hp: ∀e∈o'.elems,∀x∈e,isPure x=true) (hr:noRefTV r=true)
  (h:jD P k c (fun e s=>(e= .normal\/e= .ret)/\ ∃s',dG s s'/\KF P fn k off len o' r s') ⟨args.set k (.one (.sl 0 0 off len))++List.replicate (fn.ntmps-args.length) .undef,famH 0 [o]⟩):qh P f args k off len o o' r:=by
 refine⟨hn,he,hs,hp,hr,fun X w vs b cc hX hXb hobj hvs hvk hargs=>?_⟩
 refine calls_of_wp hf hb ?_
 have hXo:=La (X:=X) (b:=b) (c:=cc) (o:=o)
 have hblt:b<w.heap.size:=by
  obtain⟨_,_,q⟩:=hobj
  simp only[rho1,and_self,if_true]at q
  obtain⟨cells,q1,_⟩:=q
  exact(Array.getElem?_eq_some_iff.1 q1).1
 have hrel:nn k (.slice (some ⟨b,off*o.es,none⟩) len (cc-off)) w (fun j=>j=b) X ⟨args.set k (.one (.sl 0 0 off len))++List.replicate (fn.ntmps-args.length) .undef,famH 0 [o]⟩ {tmps:=vs++Array.replicate (fn.ntmps-vs.size) undef,defers:=[]} w:=by
  refine⟨⟨rfl,by simp[hvs],rho1 b cc,⟨Keep.refl w,fun a r o1 ho=>?_,fun a r a' r' o1 o2 b1 c1 c2 ho ho' _ _=>?_,fun a r o1 b1 c1 ho h1=>?_,hX,fun a r o1 ho=>?_⟩,fun t x hx=>?_⟩,?_⟩
  ·obtain⟨rfl,rfl,rfl⟩:=qM ho
   show objRel _ _ (Xo X (rho1 b cc) (famH 0 [o1])) w 0 0 o1
   rw[hXo];exact hobj
  ·obtain⟨rfl,rfl,_⟩:=qM ho
   obtain⟨rfl,rfl,_⟩:=qM ho'
   exact⟨rfl,rfl⟩
  ·obtain⟨rfl,rfl,_⟩:=qM ho
   simp only[rho1,and_self,if_true]at h1
   injection h1 with h1
   injection h1 with h1 h2
   subst h1
   exact⟨.inr rfl,hXb⟩
  ·obtain⟨rfl,rfl,rfl⟩:=qM ho
   exact eo hop
  ·show ∃v:Value,_/\x.rel (rho1 b cc) (famH 0 [o]) (Xo X (rho1 b cc) (famH 0 [o])) w v
   rw[hXo]
   by_cases ht:t<args.length
   ·rw[List.getElem?_append_left (by simpa using ht)]at hx
    by_cases htk:t=k
    ·subst htk
     rw[List.getElem?_set_self ht]at hx
     injection hx with hx
     subst hx
     exact⟨_,by rw[Array.getElem?_append_left (by omega)];exact hvk,o,rfl,hol,.inr ⟨b,cc,by simp[rho1],rfl⟩⟩
    ·rw[List.getElem?_set_ne (Ne.symm htk)]at hx
     obtain⟨v,v1,v2⟩:=hargs t x htk hx
     refine⟨v,by rw[Array.getElem?_append_left (by omega)];exact v1,TV.rel_map v2 (fun y u hy=>?_)⟩
     cases y with
     |p y=>exact hy
     |sl a r off len=>obtain⟨o,h1,_⟩:=hy;simp at h1
     |ptr a r i j=>obtain⟨o,_,_,h1,_⟩:=hy;simp at h1
     |junk=>trivial
   ·rw[List.getElem?_append_right (by simp;omega),List.getElem?_replicate]at hx
    split at hx
    ·rename_i hlt
     injection hx with hx
     subst hx
     refine⟨undef,?_,jm⟩
     simp at hlt
     rw[Array.getElem?_append_right (by omega),Array.getElem?_replicate,if_pos (by omega)]
    ·cases hx
  ·show(vs++_)[k]?=_
   rw[Array.getElem?_append_left (by omega)];exact hvk
 refine wp_mono (h _ _ _ _ _ _ hrel) fun e a' w' ⟨s1,⟨hee,s2,hw,hW1,hW2,hW3⟩,hrel1⟩=>?_
 obtain⟨⟨h1,hsz,ρ,hinv,htm⟩,hslot⟩:=hrel1.weak hw
 have htm:di X ρ s2 a' w':=htm
 rw[hW2]at hinv
 obtain⟨v,v1,v2⟩:=n9 (by rw[hW2];exact hinv) htm hW3
 rw[hW2]at v2
 -- the row has not moved
 obtain⟨u,u1,u2⟩:=htm k _ hW1
 rw[hslot]at u1
 injection u1 with u1
 subst u1
 obtain⟨o2,g1,g2,g3⟩:=u2
 rw[hW2]at g1
 obtain⟨_,_,rfl⟩:=qM g1
 have hρ:ρ 0 0=some (b,cc):=by
  rcases g3 with⟨_,g4,_,_⟩|⟨b',c',g4,g5⟩
  ·cases g4
  ·injection g5 with g5 g6 g7
   injection g5 with g5
   injection g5 with g5 g8
   subst g5
   have hobj2:=hinv.objs 0 0 o2 rfl
   obtain⟨q1,q2,q3⟩:=hobj2
   rw[g4]at q3
   obtain⟨cells,q4,q5,q6,_⟩:=q3
   obtain⟨p1,p2,p3⟩:=hobj
   simp only[rho1,and_self,if_true]at p3
   obtain⟨cells',p4,p5,p6,_⟩:=p3
   rw[g4,show c'=cc by omega]
 have hXo2:Xo X ρ (famH 0 [o2])=fun j=>X j\/j=b:=by
  funext j
  apply propext
  constructor
  ·rintro(h|⟨a,r,o3,c',h1,h2⟩)
   ·exact .inl h
   ·obtain⟨rfl,rfl,_⟩:=qM h1
    rw[hρ]at h2
    injection h2 with h2;injection h2 with h2 h3;exact .inr h2.symm
  ·rintro(h|rfl)
   ·exact .inl h
   ·exact .inr ⟨0,0,o2,cc,rfl,hρ⟩
 have hob:=hinv.objs 0 0 o2 rfl
 rw[hXo2]at hob
 rw[hXo2]at v2
 have hbut:But b w w':=⟨hinv.keep.os,hinv.keep.tape,hinv.keep.output,hinv.keep.size,fun j hj hne=>hinv.keep.block j hj hne⟩
 have hob1:objRel (rho1 b cc) (famH 0 [o2]) (fun j=>X j\/j=b) w' 0 0 o2:=by
  refine jP hp hob (by rw[hρ];simp[rho1])
 have hv1:r.rel (rho1 b cc) (famH 0 [o2]) (fun j=>X j\/j=b) w' v:=mQ hr v2
 rcases hee with rfl|rfl
 ·exact⟨h1,v,v1,v,rfl,hbut,hob1,hv1⟩
 ·exact⟨h1,v,v1,v,rfl,hbut,hob1,hv1⟩
end
section
def iQ:TV->Bool
 | .one (.p _)=>true
 | .agg cs=>cs.all isPure
 |_=>false
theorem sM {ρ ρ':gm} {H H':OH} {Y Y':Nat->Prop} {w:World} {t:TV} {v:Value} (hY:Y'=Y) (hn:iQ t=true) (h:t.rel ρ H Y w v):t.rel ρ' H' Y' w v:=by
 subst hY
 refine mQ ?_ h
 unfold iQ at hn
 split at hn
 ·rfl
 ·rename_i cs
  simp only[noRefTV,List.all_eq_true]at hn⊢
  intro x hx
  have:=hn x hx
  cases x<;>first|rfl|cases this
 ·cases hn
def oZ (k:Nat):Nat->List TV->Bool
 |_,[]=>true
 |i,t::l=>(i==k||iQ t)&&oZ k (i+1) l
theorem sK {k:Nat}: ∀{l:List TV} {i j:Nat} {t:TV},oZ k i l=true->i+j≠k->l[j]?=some t->iQ t=true
 |[],_,_,_,_,_,h=>by simp at h
 |u::l,i,0,t,h,hj,ht=>by
  simp at ht
  subst ht
  simp only[oZ,Bool.and_eq_true,Bool.or_eq_true,beq_iff_eq]at h
  exact h.1.resolve_left (fun e=>hj (by rw[e,Nat.add_zero]))
 |u::l,i,j+1,t,h,hj,ht=>by
  simp only[oZ,Bool.and_eq_true]at h
  exact sK (i:=i+1) (j:=j) h.2 (by omega) (by simpa using ht)
theorem n7 {k:Nat} {args:List TV} (h:oZ k 0 args=true): ∀(j:Nat) t,j≠k->args[j]?=some t->iQ t=true:=fun j t hj ht=>sK (i:=0) (j:=j) h (by omega) ht
theorem fj {α:Type} (f:α->List PV) (l:List α): ∀e∈lc f l,∀x∈e,isPure x=true:=fun e he x hx=>by
 simp only[lc,List.mem_map]at he
 obtain⟨y,_,rfl⟩:=he
 simp only[List.mem_map]at hx
 obtain⟨z,_,rfl⟩:=hx
 rfl
theorem vM (F:List OObj):Hm [(0,F)]=famH 0 F:=by funext x;simp[Hm,famH]
section
variable {P:Program} {s:AS} {a:Act} {w0 w:World} {O X:Nat->Prop}
theorem FZ (hrel:ik w0 O X s a w) {o:Oper} {c:Call} {f:FuncId} (ho:o.op= .call c) (hcal:c.callee= .value (.func f)) {args:List TV} {k off len fa fr:Nat} {o0 o':OObj} {r:TV} (hcon:qh P f args k off len o0 o' r) (hk:k<args.length) (hlen:0<len)
  (hev:aD s.ev c.args.toList=some (args.set k (.one (.sl fa fr off len)))) (hpure: ∀(j:Nat) t,j≠k->args[j]?=some t->iQ t=true) (hrow:(s.H fa)[fr]?=some o0) (hop: ∀e∈o0.elems,∀x∈e,isPure x=true) {K:Act->World->Prop} {Q:Exit->Act->World->Prop}
  (hK: ∀v w',ik w0 O X (AS.put ⟨s.tmps,aJ s.H fa ((s.H fa).set fr o')⟩ o.dst r) (a.put o.dst v) w'->K (a.put o.dst v) w'):o.wp P a w K Q:=by
 obtain⟨h1,hsz,ρ,hinv,htm⟩:=hrel
 have htm:di X ρ s a w:=htm
 obtain⟨e1,e2⟩:=fi hev
 have hk1:(args.set k (.one (.sl fa fr off len)))[k]?=some (.one (.sl fa fr off len)):=List.getElem?_set_self hk
 obtain⟨x,hx,hxt⟩:=e2 k _ hk1
 obtain⟨o1,g1,g2,g3⟩:=ew htm x _ hxt
 rw[hrow]at g1
 injection g1 with g1
 subst g1
 obtain⟨b,cc,hρ,hv⟩: ∃b cc,ρ fa fr=some (b,cc)/\a.eval x= .slice (some ⟨b,off*o0.es,none⟩) len (cc-off):=by
  rcases g3 with⟨_,_,g4,_⟩|g3
  ·omega
  ·exact g3
 have hob:=hinv.objs fa fr o0 hrow
 have hXb:Xo X ρ s.H b:= .inr ⟨fa,fr,o0,cc,hrow,hρ⟩
 have hset:(fun j=>(Xo X ρ s.H j/\j≠b)\/j=b)=Xo X ρ s.H:=by
  funext j
  apply propext
  constructor
  ·rintro(h|rfl)
   ·exact h.1
   ·exact hXb
  ·intro h
   by_cases hj:j=b
   ·exact .inr hj
   ·exact .inl ⟨h,hj⟩
 have hXlt: ∀j,Xo X ρ s.H j->j<w.heap.size:=fun b hb=>by
  rcases hb with hb|⟨x,y,o',n,g1,g2⟩
  ·exact hinv.bar b hb
  ·exact dB (hinv.objs x y o' g1) g2
 have hrun:=pe (w:=w) ho hcal (e:=a.eval) rfl hcon.able
 unfold Oper.wp
 rw[hrun]
 simp only[Oper.upon]
 have hsize:c.args.size=args.length:=by simpa using e1.symm
 refine(hcon.calls (fun j=>Xo X ρ s.H j/\j≠b) w (c.args.map a.eval) b cc (fun j hj=>hXlt j hj.1) (fun h=>h.2 rfl) ?_ (by simp[hsize]) ?_ ?_).mono ?_
 ·rw[hset]
  exact jP hop hob (by simp[rho1,hρ])
 ·rw[Array.getElem?_map]
  have:c.args[k]?=some x:=by simpa using hx
  rw[this]
  exact congrArg some hv
 ·intro j t hj ht
  rw[hset]
  have ht2:(args.set k (.one (.sl fa fr off len)))[j]?=some t:=by rw[List.getElem?_set_ne (Ne.symm hj)];exact ht
  obtain⟨y,hy,hyt⟩:=e2 j t ht2
  refine⟨a.eval y,?_,sM rfl (hpure j t hj ht) (ew htm y t hyt)⟩
  rw[Array.getElem?_map]
  have:c.args[j]?=some y:=by simpa using hy
  rw[this];rfl
 ·rintro e w1 ⟨v,rfl,hbut,hob1,hr1⟩
  show K (a.put o.dst v) w1
  refine hK v w1 ?_
  rw[hset]at hob1 hr1
  have hfr:=(List.getElem?_eq_some_iff.1 hrow).1
  have hnew: ∀(x y:Nat) o1,(aJ s.H fa ((s.H fa).set fr o') x)[y]?=some o1->(x=fa/\y=fr/\o1=o')\/(¬(x=fa/\y=fr)/\(s.H x)[y]?=some o1):=fun x y o1 h=>by
   by_cases hx:x=fa
   ·subst hx
    rw[cz]at h
    by_cases hy:y=fr
    ·subst hy
     rw[List.getElem?_set_self hfr]at h
     injection h with h
     exact .inl ⟨rfl,rfl,h.symm⟩
    ·rw[List.getElem?_set_ne (Ne.symm hy)]at h
     exact .inr ⟨fun h=>hy h.2,h⟩
   ·rw[bO hx]at h
    exact .inr ⟨fun h=>hx h.1,h⟩
  have hlive: ∀(x y:Nat) o1,(s.H x)[y]?=some o1-> ∃o2,(aJ s.H fa ((s.H fa).set fr o') x)[y]?=some o2/\o2.es=o1.es/\o1.elems.length<=o2.elems.length/\ρ x y=ρ x y:=fun x y o1 h=>by
   by_cases hx:x=fa
   ·subst hx
    by_cases hy:y=fr
    ·subst hy
     rw[hrow]at h
     injection h with h
     subst h
     exact⟨o',by rw[cz,List.getElem?_set_self hfr],hcon.es,by rw[hcon.size];exact Nat.le_refl _,rfl⟩
    ·exact⟨o1,by rw[cz,List.getElem?_set_ne (Ne.symm hy)];exact h,rfl,Nat.le_refl _,rfl⟩
   ·exact⟨o1,by rw[bO hx];exact h,rfl,Nat.le_refl _,rfl⟩
  have hback: ∀(x y:Nat) o1,(aJ s.H fa ((s.H fa).set fr o') x)[y]?=some o1-> ∃o2,(s.H x)[y]?=some o2:=fun x y o1 h=>by
   rcases hnew x y o1 h with⟨rfl,rfl,_⟩|⟨_,h⟩
   ·exact⟨o0,hrow⟩
   ·exact⟨o1,h⟩
  have hXo:Xo X ρ (aJ s.H fa ((s.H fa).set fr o'))=Xo X ρ s.H:=by
   funext j
   apply propext
   constructor
   ·rintro(h|⟨x,y,o1,n,h1,h2⟩)
    ·exact .inl h
    ·obtain⟨o2,h3⟩:=hback x y o1 h1
     exact .inr ⟨x,y,o2,n,h3,h2⟩
   ·rintro(h|⟨x,y,o1,n,h1,h2⟩)
    ·exact .inl h
    ·obtain⟨o2,h3,_⟩:=hlive x y o1 h1
     exact .inr ⟨x,y,o2,n,h3,h2⟩
  have mono: ∀x u,AV.rel ρ s.H (Xo X ρ s.H) w x u->AV.rel ρ (aJ s.H fa ((s.H fa).set fr o')) (Xo X ρ (aJ s.H fa ((s.H fa).set fr o'))) w1 x u:=fun x u hx=>
   kd hXb hbut hlive (fun x y o1 b' c' h1 h2 _=>by
    obtain⟨o2,h3⟩:=hback x y o1 h1
    exact .inr ⟨x,y,o2,c',h3,h2⟩) hx
  have hinv':i7 w0 O X (aJ s.H fa ((s.H fa).set fr o')) ρ w1:=by
   refine⟨hinv.keep.but hbut (hinv.old fa fr o0 b cc hrow hρ).1,fun x y o1 h=>?_,fun x y x' y' o1 o2 j c1 c2 h h' q q'=>?_,fun x y o1 j c1 h q=>?_,fun j hj=>Nat.lt_of_lt_of_le (hinv.bar j hj) hbut.size,fun x y o1 h=>?_⟩
   ·rcases hnew x y o1 h with⟨rfl,rfl,rfl⟩|⟨hne,h⟩
    ·rw[hXo]
     exact jP hcon.pure hob1 (by simp[rho1,hρ])
    ·refine fk (hinv.objs x y o1 h) rfl (fun j c1 hj=>?_) mono
     refine hbut.block j (dB (hinv.objs x y o1 h) hj) ?_
     rintro rfl
     exact hne (hinv.inj x y fa fr o1 o0 j c1 cc h hrow hj hρ)
   ·obtain⟨o3,h3⟩:=hback x y o1 h
    obtain⟨o4,h4⟩:=hback x' y' o2 h'
    exact hinv.inj x y x' y' o3 o4 j c1 c2 h3 h4 q q'
   ·obtain⟨o3,h3⟩:=hback x y o1 h
    exact hinv.old x y o3 j c1 h3 q
   ·rcases hnew x y o1 h with⟨rfl,rfl,rfl⟩|⟨hne,h⟩
    ·exact eo hcon.pure
    ·exact hinv.self x y o1 h
  have htm':di X ρ ⟨s.tmps,aJ s.H fa ((s.H fa).set fr o')⟩ a w1:=fun t x hx=>by
   obtain⟨u,u1,u2⟩:=htm t x hx
   exact⟨u,u1,TV.rel_map u2 mono⟩
  refine⟨by rw[jx];exact h1,by rw[mb,fp];exact hsz,ρ,by rw[jw];exact hinv',sP hsz htm' ?_⟩
  show r.rel ρ (aJ s.H fa ((s.H fa).set fr o')) (Xo X ρ (aJ s.H fa ((s.H fa).set fr o'))) w1 v
  rw[hXo]
  exact mQ hcon.noref hr1
def cwTs (ops:Array Oper) (m:Nat) (s:AS):Option (FuncId×List TV):=match ops[m]? with
 |some o=>match o.guard,o.op with
  |none,.call c=>match c.callee with
   | .value (.func f)=>match aD s.ev c.args.toList with
    |some ts=>some (f,ts)
    |none=>none
   |_=>none
  |_,_=>none
 |none=>none
def cwD (ops:Array Oper) (m:Nat):Option Tmp:=(ops[m]?).bind (·.dst)
def Cl (ops:Array Oper) (m:Nat) (r:TV) (fa fr:Nat) (o':OObj) (s:AS):AS:=AS.put ⟨s.tmps,aJ s.H fa ((s.H fa).set fr o')⟩ (cwD ops m) r
structure IN (ops:Array Oper) (m:Nat) (f:FuncId) (args:List TV) (k off len fa fr:Nat) (o0:OObj) (s:AS):Prop where
 ts:cwTs ops m s=some (f,args.set k (.one (.sl fa fr off len)))
 row:(s.H fa)[fr]?=some o0
theorem tW (m:Nat) {f:FuncId} {args:List TV} {k off len:Nat} {o0 o':OObj} {r:TV} (hcon:qh P f args k off len o0 o' r) (fa fr:Nat) (items:List (ar P)) (ow:List Nat) {id:Nat} {ops:Array Oper} {Q:Exit->AS->Prop} (hk:k<args.length) (hlen:0<len) (hpure: ∀(j:Nat) t,j≠k->args[j]?=some t->iQ t=true) (hop: ∀e∈o0.elems,∀x∈e,isPure x=true) (hl:s.tmps.length<=1000000) (hm:m<ops.toList.length)
  (h:eE P (items.map ar.a) ow (dC ops (ops.toList.take m) 0) (some s) (fun s1=>IN ops m f args k off len fa fr o0 s1/\s1.tmps.length<=1000000/\eE P (items.map ar.a) ow (dC ops (ops.toList.drop (m+1)) (m+1)) (some (Cl ops m r fa fr o' s1)) (Q .normal))):bT P (.region id ops false) Q s:=fun w0 O X a w r0=>by
 obtain⟨s1,h1,⟨q1,q2⟩,hl1,h2⟩:=dF P (items.map ar.a) ow ops _ 0 s _ hl h
 obtain⟨s',h3,h4⟩:=dF P (items.map ar.a) ow ops _ (m+1) _ _ (by unfold Cl;rw[fp];exact hl1) h2
 obtain⟨o,ho⟩: ∃o,ops[m]?=some o:=⟨ops[m],by simp at hm;simp[hm]⟩
 unfold cwTs at q1
 rw[ho]at q1
 simp only at q1
 split at q1
 ·rename_i c hg hop1
  split at q1
  ·rename_i f' hcal
   split at q1
   ·rename_i ts hts
    injection q1 with q1
    injection q1 with q1 q3
    subst q1 q3
    refine wp_region ?_
    have hsz:ops.size=(ops.toList.take m).length+(1+(ops.toList.drop (m+1)).length):=by simp at hm⊢;omega
    rw[hsz,List.range_eq_range',<- List.range'_append_1,Nat.zero_add]
    have hml:(ops.toList.take m).length=m:=by rw[List.length_take];omega
    refine mf (ar.ok items) (ops.toList.take m) 0 s s1 a w (fun j o hj=>?_) h1 r0 fun a' w' r'=>?_
    ·rw[List.getElem?_take]at hj
     split at hj
     ·simpa using hj
     ·cases hj
    ·rw[hml,Nat.add_comm 1,List.range'_succ]
     simp only[wpOps,ho]
     rw[if_pos (by simp[Region.wanted,hg])]
     refine .inl (FZ r' hop1 hcal hcon hk hlen hts hpure q2 hop fun v w1 hr1=>?_)
     refine iy (ar.ok items) (Q:=fun e a' w'=> ∃s',Q e s'/\ik w0 O X s' a' w') (ops.toList.drop (m+1)) (m+1) _ s' _ _ (fun j o hj=>?_) h3 ?_ (fun a' w' hr=>⟨s',h4,hr⟩)
     ·rw[List.getElem?_drop]at hj
      simpa using hj
     ·have:cwD ops m=o.dst:=by unfold cwD;rw[ho];rfl
      unfold Cl
      rw[this]
      exact hr1
   ·cases q1
  ·cases q1
 ·cases q1
theorem rA (m:Nat) {f:FuncId} {args:List TV} {k off len:Nat} {o0 o':OObj} {r:TV} (hcon:qh P f args k off len o0 o' r) (fa fr:Nat) (items:List (ar P)) (ow:List Nat) {id:Nat} {ops:Array Oper} {y:Code} {Q:Exit->AS->Prop} (hk:k<args.length) (hlen:0<len) (hpure: ∀(j:Nat) t,j≠k->args[j]?=some t->iQ t=true) (hop: ∀e∈o0.elems,∀x∈e,isPure x=true) (hl:s.tmps.length<=1000000) (hm:m<ops.toList.length)
  (h: ∀K:AS->Prop,(∀s1,(IN ops m f args k off len fa fr o0 s1/\s1.tmps.length<=1000000/\ ∀K:AS->Prop,(∀s',bT P y Q s'->K s')->eE P (items.map ar.a) ow (dC ops (ops.toList.drop (m+1)) (m+1)) (some (Cl ops m r fa fr o' s1)) K)->K s1)->eE P (items.map ar.a) ow (dC ops (ops.toList.take m) 0) (some s) K):bT P (.seq (.region id ops false) y) Q s:=
 ae (tW m hcon fa fr items ow hk hlen hpure hop hl hm (h _ fun s1 ⟨q1,q2,q3⟩=>⟨q1,q2,q3 _ fun _ h=>h⟩))
theorem yO (m:Nat) {f:FuncId} {args:List TV} {k off len:Nat} {o0 o':OObj} {r:TV} (hcon:qh P f args k off len o0 o' r) (fa fr:Nat) (items:List (ar P)) (ow:List Nat) {id:Nat} {ops:Array Oper} {Q:Exit->AS->Prop} (hk:k<args.length) (hlen:0<len) (hpure: ∀(j:Nat) t,j≠k->args[j]?=some t->iQ t=true) (hop: ∀e∈o0.elems,∀x∈e,isPure x=true) (hl:s.tmps.length<=1000000) (hm:m<ops.toList.length)
  (h: ∀K:AS->Prop,(∀s1,(IN ops m f args k off len fa fr o0 s1/\s1.tmps.length<=1000000/\ ∀K:AS->Prop,(∀s',Q .normal s'->K s')->eE P (items.map ar.a) ow (dC ops (ops.toList.drop (m+1)) (m+1)) (some (Cl ops m r fa fr o' s1)) K)->K s1)->eE P (items.map ar.a) ow (dC ops (ops.toList.take m) 0) (some s) K):bT P (.region id ops false) Q s:=
 tW m hcon fa fr items ow hk hlen hpure hop hl hm (h _ fun s1 ⟨q1,q2,q3⟩=>⟨q1,q2,q3 _ fun _ h=>h⟩)
end
end
theorem tD {a s:Nat} (h:a*2^s<18446744073709551616) (hs:s<=64):IntKind.u64.wrap ((a:Int)*2^(min s IntKind.u64.bits))=((a*2^s:Nat):Int):=by
 rw[show min s IntKind.u64.bits=s from Nat.min_eq_left hs,IntKind.wrap_u64]
 have e:(a:Int)*2^s=((a*2^s:Nat):Int):=by simp
 rw[e]
 omega
theorem An {a s:Nat} (hs:s<=64):Int.fdiv (a:Int) (2^(min s IntKind.u64.bits))=((a/2^s:Nat):Int):=by
 rw[show min s IntKind.u64.bits=s from Nat.min_eq_left hs]
 have e:(2:Int)^s=((2^s:Nat):Int):=by simp
 rw[e,Int.fdiv_eq_ediv_of_nonneg _ (Int.natCast_nonneg _)]
 simp
theorem oN (m:List Nat) (s:Nat) (lm:Lmb m) (hs:s<32) (bm:m.length<=536870912):CallC Tryz.prog 148 [ca m,.raw (.int .i64 (s:Int))] ⟨[⟨118,1,lc fU (cL (m.length+1) (natV m*2^s))⟩],.one (.sl 0 0 0 (m.length+1))⟩:=by
 have hp:=xX hs
 have ep:(m.length:Int)+1=((m.length+1:Nat):Int):=by omega
 refine ax Tryz.func148 rfl (by kernel_rfl) ?_;rw[Tryz.ntmps148]
 (refine aa [] fun K hK=>?_;simp(disch:=omega) only[kc,ab,ca,Nat.reduceAdd,List.replicate,ac,Value.oneCell'];apply hK)
 (refine aa [] fun K hK=>?_;simp(disch:=omega) only[kc,ab,Nat.reduceAdd,aw,au,an,aR,ak,ac,Value.oneCell',ah,ep,bC,bZ,aN,aC,dn,bs,eA,Int.natCast_nonneg,and_true,kZ,bH];apply hK)
 (refine aa [] fun K hK=>?_;simp(disch:=omega) only[kc,ab,ac,Value.oneCell'];apply hK)
 (refine ae (aa [] fun K hK=>?_);simp(disch:=omega) only[kc,ab,Nat.reduceAdd,aw,au,an,aR,ac,Value.oneCell'];apply hK)
 refine bD (G:=mz m.length) (fun g=>⟨[ca m,.raw (.int .i64 (s:Int)),jk,jk,jk,.one (.sl 12 0 0 (m.length+1)),.raw (.int .u64 (tf m s g.i:Nat)),jk,jk,jk,jk,jk,jk,ca m,.raw (.int .i64 (m.length:Int)),.raw (.int .i64 (g.i:Int)),jk,jk,jk,jk,jk,jk,jk,jk,jk,jk,jk,jk,jk,jk,jk,jk,jk,jk,jk,jk,jk,jk,jk,jk,jk],Hm [(12,[⟨118,1,lc fU (cL g.i (natV m*2^s)++List.replicate (m.length+1-g.i) 0)⟩])]⟩) (fun g=>m.length-g.i) ⟨0,by omega⟩ ?_ ?_
 ·refine aj ⟨?_,trivial⟩ ?_
  ·simp[aJ,Hm,cL]
  ·simp[b9,bo,bj,tf,natV]
 ·rintro⟨i,hi⟩
  simp only
  have hcl:=JG lm s i
  by_cases hm:i<m.length
  ·obtain⟨a,ha⟩:=getElem?_of_lt hm
   have ha':=dp lm ha
   obtain⟨k1,k2⟩:=If (s:=s) ha
   have hlow:=JH (m:=m) (s:=s) (i:=i+1) (j:=i) (by omega) (by omega)
   rw[<- k1]at hlow
   have hmul:a*2^s<=4294967295*2147483648:=Nat.mul_le_mul (by omega) hp.1
   have e1:=tD (a:=a) (s:=s) (by omega) (by omega)
   have e2:=v8 (tf m s i) (a*2^s) (by omega) (by omega)
   rw[ra a (tf m s i) s hcl]at e2
   have e3:IntKind.u32.wrap ((a*2^s+tf m s i:Nat):Int)=((natV m*2^s/4294967296^i%4294967296:Nat):Int):=by rw[rp,Nat.add_comm,hlow]
   have e4:Int.fdiv ((a*2^s+tf m s i:Nat):Int) (2^(min 32 IntKind.u64.bits))=((tf m s (i+1):Nat):Int):=by rw[Dc,Nat.add_comm,k2]
   have hz:m.length+1-i=(m.length-i)+1:=by omega
   have hg:=pX (cL i (natV m*2^s)) (m.length-i)
   have hset:=oa (cL i (natV m*2^s)) (m.length-i) (natV m*2^s/4294967296^i%4294967296)
   rw[cK]at hg hset
   rw[<- uN]at hset
   rw[hz]
   obtain⟨c1,hc1⟩: ∃c1,c1=tf m s (i+1):=⟨_,rfl⟩
   obtain⟨P1,hP1⟩: ∃P1,P1=cL (i+1) (natV m*2^s):=⟨_,rfl⟩
   rw[<- hc1]at e4
   rw[<- hP1]at hset
   clear k1 k2 hlow
   generalize tf m s i=c0 at*
   generalize natV m*2^s/4294967296^i%4294967296=dg at*
   generalize cL i (natV m*2^s)=P0 at*
   generalize hal:a*2^s=al at*
   (refine aa [] fun K hK=>?_;simp(disch:=omega) only[kc,ab,ca,Hm,ak,ah,bA];apply hK)
   refine ae (af rfl (fun _=>aq ?_) (fun h=>by simp at h<;>omega))
   refine ae (aI ?_)
   (refine aa [] fun K hK=>?_;simp(disch:=omega) only[kc,ab,Nat.reduceAdd,ag,au,ao,an,bG,ha,fU,bs,aA,bN];apply hK)
   (refine aa [] fun K hK=>?_;simp(disch:=omega) only[kc,ab,Nat.reduceAdd,bF,ak,Tryz.underlying118,cn,dS,ah,Int.natCast_nonneg,e1,e2];apply hK)
   (refine aa [] fun K hK=>?_;simp(disch:=omega) only[kc,ab,Nat.reduceAdd,bF,ak,Tryz.underlying88,cJ,e3,ag,au,ao,an,bs,bH,az,df,bJ,cb,fU,hg,cellsOf,Nat.le_refl,isPure,putCells,eh,hset,aS,aT];apply hK)
   ((refine aU [] [] (by simp) fun K hK=>?_);simp(disch:=omega) only[kc,ab,Nat.reduceAdd,ak,ac,Value.oneCell',ah,Int.reduceLE,Int.reduceToNat,e4];apply hK)
   show bT _ _ _ _
   ((refine aU [] [] (by simp) fun K hK=>?_);simp(disch:=omega) only[kc,ab,ak,ac,Value.oneCell',ah,bC];apply hK)
   refine⟨⟨i+1,by omega⟩,by simp only;omega,aj ⟨?_,trivial⟩ ?_⟩
   ·show _=[(⟨_,_,lc fU (cL (i+1) (natV m*2^s)++List.replicate (m.length+1-(i+1)) 0)⟩:OObj)]
    rw[show m.length+1-(i+1)=m.length-i by omega,<- hP1];rfl
   ·simp[b9,bo,bj,hc1]
  ·have hie:i=m.length:=by omega
   subst hie
   have hc:tf m s m.length=natV m*2^s/4294967296^m.length:=by unfold tf;rw[List.take_length]
   have hd:tf m s m.length%4294967296=tf m s m.length:=Nat.mod_eq_of_lt (by omega)
   have e3:IntKind.u32.wrap ((tf m s m.length:Nat):Int)=((natV m*2^s/4294967296^m.length%4294967296:Nat):Int):=by rw[rp,hc]
   have hz:m.length+1-m.length=0+1:=by omega
   have hg:=pX (cL m.length (natV m*2^s)) 0
   have hset:=oa (cL m.length (natV m*2^s)) 0 (natV m*2^s/4294967296^m.length%4294967296)
   rw[cK]at hg hset
   rw[<- uN,List.replicate_zero,List.append_nil]at hset
   rw[hz]
   clear hc hd
   generalize cL (m.length+1) (natV m*2^s)=R at*
   generalize cL m.length (natV m*2^s)=P0 at*
   generalize natV m*2^s/4294967296^m.length%4294967296=dg at*
   generalize tf m s m.length=c0 at*
   (refine aa [] fun K hK=>?_;simp(disch:=omega) only[kc,ab,ca,Hm,ak,ah,bf];apply hK)
   refine ae (af rfl (fun h=>by simp at h<;>omega) (fun _=>bv ?_))
   show bT _ _ _ _
   (refine aa [] fun K hK=>?_;simp(disch:=omega) only[kc,ab,Nat.reduceAdd,aw,au,an,aR,bF,ak,Tryz.underlying88,cJ,e3,ag,ao,bs,bH,az,df,bJ,cb,fU,hg,cellsOf,Nat.le_refl,isPure,putCells,eh,hset,aS,aT];apply hK)
   (refine aa [] fun K hK=>?_;simp(disch:=omega) only[kc,ab];apply hK)
   refine ay ⟨.inr rfl,_,dG.refl _,?_⟩
   refine⟨.one (.sl 12 0 0 (m.length+1)),12,?_,rfl,?_,rfl⟩
   ·simp(disch:=omega) only[bE,Tryz.results148,aP,List.getElem?_cons_succ,List.getElem?_cons_zero]
   ·show _=[_]
    simp[dm,pL]
def De (l:List Nat) (b i:Nat):List Nat:=l.take i++cL (l.length-i) (natV (l.drop i)/b)
theorem H8 (l:List Nat) (b:Nat) {i:Nat} (h:i<=l.length):(De l b i).length=l.length:=by simp[De,cK];omega
theorem qN (l:List Nat) (b:Nat) (ll:Lmb l) (hb:0<b) (hb':b<4294967296) (hl:0<l.length) (bl:l.length<=536870912):
  qh Tryz.prog 146 [.undef,.raw (.int .u32 (b:Int))] 0 0 l.length ⟨118,1,lc fU l⟩ ⟨118,1,lc fU (cL l.length (natV l/b))⟩ (.raw (.int .u32 ((natV l%b:Nat):Int))):=by
 refine rK Tryz.func146 rfl (by kernel_rfl) (by simp) hl (by simp[lc]) (fj _ _) rfl (by simp[lc,cK]) (fj _ _) rfl ?_
 rw[Tryz.ntmps146]
 (refine b6 [] [] (by kernel_rfl) (by simp) fun K hK=>?_;simp(disch:=omega) only[kc,ab,Nat.reduceAdd,List.replicate,ac,Value.oneCell'];apply hK)
 (refine b6 [] [] (by kernel_rfl) (by simp) fun K hK=>?_;simp(disch:=omega) only[kc,ab,ac,Value.oneCell'];apply hK)
 have e0:(l.length:Int)-1=(l.length:Int)-1:=rfl
 (refine dD (b6 [] [] (by kernel_rfl) (by simp) fun K hK=>?_);simp(disch:=omega) only[kc,ab,Nat.reduceAdd,aw,au,an,ak,ac,Value.oneCell',ah,bC];apply hK)
 refine lQ (G:=mz l.length) (fun g=>⟨[.one (.sl 0 0 0 l.length),.raw (.int .u32 (b:Int)),jk,jk,jk,.raw (.int .u64 ((natV (l.drop g.i)%b:Nat):Int)),.raw (.int .i64 ((g.i:Int)-1)),jk,jk,jk,jk,jk,jk,jk,jk,jk,jk,jk,jk,jk,jk,jk,jk,jk,jk,jk,jk,jk,jk,jk,jk,jk,jk,jk,jk,jk],Hm [(0,[⟨118,1,lc fU (De l b g.i)⟩])]⟩) (fun g=>g.i) ⟨l.length,by omega⟩ ?_ ?_
 ·refine aj ⟨?_,trivial⟩ ?_
  ·simp[De,cL,famH]
  ·simp[b9,bo,bj,natV]
 ·rintro⟨i,hi⟩
  simp only
  by_cases h0:0<i
  ·obtain⟨j,rfl⟩: ∃j,i=j+1:=⟨i-1,by omega⟩
   obtain⟨a,ha⟩:=getElem?_of_lt (l:=l) (k:=j) (by omega)
   have ha':=dp ll ha
   have ej:((j+1:Nat):Int)-1=(j:Int):=by omega
   obtain⟨q1,q2⟩:=H9 (b:=b) rfl (show j<l.length by omega) ha ha' hb
   have hlen:=H8 l b hi
   have hget:(De l b (j+1))[j]?=some a:=by
    unfold De
    rw[List.getElem?_append_left (by simp;omega),List.getElem?_take,if_pos (by omega),ha]
   change (De l b (j+1)).set j _=De l b j at q1
   have hr:=Nat.mod_lt (natV (l.drop (j+1))) hb
   generalize natV (l.drop (j+1))%b=r at*
   obtain⟨r',hr'⟩: ∃r',r'=natV (l.drop j)%b:=⟨_,rfl⟩
   rw[<- hr']at q2
   have hcast:((natV (l.drop j):Nat):Int)%(b:Int)=(r':Int):=by rw[hr'];simp
   have e1:=tD (a:=r) (s:=32) (by omega) (by omega)
   have e2:=v8 (r*2^32) a (by omega) (by omega)
   rw[pO r a 32 (by omega),show r*2^32+a=r*4294967296+a from rfl]at e2
   have e3:Int.tdiv ((r*4294967296+a:Nat):Int) (b:Int)=(((r*4294967296+a)/b:Nat):Int):=(Int.ofNat_tdiv _ _).symm
   have e4:Int.tmod ((r*4294967296+a:Nat):Int) (b:Int)=(r':Int):=by rw[<- q2];exact(Int.ofNat_tmod _ _).symm
   have hq:(r*4294967296+a)/b<4294967296:=by
    rw[Nat.div_lt_iff_lt_mul hb]
    have:(r+1)*4294967296<=b*4294967296:=Nat.mul_le_mul_right _ (by omega)
    omega
   generalize(r*4294967296+a)/b=qd at*
   have e5:IntKind.u64.wrap (qd:Int)=(qd:Int):=by rw[IntKind.wrap_u64];omega
   have e6:IntKind.u32.wrap (qd:Int)=(qd:Int):=by rw[IntKind.wrap_u32];omega
   generalize De l b (j+1)=S at*
   obtain⟨S',hS'⟩: ∃S',S'=De l b j:=⟨_,rfl⟩
   rw[<- hS']at q1
   (refine dD (b6 [] [] (by kernel_rfl) (by simp) fun K hK=>?_);simp(disch:=omega) only[kc,ab,ej,Hm,ak,ac,Value.oneCell',ah,Int.natCast_nonneg,bA];apply hK)
   refine dJ rfl (fun _=>f7 ?_) (fun h=>by simp at h<;>omega)
   refine dD (gT ?_)
   (refine b6 [] [] (by kernel_rfl) (by simp) fun K hK=>?_;simp(disch:=omega) only[kc,ab,Nat.reduceAdd,ak,ac,Value.oneCell',ah,Int.reduceLE,Int.reduceToNat,e1,ag,au,ao,an,bs,bH,cb,fU,hget,aA,bN,bF,Tryz.underlying118,cn,dS,e2];apply hK)
   (refine b6 [] [] (by kernel_rfl) (by simp) fun K hK=>?_;simp(disch:=omega) only[kc,ab,Nat.reduceAdd,bF,ak,Tryz.underlying118,cn,dS,ah,e3,e5,bH,Tryz.underlying88,cJ,e6,ag,au,ao,an,bs,az,df,bJ,cb,fU,hget,cellsOf,Nat.le_refl,isPure,putCells,eh,q1,aS,aT];apply hK)
   ((refine f5 [] [] (by kernel_rfl) (by simp) fun K hK=>?_);simp(disch:=omega) only[kc,ab,Nat.reduceAdd,bF,ak,Tryz.underlying118,cn,dS,ah,e4,bH];apply hK)
   show jD _ _ _ _ _
   ((refine f5 [] [] (by kernel_rfl) (by simp) fun K hK=>?_);simp(disch:=omega) only[kc,ab,Nat.reduceAdd,ak,ac,Value.oneCell',ah,bC];apply hK)
   refine⟨⟨j,by omega⟩,by simp only;omega,aj ⟨?_,trivial⟩ ?_⟩
   ·show _=[(⟨_,_,lc fU (De l b j)⟩:OObj)]
    rw[<- hS'];rfl
   ·simp[b9,bo,bj,hcast]
  ·have hi0:i=0:=by omega
   subst hi0
   have hr:natV l%b<4294967296:=Nat.lt_trans (Nat.mod_lt _ hb) hb'
   have hS:De l b 0=cL l.length (natV l/b):=by simp[De]
   rw[hS,List.drop_zero]
   generalize natV l%b=r at*
   generalize cL l.length (natV l/b)=S at*
   have e6:IntKind.u32.wrap (r:Int)=(r:Int):=by rw[IntKind.wrap_u32];omega
   (refine dD (b6 [] [] (by kernel_rfl) (by simp) fun K hK=>?_);simp(disch:=omega) only[kc,ab,Hm,ak,ac,Value.oneCell',ah,bf];apply hK)
   refine dJ rfl (fun h=>by simp at h<;>omega) (fun _=>iE ?_)
   show jD _ _ _ _ _
   (refine b6 [] [] (by kernel_rfl) (by simp) fun K hK=>?_;simp(disch:=omega) only[kc,ab,Nat.reduceAdd,bF,ak,Tryz.underlying88,cJ,e6];apply hK)
   refine vi ⟨.inr rfl,_,dG.refl _,rfl,vM _,?_⟩
   simp(disch:=omega) only[bE,Tryz.results146,aP,List.getElem?_cons_succ,List.getElem?_cons_zero]
def yp (l:List Nat) (s i:Nat):List Nat:=(cL l.length (natV l/2^s)).take i++l.drop i
theorem Ig (l:List Nat) (s:Nat) {i:Nat} (h:i<=l.length):(yp l s i).length=l.length:=by simp[yp,cK];omega
theorem BB {l:List Nat} {s i j a:Nat} (hi:i<=j) (h:l[j]?=some a):(yp l s i)[j]?=some a:=by
 have hj:=(List.getElem?_eq_some_iff.1 h).1
 unfold yp
 have e:((cL l.length (natV l/2^s)).take i).length=i:=by simp[cK];omega
 rw[List.getElem?_append_right (by omega),e,List.getElem?_drop,show i+(j-i)=j by omega,h]
theorem tP (l:List Nat) (s:Nat) (ll:Lmb l) (hs:s<32) (hl:0<l.length) (bl:l.length<=536870912):
  qh Tryz.prog 150 [.undef,.raw (.int .i64 (s:Int))] 0 0 l.length ⟨118,1,lc fU l⟩ ⟨118,1,lc fU (cL l.length (natV l/2^s))⟩ (.tup []):=by
 refine rK Tryz.func150 rfl (by kernel_rfl) (by simp) hl (by simp[lc]) (fj _ _) rfl (by simp[lc,cK]) (fj _ _) rfl ?_
 rw[Tryz.ntmps150]
 (refine b6 [] [] (by kernel_rfl) (by simp) fun K hK=>?_;simp(disch:=omega) only[kc,ab,Nat.reduceAdd,List.replicate,aw,au,an,ac,Value.oneCell'];apply hK)
 refine lQ (G:=mz l.length) (fun g=>⟨[.one (.sl 0 0 0 l.length),.raw (.int .i64 (s:Int)),jk,jk,jk,jk,jk,.raw (.int .i64 (l.length:Int)),.raw (.int .i64 (g.i:Int)),jk,jk,jk,jk,jk,jk,jk,jk,jk,jk,jk,jk,jk,jk,jk,jk,jk,jk,jk,jk,jk,jk,jk,jk,jk,jk,jk,jk,jk],Hm [(0,[⟨118,1,lc fU (yp l s g.i)⟩])]⟩) (fun g=>l.length-g.i) ⟨0,by omega⟩ ?_ ?_
 ·refine aj ⟨?_,trivial⟩ ?_
  ·simp[yp,famH]
  ·simp[b9,bo,bj]
 ·rintro⟨i,hi⟩
  simp only
  have hlen:=Ig l s hi
  by_cases hm:i<l.length
  ·obtain⟨a,ha⟩:=getElem?_of_lt hm
   have ha':=dp ll ha
   have hget:=BB (s:=s) (Nat.le_refl i) ha
   have hga:l.getD i 0=a:=by rw[List.getD_eq_getElem?_getD,ha];rfl
   have ei:(i:Int)+1=((i+1:Nat):Int):=by omega
   obtain⟨S',hS'⟩: ∃S',S'=yp l s (i+1):=⟨_,rfl⟩
   by_cases hm2:i+1<l.length
   ·obtain⟨b,hb⟩:=getElem?_of_lt hm2
    have hb':=dp ll hb
    have hget2:=BB (s:=s) (show i<=i+1 by omega) hb
    have hgb:l.getD (i+1) 0=b:=by rw[List.getD_eq_getElem?_getD,hb];rfl
    have hset:=BC (v:=(b*4294967296+a)/2^s%4294967296) ll (show s<=32 by omega) rfl hm (by rw[hga,hgb,Nat.add_comm,Nat.mul_comm])
    change (yp l s i).set i _=yp l s (i+1)at hset
    rw[<- hS']at hset
    have e1:=tD (a:=b) (s:=32) (by omega) (by omega)
    have e2:=v8 a (b*2^32) (by omega) (by omega)
    rw[ra b a 32 (by omega),show b*2^32+a=b*4294967296+a from rfl]at e2
    have e3:=An (a:=b*4294967296+a) (s:=s) (by omega)
    have e4:=rp ((b*4294967296+a)/2^s)
    generalize(b*4294967296+a)/2^s=qd at*
    generalize yp l s i=S at*
    (refine b6 [] [] (by kernel_rfl) (by simp) fun K hK=>?_;simp(disch:=omega) only[kc,ab,Hm,ak,ah,bA];apply hK)
    refine dD (dJ rfl (fun _=>f7 ?_) (fun h=>by simp at h<;>omega))
    refine dD (gT ?_)
    (refine b6 [] [] (by kernel_rfl) (by simp) fun K hK=>?_;simp(disch:=omega) only[kc,ab];apply hK)
    (refine b6 [] [] (by kernel_rfl) (by simp) fun K hK=>?_;simp(disch:=omega) only[kc,ab,Nat.reduceAdd,ag,au,ao,an,bs,bH,cb,fU,hget,aA,bN,bF,ak,Tryz.underlying118,cn,dS];apply hK)
    (refine dD (b6 [] [] (by kernel_rfl) (by simp) fun K hK=>?_);simp(disch:=omega) only[kc,ab,Nat.reduceAdd,ak,ac,Value.oneCell',ah,ei,bC,aw,au,an,bA];apply hK)
    refine dJ rfl (fun _=>?_) (fun h=>by simp at h<;>omega)
    ((refine f5 [] [] (by kernel_rfl) (by simp) fun K hK=>?_);simp(disch:=omega) only[kc,ab,Nat.reduceAdd,ak,ac,Value.oneCell',ah,ei,bC,ag,au,ao,an,bs,bH,cb,fU,hget2,aA,bN,bF,Tryz.underlying118,cn,dS,Int.reduceLE,Int.reduceToNat,e1,e2];apply hK)
    show jD _ _ _ _ _
    ((refine f5 [] [] (by kernel_rfl) (by simp) fun K hK=>?_);simp(disch:=omega) only[kc,ab,Nat.reduceAdd,ak,ah,Int.natCast_nonneg,e3,bF,Tryz.underlying88,cJ,e4,ag,au,ao,an,bs,bH,az,df,bJ,cb,fU,hget,cellsOf,Nat.le_refl,isPure,putCells,eh,hset,aS,aT];apply hK)
    show jD _ _ _ _ _
    ((refine f5 [] [] (by kernel_rfl) (by simp) fun K hK=>?_);simp(disch:=omega) only[kc,ab,ak,ac,Value.oneCell',ah,bC];apply hK)
    refine⟨⟨i+1,by omega⟩,by simp only;omega,aj ⟨?_,trivial⟩ ?_⟩
    ·show _=[(⟨_,_,lc fU (yp l s (i+1))⟩:OObj)]
     rw[<- hS'];rfl
    ·simp[b9,bo,bj]
   ·have hgb:l.getD (i+1) 0=0:=by rw[List.getD_eq_getElem?_getD,List.getElem?_eq_none (by omega)];rfl
    have hset:=BC (v:=a/2^s%4294967296) ll (show s<=32 by omega) rfl hm (by rw[hga,hgb];rfl)
    change (yp l s i).set i _=yp l s (i+1)at hset
    rw[<- hS']at hset
    have e3:=An (a:=a) (s:=s) (by omega)
    have e4:=rp (a/2^s)
    generalize a/2^s=qd at*
    generalize yp l s i=S at*
    (refine b6 [] [] (by kernel_rfl) (by simp) fun K hK=>?_;simp(disch:=omega) only[kc,ab,Hm,ak,ah,bA];apply hK)
    refine dD (dJ rfl (fun _=>f7 ?_) (fun h=>by simp at h<;>omega))
    refine dD (gT ?_)
    (refine b6 [] [] (by kernel_rfl) (by simp) fun K hK=>?_;simp(disch:=omega) only[kc,ab];apply hK)
    (refine b6 [] [] (by kernel_rfl) (by simp) fun K hK=>?_;simp(disch:=omega) only[kc,ab,Nat.reduceAdd,ag,au,ao,an,bs,bH,cb,fU,hget,aA,bN,bF,ak,Tryz.underlying118,cn,dS];apply hK)
    (refine dD (b6 [] [] (by kernel_rfl) (by simp) fun K hK=>?_);simp(disch:=omega) only[kc,ab,Nat.reduceAdd,ak,ac,Value.oneCell',ah,ei,bC,aw,au,an,bf];apply hK)
    refine dJ rfl (fun h=>by simp at h<;>omega) (fun _=>f7 ?_)
    show jD _ _ _ _ _
    ((refine f5 [] [] (by kernel_rfl) (by simp) fun K hK=>?_);simp(disch:=omega) only[kc,ab,Nat.reduceAdd,ak,ah,Int.natCast_nonneg,e3,bF,Tryz.underlying88,cJ,e4,ag,au,ao,an,bs,bH,az,df,bJ,cb,fU,hget,cellsOf,Nat.le_refl,isPure,putCells,eh,hset,aS,aT];apply hK)
    show jD _ _ _ _ _
    ((refine f5 [] [] (by kernel_rfl) (by simp) fun K hK=>?_);simp(disch:=omega) only[kc,ab,ak,ac,Value.oneCell',ah,bC];apply hK)
    refine⟨⟨i+1,by omega⟩,by simp only;omega,aj ⟨?_,trivial⟩ ?_⟩
    ·show _=[(⟨_,_,lc fU (yp l s (i+1))⟩:OObj)]
     rw[<- hS'];rfl
    ·simp[b9,bo,bj]
  ·have hie:i=l.length:=by omega
   subst hie
   have hS:yp l s l.length=cL l.length (natV l/2^s):=by
    unfold yp
    rw[List.drop_length,List.append_nil,List.take_of_length_le (by rw[cK];exact Nat.le_refl _)]
   rw[hS]
   generalize cL l.length (natV l/2^s)=S at*
   (refine b6 [] [] (by kernel_rfl) (by simp) fun K hK=>?_;simp(disch:=omega) only[kc,ab,Hm,ak,ah,bf];apply hK)
   refine dD (dJ rfl (fun h=>by simp at h<;>omega) (fun _=>iE ?_))
   refine⟨.inl rfl,_,dG.refl _,rfl,vM _,?_⟩
   simp(disch:=omega) only[bE,Tryz.results150,cY,Option.map_some]
section
theorem CR {l:List Nat} {n x y:Nat} (hn:l.length=n+2) (hx:l[n+1]?=some x) (hy:l[n]?=some y):natV l=(x*4294967296+y)*4294967296^n+natV (l.take n):=by
 have h1:=co hx
 have h2:=co hy
 rw[List.take_of_length_le (by omega)]at h1
 rw[h1,h2,Nat.pow_succ];grind
theorem CS {l:List Nat} {n x y z:Nat} (hn:l.length=n+3) (hx:l[n+2]?=some x) (hy:l[n+1]?=some y) (hz:l[n]?=some z):natV l=((x*4294967296+y)*4294967296+z)*4294967296^n+natV (l.take n):=by
 have h1:=co hx
 have h2:=co hy
 have h3:=co hz
 rw[List.take_of_length_le (by omega)]at h1
 rw[h1,h2,h3,Nat.pow_succ,Nat.pow_succ];grind
structure tI (u v:List Nat) (n v1 v2 u2 u1 u0:Nat):Prop where
 lu:Lmb u
 lv:Lmb v
 nu:u.length=n+3
 nv:v.length=n+2
 hv1:v[n+1]?=some v1
 hv2:v[n]?=some v2
 hu2:u[n+2]?=some u2
 hu1:u[n+1]?=some u1
 hu0:u[n]?=some u0
 top:2147483648<=v1
 lt:natV u<natV v*4294967296
section
variable {u v:List Nat} {n v1 v2 u2 u1 u0:Nat} (h:tI u v n v1 v2 u2 u1 u0)
include h
theorem tI.vpos:0<natV v:=by
 have:=h.lt
 by_cases hv:natV v=0
 ·rw[hv]at this;omega
 ·omega
theorem tI.bv1:v1<4294967296:=dp h.lv h.hv1
theorem tI.bv2:v2<4294967296:=dp h.lv h.hv2
theorem tI.bu2:u2<4294967296:=dp h.lu h.hu2
theorem tI.bu1:u1<4294967296:=dp h.lu h.hu1
theorem tI.bu0:u0<4294967296:=dp h.lu h.hu0
theorem tI.eV:natV v=(v1*4294967296+v2)*4294967296^n+natV (v.take n):=CR h.nv h.hv1 h.hv2
theorem tI.eU:natV u=((u2*4294967296+u1)*4294967296+u0)*4294967296^n+natV (u.take n):=CS h.nu h.hu2 h.hu1 h.hu0
theorem tI.vl:natV (v.take n)<4294967296^n:=fD h.lv n
theorem tI.ul:natV (u.take n)<4294967296^n:=fD h.lu n
theorem tI.q_lt:natV u/natV v<4294967296:=by
 rw[Nat.div_lt_iff_lt_mul h.vpos,Nat.mul_comm];exact h.lt
theorem tI.u2_le : u2 <= v1 := by
  have e1 := h.eV
  have e2 := h.eU
  have h1 := h.lt
  have h2 := h.vl
  have h3 := h.bv2
  have hL : 0 < 4294967296 ^ n := Nat.pow_pos (by omega)
  generalize 4294967296 ^ n = L at *
  by_cases hc : u2 <= v1
  · exact hc
  · exfalso
    have h4 : (v1 + 1) * 4294967296 * 4294967296 * L <= natV u := by
      rw [e2]
      have : (v1 + 1) * 4294967296 * 4294967296 * L <= ((u2 * 4294967296 + u1) * 4294967296 + u0) * L := Nat.mul_le_mul_right _ (Nat.le_trans (Nat.mul_le_mul_right _ (Nat.le_trans (Nat.mul_le_mul_right _ (show v1 + 1 <= u2 by omega)) (Nat.le_add_right _ _))) (Nat.le_add_right _ _))
      exact Nat.le_trans this (Nat.le_add_right _ _)
    have h5 : natV v * 4294967296 <= (v1 + 1) * 4294967296 * 4294967296 * L := by
      have h6 : natV v <= (v1 + 1) * 4294967296 * L := by
        rw [e1]
        have : (v1 * 4294967296 + v2) * L + L <= (v1 + 1) * 4294967296 * L := by
          have := Nat.mul_le_mul_right L (show v1 * 4294967296 + v2 + 1 <= (v1 + 1) * 4294967296 by omega)
          rw [Nat.add_mul (v1 * 4294967296 + v2) 1 L, Nat.one_mul] at this
          exact this
        omega
      calc natV v * 4294967296 <= (v1 + 1) * 4294967296 * L * 4294967296 := Nat.mul_le_mul_right _ h6
        _ = _ := by grind
    omega
structure J0 (u v:List Nat) (v1 high:Nat) where
 g:Nat
 r:Nat
 eq:g*v1+r=high
 ge:natV u/natV v<=g
 le:g<=4294967297
 hr:r<4294967296
omit h in
theorem Cn {a b c:Nat} (hb:0<b) (h:a<(c+1)*b):a/b<=c:=by
 have:=(Nat.div_lt_iff_lt_mul hb).2 h
 omega
theorem tI.first: ∃k:J0 u v v1 (u2*4294967296+u1),k.g=(u2*4294967296+u1)/v1/\k.r=(u2*4294967296+u1)%v1:=by
 have ht:=h.top
 have hb1:=h.bv1
 have hm:=Nat.mod_lt (u2*4294967296+u1) (show 0<v1 by omega)
 have hd:=Nat.div_add_mod (u2*4294967296+u1) v1
 have hle:=h.u2_le
 have hu1:=h.bu1
 have hL:0<4294967296^n:=Nat.pow_pos (by omega)
 refine⟨⟨(u2*4294967296+u1)/v1,(u2*4294967296+u1)%v1,by rw[Nat.mul_comm];exact hd,?_,?_,by omega⟩,rfl,rfl⟩
 ·rw[Nat.le_div_iff_mul_le (by omega)]
  have e1:=h.eV
  have e2:=h.eU
  have h1:=h.ul
  have h2:=h.bu0
  refine Kc (U:=natV u) (V:=natV v) (L:=4294967296^n) ?_ ?_ (Nat.div_mul_le_self _ _) hL
  ·rw[e1]
   have:v1*4294967296*4294967296^n<=(v1*4294967296+v2)*4294967296^n:=Nat.mul_le_mul_right _ (by omega)
   omega
  ·rw[e2]
   have:((u2*4294967296+u1)*4294967296+u0)*4294967296^n+4294967296^n<=(u2*4294967296+u1+1)*4294967296*4294967296^n:=by
    have:=Nat.mul_le_mul_right (4294967296^n) (show(u2*4294967296+u1)*4294967296+u0+1<=(u2*4294967296+u1+1)*4294967296 by omega)
    rw[Nat.add_mul ((u2*4294967296+u1)*4294967296+u0) 1,Nat.one_mul]at this
    exact this
   omega
 ·refine Cn (by omega) ?_
  have:u2*4294967296<=v1*4294967296:=Nat.mul_le_mul_right _ hle
  have e:(4294967297+1)*v1=v1*4294967296+2*v1:=by omega
  omega
theorem tI.down (k:J0 u v v1 (u2*4294967296+u1)) (hc:4294967296<=k.g\/k.r*4294967296+u0<k.g*v2):natV u/natV v<k.g:=by
 rcases hc with hc|hc
 ·have:=h.q_lt;omega
 ·have e1:=h.eV
  have e2:=h.eU
  have h1:=h.ul
  refine Kb (U:=natV u) (V:=natV v) (L:=4294967296^n) (high:=u2*4294967296+u1) ?_ ?_ (Nat.div_mul_le_self _ _) k.eq hc
  ·rw[e1];omega
  ·rw[e2,Nat.add_mul ((u2*4294967296+u1)*4294967296+u0) 1,Nat.one_mul];omega
theorem tI.near {g r:Nat} (heq:g*v1+r=u2*4294967296+u1) (hB:g<=4294967296) (hc:g*v2<=r*4294967296+u0):g<=natV u/natV v+1:=by
 have e1:=h.eV
 have e2:=h.eU
 have ht:=h.top
 refine G0 (U:=natV u) (t3:=(u2*4294967296+u1)*4294967296+u0) e1 h.vl ?_ ?_ ?_ hB (by omega)
 ·rw[e2];omega
 ·have:=Nat.lt_div_mul_add (a:=natV u) h.vpos
  rw[Nat.add_mul,Nat.one_mul];omega
 ·rw[<- heq]
  have e:g*(v1*4294967296+v2)=g*v1*4294967296+g*v2:=by grind
  have e':(g*v1+r)*4294967296=g*v1*4294967296+r*4294967296:=by grind
  omega
theorem tI.vlt:natV v<=4294967296^(n+2):=Nat.le_of_lt (by have:=gp h.lv;rw[h.nv]at this;exact this)
theorem tI.right {g:Nat} (m:F9 u v g) (hi:m.i=n+2) (hge:natV u/natV v<=g) (hno:m.c+m.b<=u2):g=natV u/natV v/\m.us++[u2-(m.c+m.b)]=cL (n+3) (natV u%natV v):=by
 have hv:=m.val
 rw[hi,List.take_of_length_le (by rw[h.nv];exact Nat.le_refl _)]at hv
 have hU:=co h.hu2
 rw[List.take_of_length_le (by rw[h.nu];exact Nat.le_refl _)]at hU
 have hml:m.us.length=n+2:=by rw[m.len,hi]
 have e:natV (m.us++[u2-(m.c+m.b)])+g*natV v=natV u:=by
  rw[mP,hml,hU]
  have:(u2-(m.c+m.b))*4294967296^(n+2)+(m.c+m.b)*4294967296^(n+2)=u2*4294967296^(n+2):=by
   rw[<- Nat.add_mul,Nat.sub_add_cancel hno]
  omega
 obtain⟨q1,q2⟩:=Ez rfl hge e h.vpos
 refine⟨q1,xv (l6 m.lmb ?_) (by simp[hml]) q2⟩
 have:=h.bu2
 omega
theorem tI.left {g t:Nat} (m:F9 u v g) (hi:m.i=n+2) (hle:g<=natV u/natV v+1) (hyes:u2<m.c+m.b) (ht:t=u2+4294967296-(m.c+m.b)) (a:Ge (m.us++[t]) v) (hai:a.i=n+2):
  g=natV u/natV v+1/\a.us++[(t+a.c)%4294967296]=cL (n+3) (natV u%natV v):=by
 have hv:=m.val
 rw[hi,List.take_of_length_le (by rw[h.nv];exact Nat.le_refl _)]at hv
 have hU:=co h.hu2
 rw[List.take_of_length_le (by rw[h.nu];exact Nat.le_refl _)]at hU
 have hml:m.us.length=n+2:=by rw[m.len,hi]
 have hbu:=h.bu2
 have hmc:=m.hc
 have hmb:=m.hb
 have hav:=a.val
 have e0:(m.us++[t]).take (n+2)=m.us:=by rw[List.take_append_of_le_length (by omega),List.take_of_length_le (by omega)]
 rw[hai,e0,List.take_of_length_le (by rw[h.nv];exact Nat.le_refl _)]at hav
 have hW:=gp a.lmb
 rw[a.len,hai]at hW
 have e:natV m.us+t*4294967296^(n+2)+g*natV v=natV u+4294967296*4294967296^(n+2):=by
  rw[hU]
  have:t*4294967296^(n+2)+(m.c+m.b)*4294967296^(n+2)=(u2+4294967296)*4294967296^(n+2):=by
   rw[<- Nat.add_mul,ht,Nat.sub_add_cancel (by omega)]
  rw[Nat.add_mul u2]at this
  omega
 have hlt:natV u<g*natV v:=by
  have h1:=gp m.lmb
  rw[hml]at h1
  have h2:(u2+1)*4294967296^(n+2)<=(m.c+m.b)*4294967296^(n+2):=Nat.mul_le_mul_right _ (by omega)
  rw[Nat.add_mul u2 1,Nat.one_mul]at h2
  omega
 obtain⟨q1,q2,q3⟩:=GZ (T:=natV m.us) (t:=t) (c:=a.c) (W:=natV a.us) (Bn:=4294967296^(n+2)) rfl hle e hlt h.vpos h.vlt hW rfl hav a.hc (by omega)
 refine⟨q1,xv (l6 a.lmb (Nat.mod_lt _ (by omega))) (by simp[a.len,hai]) ?_⟩
 rw[mP,q2,q3];simp
end
end
end Go.Proofs.YtpgghglbpcabkaaGreat
