/-
  Part 10 of a proof (walks and plain facts).
-/
import Derived.Test.YtfgeomlagfomgaaGreatDoorR08
import Derived.Scope
set_option linter.all false
set_option maxRecDepth 100000
set_option maxHeartbeats 64000000
open Nat renaming le_refl → ac
open List renaming all_eq_true → ai
open List renaming mem_of_getElem? → au
open List renaming getElem?_map → ax
namespace Go.Proofs.YtfgeomlagfomgaaGreatDoor
open Go.RowKit
section
theorem Bw {a:Act} {d:Option Tmp} {k:Nat} (v:Value) (h:d≠some k):(a.put d v).tmps[k]?=a.tmps[k]?:=by
 cases d with
 |none=>rfl
 |some d=>
  have:d≠k:=fun e=>h (by rw[e])
  simp[Act.put,Array.getElem?_setIfInBounds_ne this]
def oG (k:Nat) (v0:Value) (w0:World) (O X:Nat->Prop) (s:AS) (a:Act) (w:World):Prop:=gn w0 O X s a w/\a.tmps[k]?=some v0
def gB (P:Program) (k:Nat) (c:Code) (Q:Exit->AS->Prop) (s:AS):Prop:=
 ∀(v0:Value) (w0:World) (O X:Nat->Prop) (a:Act) (w:World),oG k v0 w0 O X s a w->c.wp P (fun e a' w'=> ∃s',Q e s'/\oG k v0 w0 O X s' a' w') a w
def mU (k:Nat) (ops:Array Oper):Bool:=ops.toList.all fun o=>o.dst !=some k
section
variable {P:Program} {k:Nat} {s s':AS} {Q:Exit->AS->Prop}
theorem oG.weak {v0:Value} {w0 w:World} {O X:Nat->Prop} {a:Act} (h:b8 s s') (r:oG k v0 w0 O X s a w):oG k v0 w0 O X s' a w:=⟨h _ _ _ _ _ r.1,r.2⟩
theorem gB.weak {c:Code} (h:b8 s s') (r:gB P k c Q s'):gB P k c Q s:=fun _ _ _ _ _ _ q=>r _ _ _ _ _ _ (q.weak h)
theorem gB.mono {c:Code} {Q':Exit->AS->Prop} (h:gB P k c Q s) (q: ∀e s',Q e s'->Q' e s'):gB P k c Q' s:=fun _ _ _ _ _ _ r=>
 wp_mono (h _ _ _ _ _ _ r) fun _ _ _ ⟨s',h1,h2⟩=>⟨s',q _ _ h1,h2⟩
theorem gO (h:Q .normal s):gB P k .skip Q s:=fun _ _ _ _ _ _ r=>wp_skip ⟨s,h,r⟩
theorem ms {id:Nat} (h:Q (.exit id) s):gB P k (.exit id) Q s:=fun _ _ _ _ _ _ r=>wp_exit ⟨s,h,r⟩
theorem nC (h:Q .ret s):gB P k .ret Q s:=fun _ _ _ _ _ _ r=>wp_ret ⟨s,h,r⟩
theorem dc {x y:Code} (h:gB P k x (mf (gB P k y Q) Q) s):gB P k (.seq x y) Q s:=fun _ _ _ _ _ _ r=>
 wp_seq (wp_mono (h _ _ _ _ _ _ r) fun e a w ⟨s',h1,h2⟩=>by
  cases e with
  |normal=>exact h1 _ _ _ _ _ _ h2
  |_=>exact⟨s',h1,h2⟩)
theorem fA {id:Nat} {x:Code} (h:gB P k x (oO id Q) s):gB P k (.block id x) Q s:=fun _ _ _ _ _ _ r=>
 wp_block (wp_mono (h _ _ _ _ _ _ r) fun e a w ⟨s',h1,h2⟩=>by
  cases e with
  |exit id'=>
   simp only[oO]at h1;simp only[Exit.inBlock];split at h1
   ·rename_i hid;rw[if_pos hid];exact⟨s',h1,h2⟩
   rename_i hid;rw[if_neg hid];exact⟨s',h1,h2⟩
  |_=>exact⟨s',h1,h2⟩)
theorem zq {c:Operand} {x y:Code} {b:Bool} (hc:s.ev c=some (.raw (.bool b))) (ht:b=true->gB P k x Q s) (hf:b=false->gB P k y Q s):gB P k (.cond c x y) Q s:=fun _ _ _ _ _ _ r=>by
 obtain⟨h1,hsz,ρ,hinv,htm⟩:=id r.1;have hb:=(cf (dn htm c _ hc)).1;exact wp_cond_split hb (fun h=>ht h _ _ _ _ _ _ r) (fun h=>hf h _ _ _ _ _ _ r)
theorem lA {c:Operand} {x y:Code} (hc:s.ev c=some (.raw (.bool true))) (h:gB P k x Q s):gB P k (.cond c x y) Q s:=zq hc (fun _=>h) (fun h=>by cases h)
theorem mr {c:Operand} {x y:Code} (hc:s.ev c=some (.raw (.bool false))) (h:gB P k y Q s):gB P k (.cond c x y) Q s:=zq hc (fun h=>by cases h) (fun _=>h)
theorem qE {c:Operand} {y z:Code} (hc:s.ev c=some (.raw (.bool true))) (h:gB P k z Q s):gB P k (.seq (.cond c .skip y) z) Q s:=dc (lA hc (gO h))
theorem td {c:Operand} {x z:Code} {id:Nat} (hc:s.ev c=some (.raw (.bool false))) (h:Q (.exit id) s):gB P k (.seq (.cond c x (.exit id)) z) Q s:=dc (mr hc (ms h))
theorem Hj {G:Type} (St:G->AS) (μ:G->Nat) (g0:G) {c:Code} (h0:b8 s (St g0))
  (round: ∀g,gB P k c (mf (fun s'=> ∃g',μ g'<μ g/\b8 s' (St g')) Q) (St g)):gB P k (.loop c) Q s:=fun v0 w0 O X a w r=>by
 classical
 let p:Act->World->Nat->Prop:=fun a w n=> ∃g,μ g=n/\oG k v0 w0 O X (St g) a w
 let m:Act->World->Nat:=fun a w=>if h: ∃n,p a w n then Classical.choose (bO h)else 0
 refine wp_loop (fun a w=> ∃n,p a w n) m ⟨_,g0,rfl,r.weak h0⟩ ?_;intro a w hI;have hm:m a w=Classical.choose (bO hI):=dif_pos hI;obtain⟨hp,hleast⟩:=Classical.choose_spec (bO hI);rw[<- hm]at hp;obtain⟨g,hg,hr⟩:=hp;refine wp_mono (round g _ _ _ _ _ _ hr) fun e a' w' ⟨s',h1,h2⟩=>?_
 cases e with
 |normal=>
  obtain⟨g',hlt,hw⟩:=h1;have hr':=h2.weak hw;have hI': ∃n,p a' w' n:=⟨_,g',rfl,hr'⟩;refine⟨hI',?_⟩;have hm':m a' w'=Classical.choose (bO hI'):=dif_pos hI';obtain⟨_,hl'⟩:=Classical.choose_spec (bO hI');have:=hl' (μ g') ⟨g',rfl,hr'⟩;rw[hm'];omega
 |_=>exact⟨s',h1,h2⟩
theorem kF {G:Type} (St:G->AS) (μ:G->Nat) (g0:G) {id:Nat} {x:Code} (h0:b8 s (St g0))
  (round: ∀g,gB P k x (mf (fun s'=> ∃g',μ g'<μ g/\b8 s' (St g')) (oO id Q)) (St g)):gB P k (.block id (.loop x)) Q s:=
 fA (Hj St μ g0 h0 round)
theorem NZ {items:List (dY P)} (hI:gN P items) {ow:List Nat} {ops:Array Oper} {i:Nat} {v0:Value} {w0 w:World} {O X:Nat->Prop} {a:Act} (hrel:oG k v0 w0 O X s a w) {o:Oper} (hd:o.dst≠some k) (h:ch P items ow ops i o s=some s') {K:Act->World->Prop} {Q:Exit->Act->World->Prop}
  (hK: ∀v w',oG k v0 w0 O X s' (a.put o.dst v) w'->K (a.put o.dst v) w'):if Region.wanted o (yielded ops a.tmps)then o.wp P a w K Q else K (a.put o.dst undef) w:=
 jy hI hrel.1 h fun v w' hr=>hK v w' ⟨hr,by rw[Bw v hd];exact hrel.2⟩
theorem As {ops:Array Oper} (h:mU k ops=true) {j:Nat} {o:Oper} (ho:ops[j]?=some o):o.dst≠some k:=by
 unfold mU at h;rw[ai]at h;have:=h o (au (by simpa using ho));simpa using this
theorem u5 {items:List (dY P)} (hI:gN P items) {ow:List Nat} {ops:Array Oper} (hk:mU k ops=true) {v0:Value} {w0:World} {O X:Nat->Prop} {Q:Exit->Act->World->Prop}: ∀(l:List Oper) (n:Nat) (s s':AS) (a:Act) (w:World),(∀(j:Nat) o,l[j]?=some o->ops[n+j]?=some o)->
  jJ P items ow ops (l.zipIdx n) s=some s'->oG k v0 w0 O X s a w->(∀a' w',oG k v0 w0 O X s' a' w'->Q .normal a' w')->wpOps P ops Q (List.range' n l.length) a w
 |[],n,s,s',a,w,_,h,r,hQ=>by
  simp only[List.zipIdx_nil,jJ]at h;injection h with h
  subst h;exact hQ a w r
 |o::l,n,s,s',a,w,hl,h,r,hQ=>by
  simp only[List.zipIdx_cons,jJ]at h;split at h
  ·rename_i s1 hs1;simp only[List.length_cons,List.range'_succ,wpOps];have ho:ops[n]?=some o:=by have:=hl 0 o rfl;simpa using this
   rw[ho];simp only;have:=NZ (Q:=Q) hI r (As hk ho) hs1 (K:=wpOps P ops Q (List.range' (n+1) l.length)) (fun v w' hr=>u5 hI hk l (n+1) s1 s' _ _ (fun j o hj=>by have:=hl (j+1) o (by simpa using hj);rwa[show n+(j+1)=n+1+j by omega]at this) h hr hQ);split at this
   ·rename_i hw;rw[if_pos hw];exact .inl this
   rename_i hw;rw[if_neg hw];exact this
  cases h
theorem Dp (items:List (be P)) (ow:List Nat) {id:Nat} {ops:Array Oper} (hk:mU k ops=true) (h:db P (items.map be.a) ow (bQ ops ops.toList 0) (some s) (Q .normal)):gB P k (.region id ops false) Q s:=fun v0 w0 O X a w r=>by
 obtain⟨s',h1,h2⟩:=cn P (items.map be.a) ow ops ops.toList 0 s (Q .normal) h;refine wp_region ?_;rw[List.range_eq_range'];have:=u5 (be.ok items) hk (Q:=fun e a' w'=> ∃s',Q e s'/\oG k v0 w0 O X s' a' w') ops.toList 0 s s' a w (fun j o hj=>by simpa using hj) h1 r (fun a' w' hr=>⟨s',h2,hr⟩);simpa using this
theorem Hi (hmx:P.follows .mixedOrders=true) (items:List (be P)) (ow:List Nat) {id:Nat} {ops:Array Oper} (hd:dL [] ops=true) (hk:mU k ops=true) (h:db P (items.map be.a) ow (bQ ops ops.toList 0) (some s) (Q .normal)):gB P k (.region id ops true) Q s:=fun v0 w0 O X a w r=>by
 obtain⟨sF,h1,h2⟩:=cn P (items.map be.a) ow ops ops.toList 0 s (Q .normal) h;refine wp_region_any hmx ?_;have hF:gW P (items.map be.a) ow ops (List.range ops.size) s=some sF:=by
  rw[List.range_eq_range'];have:=oo (P:=P) (items:=items.map be.a) (ow:=ow) ops.toList 0 s (fun j o hj=>by simpa using hj);rw[h1]at this;simpa using this.symm
 have hr':oG k v0 w0 O X s a {w with drawn:=w.drawn+1}:=by
  obtain⟨⟨q1,q2,ρ,hinv,htm⟩,hs⟩:=r;have e:Ext w {w with drawn:=w.drawn+1}:=⟨rfl,rfl,rfl,ac _,fun _ _=>rfl⟩;have htm:b7 X ρ s a w:=htm;exact⟨⟨q1,q2,ρ,hinv.grow e,htm.grow e⟩,hs⟩
 refine oN (sep:=[]) (tJ hd (by simp)) hd (Q:=fun e a' w'=> ∃s',Q e s'/\oG k v0 w0 O X s' a' w') (fun _ s a w=>oG k v0 w0 O X s a w) ⟨mO r.1,fun x hx=>by simp at hx⟩ hF (fun p a w hall hr=>⟨sF,h2,hr⟩) (fun p i o s s1 a w K ho hpi hs hr hK=>?_) ops.size (Array.replicate ops.size false) s a _ (by simp) ?_ ?_ ?_ hr'
 ·exact NZ (be.ok items) hr (As hk ho) hs fun v w' hr'=>hK v w' hr'
 ·intro j o ho hp;have hj:j<ops.size:=(Array.getElem?_eq_some_iff.1 ho).1;simp[hj]at hp
 ·exact Nat.le_trans (List.length_filter_le _ _) (by simp)
 have:vi ops.size (fun j=>(Array.replicate ops.size false).getD j true)=[]:=by
  unfold vi;rw[List.filter_eq_nil_iff];intro j hj;have:=List.mem_range.1 hj;simp[this]
 rw[this];rfl
theorem Hl (items:List (be P)) (ow:List Nat) {id:Nat} {ops:Array Oper} {y:Code} (hk:mU k ops=true) (h: ∀K:AS->Prop,(∀s',gB P k y Q s'->K s')->db P (items.map be.a) ow (bQ ops ops.toList 0) (some s) K):gB P k (.seq (.region id ops false) y) Q s:=
 dc (Dp items ow hk (h _ fun _ h=>h))
theorem Hk (items:List (be P)) (ow:List Nat) {id:Nat} {ops:Array Oper} (hk:mU k ops=true) (h: ∀K:AS->Prop,(∀s',Q .normal s'->K s')->db P (items.map be.a) ow (bQ ops ops.toList 0) (some s) K):gB P k (.region id ops false) Q s:=
 Dp items ow hk (h _ fun _ h=>h)
theorem we (hmx:P.follows .mixedOrders=true) (items:List (be P)) (ow:List Nat) {id:Nat} {ops:Array Oper} {y:Code} (hd:dL [] ops=true) (hk:mU k ops=true) (h: ∀K:AS->Prop,(∀s',gB P k y Q s'->K s')->db P (items.map be.a) ow (bQ ops ops.toList 0) (some s) K):gB P k (.seq (.region id ops true) y) Q s:=
 dc (Hi hmx items ow hd hk (h _ fun _ h=>h))
theorem aX {y:Code} {id:Nat} {ops:Array Oper} (hk:mU k ops=true) (h: ∀K:AS->Prop,(∀s',gB P k y Q s'->K s')->db P [] [] (bQ ops ops.toList 0) (some s) K):gB P k (.seq (.region id ops false) y) Q s:=Hl [] [] hk h
theorem d9 {id:Nat} {ops:Array Oper} (hk:mU k ops=true) (h: ∀K:AS->Prop,(∀s',Q .normal s'->K s')->db P [] [] (bQ ops ops.toList 0) (some s) K):gB P k (.region id ops false) Q s:=Hk [] [] hk h
theorem ib (hm:P.follows .mixedOrders=true) {y:Code} {id:Nat} {ops:Array Oper} (hd:dL [] ops=true) (hk:mU k ops=true) (h: ∀K:AS->Prop,(∀s',gB P k y Q s'->K s')->db P [] [] (bQ ops ops.toList 0) (some s) K):gB P k (.seq (.region id ops true) y) Q s:=we hm [] [] hd hk h
end
/-! The contract of a function that writes a row. -/
def rho1 (b c:Nat):fo:=fun a r=>if a=0/\r=0 then some (b,c)else none
structure pq (P:Program) (f:FuncId) (args:List TV) (k off len:Nat) (o o':OObj) (r:TV):Prop where
 able:callable P f=true
 es:o'.es=o.es
 size:o'.elems.length=o.elems.length
 pure: ∀e∈o'.elems,∀x∈e,isPure x=true
 noref:noRefTV r=true
 calls: ∀(X:Nat->Prop) (w:World) (vs:Array Value) (b c:Nat),(∀j,X j->j<w.heap.size)-> ¬X b->objRel (rho1 b c) (famH 0 [o]) (fun j=>X j\/j=b) w 0 0 o->vs.size=args.length->
  vs[k]?=some (.slice (some ⟨b,off*o.es,none⟩) len (c-off))->(∀(j:Nat) t,j≠k->args[j]?=some t-> ∃v:Value,vs[j]?=some v/\t.rel (fun _ _=>none) (fun _=>[]) (fun j=>X j\/j=b) w v)->
  Calls P f vs w fun e w'=> ∃v,e= .returned v/\But b w w'/\objRel (rho1 b c) (famH 0 [o']) (fun j=>X j\/j=b) w' 0 0 o'/\r.rel (rho1 b c) (famH 0 [o']) (fun j=>X j\/j=b) w' v
theorem R6 {X:Nat->Prop} {b c:Nat} {o:OObj}:Xo X (rho1 b c) (famH 0 [o])=fun j=>X j\/j=b:=by
 funext j;apply propext;constructor
 ·rintro(h|⟨a,r,o',c',h1,h2⟩)
  ·exact .inl h
  unfold rho1 at h2;split at h2
  ·injection h2 with h2;injection h2 with h2 h3;exact .inr h2.symm
  cases h2
 rintro(h|rfl)
 ·exact .inl h
 exact .inr ⟨0,0,o,c,rfl,by simp[rho1]⟩
theorem rZ {a r:Nat} {o o':OObj} (h:(famH 0 [o] a)[r]?=some o'):a=0/\r=0/\o'=o:=by
 unfold famH at h;split at h
 ·rename_i ha;cases r with
  |zero=>simp at h;exact⟨ha,rfl,h.symm⟩
  |succ r=>simp at h
 simp at h
theorem j8 {ρ ρ':fo} {H H':OH} {Y:Nat->Prop} {w:World} {a r a' r':Nat} {o:OObj} (hp: ∀e∈o.elems,∀x∈e,isPure x=true) (h:objRel ρ H Y w a r o) (hρ:ρ' a' r'=ρ a r):objRel ρ' H' Y w a' r' o:=by
 obtain⟨h1,h2,h3⟩:=h;refine⟨h1,h2,?_⟩;rw[hρ];cases hr:ρ a r with
 |none=>rw[hr]at h3;exact h3
 |some bc=>
  obtain⟨b,c⟩:=bc;rw[hr]at h3;obtain⟨cells,g1,g2,g3,g4,g5⟩:=h3;refine⟨cells,g1,g2,g3,g4,fun i e j x he hx=>?_⟩;obtain⟨v,v1,v2,v3⟩:=g5 i e j x he hx;refine⟨v,v1,v2,?_⟩;have:=hp e (au he) x (au hx);cases x with
  |p x=>exact v3
  |_=>cases this
theorem nR {ρ ρ':fo} {H H':OH} {Y:Nat->Prop} {w:World} {r:TV} {v:Value} (hn:noRefTV r=true) (h:r.rel ρ H Y w v):r.rel ρ' H' Y w v:=by
 have av: ∀x u,gy x=true->AV.rel ρ H Y w x u->AV.rel ρ' H' Y w x u:=fun x u hx hu=>by
  cases x with
  |p x=>exact hu
  |junk=>trivial
  |_=>cases hx
 have agg: ∀cs v,cs.all gy=true->bX ρ H Y w cs v->bX ρ' H' Y w cs v:=fun cs v hc ⟨vs,g1,g2,g3⟩=>by
  simp only[ai]at hc;exact⟨vs,g1,g2,fun j x hx=>by obtain⟨u,u1,u2,u3⟩:=g3 j x hx;exact⟨u,u1,u2,av x u (hc x (au hx)) u3⟩⟩
 cases r with
 |one x=>exact av x v hn h
 |agg cs=>exact agg cs v hn h
 |fn f cs=>obtain⟨u,h1,h2⟩:=h;exact⟨u,agg cs u hn h1,h2⟩
 |tup ts=>
  simp only[noRefTV,ai]at hn;obtain⟨vs,g1,g2,g3⟩:=h;refine⟨vs,g1,g2,fun j c cs hj=>?_⟩;obtain⟨u,u1,u2⟩:=g3 j c cs hj;have hall:=hn (c,cs) (au hj);refine⟨u,u1,?_⟩;rcases u2 with⟨u2,u3⟩|⟨u2,x,rfl,u4⟩
  ·exact .inl ⟨u2,agg _ _ (List.all_eq_true.2 hall) u3⟩
  exact .inr ⟨u2,x,rfl,av x u (hall x (by simp)) u4⟩
def QO (P:Program) (fn:Func) (k off len:Nat) (o':OObj) (r:TV) (s:AS):Prop:=
 s.tmps[k]?=some (.one (.sl 0 0 off len))/\s.H=famH 0 [o']/\uU P s fn.results.toList=some r
theorem pD {P:Program} {f:FuncId} {fn:Func} {c:Code} {args:List TV} {k off len:Nat} {o o':OObj} {r:TV} (hf:P.funcs[f]?=some fn) (hb:fn.body=some c) (hn:callable P f=true) (hk:k<args.length) (hlen:0<len) (hol:off+len<=o.elems.length) (hop: ∀e∈o.elems,∀x∈e,isPure x=true)
  (he:o'.es=o.es) (hs:o'.elems.length=o.elems.length) (hp: ∀e∈o'.elems,∀x∈e,isPure x=true) (hr:noRefTV r=true)
  (h:gB P k c (fun e s=>(e= .normal\/e= .ret)/\ ∃s',b8 s s'/\QO P fn k off len o' r s') ⟨args.set k (.one (.sl 0 0 off len))++List.replicate (fn.ntmps-args.length) .undef,famH 0 [o]⟩):pq P f args k off len o o' r:=by
 refine⟨hn,he,hs,hp,hr,fun X w vs b cc hX hXb hobj hvs hvk hargs=>?_⟩;refine calls_of_wp hf hb ?_;have hXo:=R6 (X:=X) (b:=b) (c:=cc) (o:=o);have hblt:b<w.heap.size:=by
  obtain⟨_,_,q⟩:=hobj;simp only[rho1,and_self,if_true]at q;obtain⟨cells,q1,_⟩:=q;exact(Array.getElem?_eq_some_iff.1 q1).1
 have hlc:len<=cc-off:=by
  obtain⟨_,_,q⟩:=hobj;simp only[rho1,and_self,if_true]at q;obtain⟨cells,_,_,q3,_⟩:=q;omega
 have hrel:oG k (.slice (some ⟨b,off*o.es,none⟩) len (cc-off)) w (fun j=>j=b) X ⟨args.set k (.one (.sl 0 0 off len))++List.replicate (fn.ntmps-args.length) .undef,famH 0 [o]⟩ {tmps:=vs++Array.replicate (fn.ntmps-vs.size) undef,defers:=[]} w:=by
  refine⟨⟨rfl,by simp[hvs],rho1 b cc,⟨Keep.refl w,fun a r o1 ho=>?_,fun a r a' r' o1 o2 b1 c1 c2 ho ho' _ _=>?_,fun a r o1 b1 c1 ho h1=>?_,hX,fun a r o1 ho=>?_⟩,fun t x hx=>?_⟩,?_⟩
  ·obtain⟨rfl,rfl,rfl⟩:=rZ ho;show objRel _ _ (Xo X (rho1 b cc) (famH 0 [o1])) w 0 0 o1;rw[hXo];exact hobj
  ·obtain⟨rfl,rfl,_⟩:=rZ ho;obtain⟨rfl,rfl,_⟩:=rZ ho';exact⟨rfl,rfl⟩
  ·obtain⟨rfl,rfl,_⟩:=rZ ho;simp only[rho1,and_self,if_true]at h1;injection h1 with h1
   injection h1 with h1 h2
   subst h1;exact⟨.inr rfl,hXb⟩
  ·obtain⟨rfl,rfl,rfl⟩:=rZ ho;exact dH hop
  ·show ∃v:Value,_/\x.rel (rho1 b cc) (famH 0 [o]) (Xo X (rho1 b cc) (famH 0 [o])) w v;rw[hXo];by_cases ht:t<args.length
   ·rw[List.getElem?_append_left (by simpa using ht)]at hx;by_cases htk:t=k
    ·subst htk;rw[List.getElem?_set_self ht]at hx;injection hx with hx
     subst hx;exact⟨_,by rw[Array.getElem?_append_left (by omega)];exact hvk,o,rfl,hol,.inr ⟨b,cc,cc-off,by simp[rho1],rfl,hlc,fun _=>rfl⟩⟩
    rw[List.getElem?_set_ne (Ne.symm htk)]at hx;obtain⟨v,v1,v2⟩:=hargs t x htk hx;refine⟨v,by rw[Array.getElem?_append_left (by omega)];exact v1,TV.rel_map v2 (fun y u hy=>?_)⟩;cases y with
    |p y=>exact hy
    |sl a r off len=>obtain⟨o,h1,_⟩:=hy;simp at h1
    |ptr a r i j=>obtain⟨o,_,_,h1,_⟩:=hy;simp at h1
    |junk=>trivial
   rw[List.getElem?_append_right (by simp;omega),List.getElem?_replicate]at hx;split at hx
   ·rename_i hlt;injection hx with hx
    subst hx;refine⟨undef,?_,jw⟩;simp at hlt;rw[Array.getElem?_append_right (by omega),Array.getElem?_replicate,if_pos (by omega)]
   cases hx
  show(vs++_)[k]?=_;rw[Array.getElem?_append_left (by omega)];exact hvk
 refine wp_mono (h _ _ _ _ _ _ hrel) fun e a' w' ⟨s1,⟨hee,s2,hw,hW1,hW2,hW3⟩,hrel1⟩=>?_
 obtain⟨⟨h1,hsz,ρ,hinv,htm⟩,hslot⟩:=hrel1.weak hw;have htm:b7 X ρ s2 a' w':=htm;rw[hW2]at hinv;obtain⟨v,v1,v2⟩:=pf (by rw[hW2];exact hinv) htm hW3;rw[hW2]at v2
 -- the row has not moved
 obtain⟨u,u1,u2⟩:=htm k _ hW1;rw[hslot]at u1;injection u1 with u1
 subst u1;obtain⟨o2,g1,g2,g3⟩:=u2;rw[hW2]at g1;obtain⟨_,_,rfl⟩:=rZ g1;have hρ:ρ 0 0=some (b,cc):=by
  rcases g3 with⟨_,g4,_,_⟩|⟨b',c',cap,g4,g5,_,g9⟩
  ·cases g4
  have g9:=g9 (by decide);injection g5 with g5 g6 g7
  injection g5 with g5
  injection g5 with g5 g8
  subst g5;have hobj2:=hinv.objs 0 0 o2 rfl;obtain⟨q1,q2,q3⟩:=hobj2;rw[g4]at q3;obtain⟨cells,q4,q5,q6,_⟩:=q3;obtain⟨p1,p2,p3⟩:=hobj;simp only[rho1,and_self,if_true]at p3;obtain⟨cells',p4,p5,p6,_⟩:=p3;rw[g4,show c'=cc by omega]
 have hXo2:Xo X ρ (famH 0 [o2])=fun j=>X j\/j=b:=by
  funext j;apply propext;constructor
  ·rintro(h|⟨a,r,o3,c',h1,h2⟩)
   ·exact .inl h
   obtain⟨rfl,rfl,_⟩:=rZ h1;rw[hρ]at h2;injection h2 with h2;injection h2 with h2 h3;exact .inr h2.symm
  rintro(h|rfl)
  ·exact .inl h
  exact .inr ⟨0,0,o2,cc,rfl,hρ⟩
 have hob:=hinv.objs 0 0 o2 rfl;rw[hXo2]at hob;rw[hXo2]at v2;have hbut:But b w w':=⟨hinv.keep.os,hinv.keep.tape,hinv.keep.output,hinv.keep.size,fun j hj hne=>hinv.keep.block j hj hne⟩;have hob1:objRel (rho1 b cc) (famH 0 [o2]) (fun j=>X j\/j=b) w' 0 0 o2:=by
  refine j8 hp hob (by rw[hρ];simp[rho1])
 have hv1:r.rel (rho1 b cc) (famH 0 [o2]) (fun j=>X j\/j=b) w' v:=nR hr v2;rcases hee with rfl|rfl
 ·exact⟨h1,v,v1,v,rfl,hbut,hob1,hv1⟩
 exact⟨h1,v,v1,v,rfl,hbut,hob1,hv1⟩
end
section
def i6:TV->Bool
 | .one (.p _)=>true
 | .agg cs=>cs.all isPure
 |_=>false
theorem uL {ρ ρ':fo} {H H':OH} {Y Y':Nat->Prop} {w:World} {t:TV} {v:Value} (hY:Y'=Y) (hn:i6 t=true) (h:t.rel ρ H Y w v):t.rel ρ' H' Y' w v:=by
 subst hY;refine nR ?_ h;unfold i6 at hn;split at hn
 ·rfl
 ·rename_i cs;simp only[noRefTV,ai]at hn⊢;intro x hx;have:=hn x hx;cases x<;>first|rfl|cases this
 cases hn
def pX (k:Nat):Nat->List TV->Bool
 |_,[]=>true
 |i,t::l=>(i==k||i6 t)&&pX k (i+1) l
theorem uK {k:Nat}: ∀{l:List TV} {i j:Nat} {t:TV},pX k i l=true->i+j≠k->l[j]?=some t->i6 t=true
 |[],_,_,_,_,_,h=>by simp at h
 |u::l,i,0,t,h,hj,ht=>by
  simp at ht;subst ht;simp only[pX,Bool.and_eq_true,Bool.or_eq_true,beq_iff_eq]at h;exact h.1.resolve_left (fun e=>hj (by rw[e,Nat.add_zero]))
 |u::l,i,j+1,t,h,hj,ht=>by
  simp only[pX,Bool.and_eq_true]at h;exact uK (i:=i+1) (j:=j) h.2 (by omega) (by simpa using ht)
theorem lV {k:Nat} {args:List TV} (h:pX k 0 args=true): ∀(j:Nat) t,j≠k->args[j]?=some t->i6 t=true:=fun j t hj ht=>uK (i:=0) (j:=j) h (by omega) ht
theorem dC {α:Type} (f:α->List PV) (l:List α): ∀e∈lc f l,∀x∈e,isPure x=true:=fun e he x hx=>by
 simp only[lc,List.mem_map]at he;obtain⟨y,_,rfl⟩:=he;simp only[List.mem_map]at hx;obtain⟨z,_,rfl⟩:=hx;rfl
theorem qT (F:List OObj):Hm [(0,F)]=famH 0 F:=by funext x;simp[Hm,famH]
section
variable {P:Program} {s:AS} {a:Act} {w0 w:World} {O X:Nat->Prop}
theorem KV (hrel:gn w0 O X s a w) {o:Oper} {c:Call} {f:FuncId} (ho:o.op= .call c) (hcal:c.callee= .value (.func f)) {args:List TV} {k off len fa fr:Nat} {o0 o':OObj} {r:TV} (hcon:pq P f args k off len o0 o' r) (hfa:fa<=4999) (hk:k<args.length) (hlen:0<len)
  (hev:gf s.ev c.args.toList=some (args.set k (.one (.sl fa fr off len)))) (hpure: ∀(j:Nat) t,j≠k->args[j]?=some t->i6 t=true) (hrow:(s.H fa)[fr]?=some o0) (hop: ∀e∈o0.elems,∀x∈e,isPure x=true) {K:Act->World->Prop} {Q:Exit->Act->World->Prop}
  (hK: ∀v w',gn w0 O X (AS.put ⟨s.tmps,bi s.H fa ((s.H fa).set fr o')⟩ o.dst r) (a.put o.dst v) w'->K (a.put o.dst v) w'):o.wp P a w K Q:=by
 obtain⟨h1,hsz,ρ,hinv,htm⟩:=hrel;have htm:b7 X ρ s a w:=htm;obtain⟨e1,e2⟩:=dV hev;have hk1:(args.set k (.one (.sl fa fr off len)))[k]?=some (.one (.sl fa fr off len)):=List.getElem?_set_self hk;obtain⟨x,hx,hxt⟩:=e2 k _ hk1;obtain⟨o1,g1,g2,g3⟩:=dn htm x _ hxt;rw[hrow]at g1;injection g1 with g1
 subst g1;obtain⟨b,cc,hρ,hv⟩: ∃b cc,ρ fa fr=some (b,cc)/\a.eval x= .slice (some ⟨b,off*o0.es,none⟩) len (cc-off):=by
  rcases g3 with⟨_,_,g4,_⟩|⟨b,cc,cap,g3,g5,_,g6⟩
  ·omega
  exact⟨b,cc,g3,by rw[g5,g6 hfa]⟩
 have hob:=hinv.objs fa fr o0 hrow;have hXb:Xo X ρ s.H b:= .inr ⟨fa,fr,o0,cc,hrow,hρ⟩;have hset:(fun j=>(Xo X ρ s.H j/\j≠b)\/j=b)=Xo X ρ s.H:=by
  funext j;apply propext;constructor
  ·rintro(h|rfl)
   ·exact h.1
   exact hXb
  intro h;by_cases hj:j=b
  ·exact .inr hj
  exact .inl ⟨h,hj⟩
 have hXlt: ∀j,Xo X ρ s.H j->j<w.heap.size:=fun b hb=>by
  rcases hb with hb|⟨x,y,o',n,g1,g2⟩
  ·exact hinv.bar b hb
  exact cL (hinv.objs x y o' g1) g2
 have hrun:=m8 (w:=w) ho hcal (e:=a.eval) rfl hcon.able;unfold Oper.wp;rw[hrun];simp only[Oper.upon];have hsize:c.args.size=args.length:=by simpa using e1.symm
 refine(hcon.calls (fun j=>Xo X ρ s.H j/\j≠b) w (c.args.map a.eval) b cc (fun j hj=>hXlt j hj.1) (fun h=>h.2 rfl) ?_ (by simp[hsize]) ?_ ?_).mono ?_
 ·rw[hset];exact j8 hop hob (by simp[rho1,hρ])
 ·rw[Array.getElem?_map];have:c.args[k]?=some x:=by simpa using hx
  rw[this];exact congrArg some hv
 ·intro j t hj ht;rw[hset];have ht2:(args.set k (.one (.sl fa fr off len)))[j]?=some t:=by rw[List.getElem?_set_ne (Ne.symm hj)];exact ht
  obtain⟨y,hy,hyt⟩:=e2 j t ht2;refine⟨a.eval y,?_,uL rfl (hpure j t hj ht) (dn htm y t hyt)⟩;rw[Array.getElem?_map];have:c.args[j]?=some y:=by simpa using hy
  rw[this];rfl
 rintro e w1 ⟨v,rfl,hbut,hob1,hr1⟩;show K (a.put o.dst v) w1;refine hK v w1 ?_;rw[hset]at hob1 hr1;have hfr:=(List.getElem?_eq_some_iff.1 hrow).1;have hnew: ∀(x y:Nat) o1,(bi s.H fa ((s.H fa).set fr o') x)[y]?=some o1->(x=fa/\y=fr/\o1=o')\/(¬(x=fa/\y=fr)/\(s.H x)[y]?=some o1):=fun x y o1 h=>by
  by_cases hx:x=fa
  ·subst hx;rw[bI]at h;by_cases hy:y=fr
   ·subst hy;rw[List.getElem?_set_self hfr]at h;injection h with h
    exact .inl ⟨rfl,rfl,h.symm⟩
   rw[List.getElem?_set_ne (Ne.symm hy)]at h;exact .inr ⟨fun h=>hy h.2,h⟩
  rw[bj hx]at h;exact .inr ⟨fun h=>hx h.1,h⟩
 have hlive: ∀(x y:Nat) o1,(s.H x)[y]?=some o1-> ∃o2,(bi s.H fa ((s.H fa).set fr o') x)[y]?=some o2/\o2.es=o1.es/\o1.elems.length<=o2.elems.length/\ρ x y=ρ x y:=fun x y o1 h=>by
  by_cases hx:x=fa
  ·subst hx;by_cases hy:y=fr
   ·subst hy;rw[hrow]at h;injection h with h
    subst h;exact⟨o',by rw[bI,List.getElem?_set_self hfr],hcon.es,by rw[hcon.size];exact ac _,rfl⟩
   exact⟨o1,by rw[bI,List.getElem?_set_ne (Ne.symm hy)];exact h,rfl,ac _,rfl⟩
  exact⟨o1,by rw[bj hx];exact h,rfl,ac _,rfl⟩
 have hback: ∀(x y:Nat) o1,(bi s.H fa ((s.H fa).set fr o') x)[y]?=some o1-> ∃o2,(s.H x)[y]?=some o2:=fun x y o1 h=>by
  rcases hnew x y o1 h with⟨rfl,rfl,_⟩|⟨_,h⟩
  ·exact⟨o0,hrow⟩
  exact⟨o1,h⟩
 have hXo:Xo X ρ (bi s.H fa ((s.H fa).set fr o'))=Xo X ρ s.H:=by
  funext j;apply propext;constructor
  ·rintro(h|⟨x,y,o1,n,h1,h2⟩)
   ·exact .inl h
   obtain⟨o2,h3⟩:=hback x y o1 h1;exact .inr ⟨x,y,o2,n,h3,h2⟩
  rintro(h|⟨x,y,o1,n,h1,h2⟩)
  ·exact .inl h
  obtain⟨o2,h3,_⟩:=hlive x y o1 h1;exact .inr ⟨x,y,o2,n,h3,h2⟩
 have mono: ∀x u,AV.rel ρ s.H (Xo X ρ s.H) w x u->AV.rel ρ (bi s.H fa ((s.H fa).set fr o')) (Xo X ρ (bi s.H fa ((s.H fa).set fr o'))) w1 x u:=fun x u hx=>
  kK hXb hbut hlive (fun x y o1 b' c' h1 h2 _=>by
   obtain⟨o2,h3⟩:=hback x y o1 h1;exact .inr ⟨x,y,o2,c',h3,h2⟩) hx
 have hinv':iF w0 O X (bi s.H fa ((s.H fa).set fr o')) ρ w1:=by
  refine⟨hinv.keep.but hbut (hinv.old fa fr o0 b cc hrow hρ).1,fun x y o1 h=>?_,fun x y x' y' o1 o2 j c1 c2 h h' q q'=>?_,fun x y o1 j c1 h q=>?_,fun j hj=>Nat.lt_of_lt_of_le (hinv.bar j hj) hbut.size,fun x y o1 h=>?_⟩
  ·rcases hnew x y o1 h with⟨rfl,rfl,rfl⟩|⟨hne,h⟩
   ·rw[hXo];exact j8 hcon.pure hob1 (by simp[rho1,hρ])
   refine eH (hinv.objs x y o1 h) rfl (fun j c1 hj=>?_) mono;refine hbut.block j (cL (hinv.objs x y o1 h) hj) ?_;rintro rfl;exact hne (hinv.inj x y fa fr o1 o0 j c1 cc h hrow hj hρ)
  ·obtain⟨o3,h3⟩:=hback x y o1 h;obtain⟨o4,h4⟩:=hback x' y' o2 h';exact hinv.inj x y x' y' o3 o4 j c1 c2 h3 h4 q q'
  ·obtain⟨o3,h3⟩:=hback x y o1 h;exact hinv.old x y o3 j c1 h3 q
  rcases hnew x y o1 h with⟨rfl,rfl,rfl⟩|⟨hne,h⟩
  ·exact dH hcon.pure
  exact hinv.self x y o1 h
 have htm':b7 X ρ ⟨s.tmps,bi s.H fa ((s.H fa).set fr o')⟩ a w1:=fun t x hx=>by
  obtain⟨u,u1,u2⟩:=htm t x hx;exact⟨u,u1,TV.rel_map u2 mono⟩
 refine⟨by rw[jI];exact h1,by rw[mX,gz];exact hsz,ρ,by rw[jH];exact hinv',uN hsz htm' ?_⟩;show r.rel ρ (bi s.H fa ((s.H fa).set fr o')) (Xo X ρ (bi s.H fa ((s.H fa).set fr o'))) w1 v;rw[hXo];exact nR hcon.noref hr1
def cwTs (ops:Array Oper) (m:Nat) (s:AS):Option (FuncId×List TV):=match ops[m]? with
 |some o=>match o.guard,o.op with
  |none,.call c=>match c.callee with
   | .value (.func f)=>match gf s.ev c.args.toList with
    |some ts=>some (f,ts)
    |none=>none
   |_=>none
  |_,_=>none
 |none=>none
def cwD (ops:Array Oper) (m:Nat):Option Tmp:=(ops[m]?).bind (·.dst)
def GW (ops:Array Oper) (m:Nat) (r:TV) (fa fr:Nat) (o':OObj) (s:AS):AS:=AS.put ⟨s.tmps,bi s.H fa ((s.H fa).set fr o')⟩ (cwD ops m) r
structure N5 (ops:Array Oper) (m:Nat) (f:FuncId) (args:List TV) (k off len fa fr:Nat) (o0:OObj) (s:AS):Prop where
 ts:cwTs ops m s=some (f,args.set k (.one (.sl fa fr off len)))
 row:(s.H fa)[fr]?=some o0
theorem wb (m:Nat) {f:FuncId} {args:List TV} {k off len:Nat} {o0 o':OObj} {r:TV} (hcon:pq P f args k off len o0 o' r) (fa fr:Nat) (items:List (be P)) (ow:List Nat) {id:Nat} {ops:Array Oper} {Q:Exit->AS->Prop} (hk:k<args.length) (hlen:0<len) (hpure: ∀(j:Nat) t,j≠k->args[j]?=some t->i6 t=true) (hop: ∀e∈o0.elems,∀x∈e,isPure x=true) (hl:s.tmps.length<=1000000) (hm:m<ops.toList.length)
  (h:db P (items.map be.a) ow (bQ ops (ops.toList.take m) 0) (some s) (fun s1=>N5 ops m f args k off len fa fr o0 s1/\s1.tmps.length<=1000000/\db P (items.map be.a) ow (bQ ops (ops.toList.drop (m+1)) (m+1)) (some (GW ops m r fa fr o' s1)) (Q .normal))) (hfa:fa<=4999):bf P (.region id ops false) Q s:=fun w0 O X a w r0=>by
 obtain⟨s1,h1,⟨q1,q2⟩,hl1,h2⟩:=cn P (items.map be.a) ow ops _ 0 s _ h;obtain⟨s',h3,h4⟩:=cn P (items.map be.a) ow ops _ (m+1) _ _ h2;obtain⟨o,ho⟩: ∃o,ops[m]?=some o:=⟨ops[m],by simp at hm;simp[hm]⟩;unfold cwTs at q1;rw[ho]at q1;simp only at q1;split at q1
 ·rename_i c hg hop1;split at q1
  ·rename_i f' hcal;split at q1
   ·rename_i ts hts;injection q1 with q1
    injection q1 with q1 q3
    subst q1 q3;refine wp_region ?_;have hsz:ops.size=(ops.toList.take m).length+(1+(ops.toList.drop (m+1)).length):=by simp at hm⊢;omega
    rw[hsz,List.range_eq_range',<- List.range'_append_1,Nat.zero_add];have hml:(ops.toList.take m).length=m:=by rw[List.length_take];omega
    refine jK (be.ok items) (ops.toList.take m) 0 s s1 a w (fun j o hj=>?_) h1 r0 fun a' w' r'=>?_
    ·rw[List.getElem?_take]at hj;split at hj
     ·simpa using hj
     cases hj
    rw[hml,Nat.add_comm 1,List.range'_succ];simp only[wpOps,ho];rw[if_pos (by simp[Region.wanted,hg])];refine .inl (KV r' hop1 hcal hcon hfa hk hlen hts hpure q2 hop fun v w1 hr1=>?_);refine gH (be.ok items) (Q:=fun e a' w'=> ∃s',Q e s'/\gn w0 O X s' a' w') (ops.toList.drop (m+1)) (m+1) _ s' _ _ (fun j o hj=>?_) h3 ?_ (fun a' w' hr=>⟨s',h4,hr⟩)
    ·rw[List.getElem?_drop]at hj;simpa using hj
    have:cwD ops m=o.dst:=by unfold cwD;rw[ho];rfl
    unfold GW;rw[this];exact hr1
   cases q1
  cases q1
 cases q1
theorem s8 (m:Nat) {f:FuncId} {args:List TV} {k off len:Nat} {o0 o':OObj} {r:TV} (hcon:pq P f args k off len o0 o' r) (fa fr:Nat) (items:List (be P)) (ow:List Nat) {id:Nat} {ops:Array Oper} {y:Code} {Q:Exit->AS->Prop} (hk:k<args.length) (hlen:0<len) (hpure: ∀(j:Nat) t,j≠k->args[j]?=some t->i6 t=true) (hop: ∀e∈o0.elems,∀x∈e,isPure x=true) (hl:s.tmps.length<=1000000) (hm:m<ops.toList.length)
  (h: ∀K:AS->Prop,(∀s1,(N5 ops m f args k off len fa fr o0 s1/\s1.tmps.length<=1000000/\ ∀K:AS->Prop,(∀s',bf P y Q s'->K s')->db P (items.map be.a) ow (bQ ops (ops.toList.drop (m+1)) (m+1)) (some (GW ops m r fa fr o' s1)) K)->K s1)->db P (items.map be.a) ow (bQ ops (ops.toList.take m) 0) (some s) K) (hfa:fa<=4999:=by decide):bf P (.seq (.region id ops false) y) Q s:=
 aD (wb m hcon fa fr items ow hk hlen hpure hop hl hm (h _ fun s1 ⟨q1,q2,q3⟩=>⟨q1,q2,q3 _ fun _ h=>h⟩) hfa)
theorem s7 (m:Nat) {f:FuncId} {args:List TV} {k off len:Nat} {o0 o':OObj} {r:TV} (hcon:pq P f args k off len o0 o' r) (fa fr:Nat) (items:List (be P)) (ow:List Nat) {id:Nat} {ops:Array Oper} {Q:Exit->AS->Prop} (hk:k<args.length) (hlen:0<len) (hpure: ∀(j:Nat) t,j≠k->args[j]?=some t->i6 t=true) (hop: ∀e∈o0.elems,∀x∈e,isPure x=true) (hl:s.tmps.length<=1000000) (hm:m<ops.toList.length)
  (h: ∀K:AS->Prop,(∀s1,(N5 ops m f args k off len fa fr o0 s1/\s1.tmps.length<=1000000/\ ∀K:AS->Prop,(∀s',Q .normal s'->K s')->db P (items.map be.a) ow (bQ ops (ops.toList.drop (m+1)) (m+1)) (some (GW ops m r fa fr o' s1)) K)->K s1)->db P (items.map be.a) ow (bQ ops (ops.toList.take m) 0) (some s) K) (hfa:fa<=4999:=by decide):bf P (.region id ops false) Q s:=
 wb m hcon fa fr items ow hk hlen hpure hop hl hm (h _ fun s1 ⟨q1,q2,q3⟩=>⟨q1,q2,q3 _ fun _ h=>h⟩) hfa
end
end
section
def m9:AV->Bool
 | .p (.raw _)=>true
 | .p (.sl [])=>true
 | .p _=>false
 |_=>true
def CP:TV->Bool
 | .one x=>m9 x
 | .agg cs=>cs.all m9
 | .tup ts=>ts.all fun t=>t.2.all m9
 | .fn _ cs=>cs.all m9
def jl (r:CallRes):Prop:=CP r.r=true/\ ∀o∈r.fam,∀e∈o.elems,∀x∈e,m9 x=true
def JI:TV->Bool
 | .fn _ cs=>cs.all isPure
 |t=>i6 t
def ND (H:OH) (t u:TV):Prop:=(JI t=true/\u=t)\/ ∃a r off len,t= .one (.sl a r off len)/\r6 H a/\fD H a t=u
def ArgsFz (H:OH):List TV->List TV->Prop
 |[],[]=>True
 |t::ts,u::us=>ND H t u/\ArgsFz H ts us
 |_,_=>False
theorem qJ {H:OH}: ∀{ts us:List TV},ArgsFz H ts us->us.length=ts.length/\ ∀(j:Nat) u,us[j]?=some u-> ∃t,ts[j]?=some t/\ND H t u
 |[],[],_=>⟨rfl,fun j u h=>by simp at h⟩
 |t::ts,u::us,⟨h1,h2⟩=>by
  obtain⟨g1,g2⟩:=qJ h2;refine⟨by simp[g1],fun j v hv=>?_⟩
  match j,hv with
  |0,hv=>exact⟨t,rfl,by simp at hv;subst hv;exact h1⟩
  |j+1,hv=>exact g2 j v (by simpa using hv)
 |[],_::_,h=>h.elim
 |_::_,[],h=>h.elim
section
variable {P:Program} {s:AS} {a:Act} {w0 w w1:World} {O X:Nat->Prop} {ρ:fo} {H:OH}
theorem nd {Y Y':Nat->Prop} {x:AV} {v:Value} (hs:m9 x=true) (h:AV.rel ρ H Y w x v):AV.rel ρ H Y' w x v:=by
 cases x with
 |p x=>
  cases x with
  |raw u=>
   obtain⟨rfl,h1⟩:=cf (ρ:=ρ) (H:=H) h;exact cz.raw _ h1
  |sl xs=>
   cases xs with
   |nil=>
    have h:cz Y w (.sl []) v:=h;generalize hx:PV.sl []=x at h;cases h with
    |raw v h=>cases hx
    |ptr b off cs f hX hb hc hr=>cases hx
    |nil a c=>exact cz.nil _ _
    |sl b off es cap xs f hX hb hes hcap hm hc hr=>
     injection hx with hx
     subst hx;exact cz.nil _ _
   |cons e xs=>cases hs
  |ptr cs=>cases hs
 |sl a r off len=>exact h
 |ptr a r i j=>exact h
 |junk=>trivial
theorem vd {Y Y':Nat->Prop} {t:TV} {v:Value} (hs:CP t=true) (h:t.rel ρ H Y w v):t.rel ρ H Y' w v:=by
 have agg: ∀cs v,cs.all m9=true->bX ρ H Y w cs v->bX ρ H Y' w cs v:=fun cs v hc ⟨vs,g1,g2,g3⟩=>by
  simp only[ai]at hc;exact⟨vs,g1,g2,fun j x hx=>by obtain⟨u,u1,u2,u3⟩:=g3 j x hx;exact⟨u,u1,u2,nd (hc x (au hx)) u3⟩⟩
 cases t with
 |one x=>exact nd hs h
 |agg cs=>exact agg cs v hs h
 |fn f cs=>obtain⟨u,h1,h2⟩:=h;exact⟨u,agg cs u hs h1,h2⟩
 |tup ts=>
  simp only[CP,ai]at hs;obtain⟨vs,g1,g2,g3⟩:=h;refine⟨vs,g1,g2,fun j c cs hj=>?_⟩;obtain⟨u,u1,u2⟩:=g3 j c cs hj;have hall:=hs (c,cs) (au hj);refine⟨u,u1,?_⟩;rcases u2 with⟨u2,u3⟩|⟨u2,x,rfl,u4⟩
  ·exact .inl ⟨u2,agg _ _ (by simpa only[ai] using hall) u3⟩
  exact .inr ⟨u2,_,rfl,nd (hall x (by simp)) u4⟩
theorem ka {ρ':fo} {H':OH} {Y:Nat->Prop} {t:TV} {v:Value} (hn:i6 t=true) (h:t.rel ρ H Y w v):t.rel ρ' H' (fun _=>False) w v:=by
 refine uL (Y:=fun _=>False) rfl hn ?_ (ρ:=ρ) (H:=H);unfold i6 at hn;split at hn
 ·exact cz.weaken (fun _ _ h=>h.elim) h
 ·rename_i cs;simp only[ai]at hn;obtain⟨vs,g1,g2,g3⟩:=h;refine⟨vs,g1,g2,fun j x hx=>?_⟩;obtain⟨u,u1,u2,u3⟩:=g3 j x hx;have:=hn x (au hx);refine⟨u,u1,u2,?_⟩;cases x<;>first|exact cz.weaken (fun _ _ h=>h.elim) u3|cases this
 cases hn
theorem rS {ρ':fo} {H':OH} {Y:Nat->Prop} {t:TV} {v:Value} (hn:JI t=true) (h:t.rel ρ H Y w v):t.rel ρ' H' (fun _=>False) w v:=by
 cases t with
 |fn f cs=>
  obtain⟨u,h1,h2⟩:=h;exact⟨u,ka (t:= .agg cs) hn h1,h2⟩
 |one x=>exact ka hn h
 |agg cs=>exact ka hn h
 |tup ts=>exact ka hn h
theorem DZ {Y:Nat->Prop} (hob: ∀(x r:Nat) (o:OObj),(H x)[r]?=some o->objRel ρ H Y w x r o) {fa r off len:Nat} (hok:r6 H fa) {u:TV} (hu:fD H fa (.one (.sl fa r off len))=u) {v:Value} (h:AV.rel ρ H Y w (.sl fa r off len) v):u.rel (fun _ _=>none) (fun _=>[]) (fun _=>False) w v:=by
 have hpure: ∀x u,isPure x=true->AV.rel ρ H Y w x u->cz (fun _=>False) w (yS x) u:=fun x u hp h=>by
  cases x<;>first|exact cz.weaken (fun _ _ h=>h.elim) h|cases hp
 have hcell: ∀(r:Nat) o,(H fa)[r]?=some o-> ∀e∈o.elems,∀x∈e,∀u,AV.rel ρ H Y w x u->cz (fun _=>False) w (gQ H fa x) u:=fun r o ho e he x hx u hu=>by
  rcases hok r o ho e he x hx with hp|⟨r',off,len,o',rfl,ho',hpr⟩
  ·have:=hpure x u hp hu;cases x<;>first|exact this|cases hp
  simp only[gQ,ho'];exact nX (hob fa r' o' ho') ho' (fun e he y hy u hu=>hpure y u (hpr e he y hy) hu) (fun _ _ _ h=>h) hu
 subst hu;have h':=h;obtain⟨o,g1,g2,g3⟩:=h;simp only[fD,eG,if_true,g1];exact nX (hob fa r o g1) g1 (hcell r o g1) (fun _ _ _ h=>h) h'
theorem Jh (hrel:gn w0 O X s a w) {o:Oper} {c:Call} {f:FuncId} (ho:o.op= .call c) (hcal:c.callee= .value (.func f)) {args:List TV} {res:CallRes} (hcon:CallC P f args res) (hsafe:jl res) {ts:List TV} {d:Nat}
  (hev:gf s.ev c.args.toList=some ts) (harg:ArgsFz s.H ts args) (hd:res.fam≠[]->s.H d=[]) (hdst:o.dst=some d) {K:Act->World->Prop} {Q:Exit->Act->World->Prop}
  (hK: ∀v w',gn w0 O X (ja s d (fF d res.r) (res.fam.map (dj d))) (a.put o.dst v) w'->K (a.put o.dst v) w'):o.wp P a w K Q:=by
 obtain⟨h1,hsz,ρ,hinv,htm⟩:=hrel;have htm:b7 X ρ s a w:=htm;obtain⟨e1,e2⟩:=dV hev;obtain⟨q1,q2⟩:=qJ harg;have hXlt: ∀j,Xo X ρ s.H j->j<w.heap.size:=fun b hb=>by
  rcases hb with hb|⟨x,y,o',n,g1,g2⟩
  ·exact hinv.bar b hb
  exact cL (hinv.objs x y o' g1) g2
 have hrun:=m8 (w:=w) ho hcal (e:=a.eval) rfl hcon.1;unfold Oper.wp;rw[hrun];simp only[Oper.upon];have hsize:c.args.size=args.length:=by rw[q1];simpa using e1.symm
 refine(hcon.2 (fun _=>False) w (c.args.map a.eval) (fun j hj=>hj.elim) (by simp[hsize]) fun j u hu=>?_).mono ?_
 ·obtain⟨t,ht,hat⟩:=q2 j u hu;obtain⟨y,hy,hyt⟩:=e2 j t ht;refine⟨a.eval y,?_,?_⟩
  ·rw[Array.getElem?_map];have:c.args[j]?=some y:=by simpa using hy
   rw[this];rfl
  have hr:=dn htm y t hyt;rcases hat with⟨hp,rfl⟩|⟨fa,r,off,len,rfl,hok,hfz⟩
  ·exact rS hp hr
  exact DZ hinv.objs hok hfz hr
 rintro e w1 ⟨v,rfl,ρc,hi,hr⟩;show K (a.put o.dst v) w1;have hfam: ∀(x r:Nat) o,(famH 0 res.fam x)[r]?=some o->o∈res.fam:=fun x r o ho=>by
  unfold famH at ho;split at ho
  ·exact au ho
  simp at ho
 have hob': ∀{Y Y':Nat->Prop} (x r:Nat) o,o∈res.fam->objRel ρc (famH 0 res.fam) Y w1 x r o->objRel ρc (famH 0 res.fam) Y' w1 x r o:=fun{Y Y'} x r o hmem hob=>by
  obtain⟨z1,z2,z3⟩:=hob;refine⟨z1,z2,?_⟩;cases hr0:ρc x r with
  |none=>rw[hr0]at z3;exact z3
  |some bc=>
   obtain⟨b,n⟩:=bc;rw[hr0]at z3;obtain⟨cells,p1,p2,p3,p4,p5⟩:=z3;refine⟨cells,p1,p2,p3,p4,fun i e j z he hz=>?_⟩;obtain⟨u,u1,u2,u3⟩:=p5 i e j z he hz;exact⟨u,u1,u2,nd (hsafe.2 o hmem e (au he) z (au hz)) u3⟩
 by_cases hpl:res.plain=true
 ·rw[hdst];have:=kL (P:=P) (it:=(⟨0,f,args,res⟩:dY P)) (d:=d) (v:=v) (w1:=w1) (ρc:=ρc) h1 hsz hinv htm rfl rfl (fun h:res.fam.map (dj d)≠[]=>hd (by simpa using h)) (by rw[if_pos hpl];exact hi) (by rw[if_pos hpl];exact hr);rw[<- hdst]at this⊢;exact hK v w1 this
 have hi':iF w (fun _=>False) (Xo X ρ s.H) (famH 0 res.fam) ρc w1:=
  ⟨hi.keep,fun x r o ho=>hob' x r o (hfam x r o ho) (hi.objs x r o ho),hi.inj,fun x r o b c ho hb=>by
   have:=hi.old x r o b c ho hb;refine⟨this.1,fun hX=>?_⟩;rcases this.1 with h|h
   ·have:=hXlt b hX;omega
   exact h,fun b hb=>Nat.lt_of_lt_of_le (hXlt b hb) hi.keep.size,hi.self⟩
 have:=kL (P:=P) (it:=(⟨0,f,args,res⟩:dY P)) (d:=d) (v:=v) (w1:=w1) (ρc:=ρc) h1 hsz hinv htm rfl rfl (fun h:res.fam.map (dj d)≠[]=>hd (by simpa using h)) (by rw[if_neg hpl];exact hi') (by rw[if_neg hpl];exact vd hsafe.1 hr);rw[hdst]at hK⊢;exact hK v w1 this
def GV (ops:Array Oper) (m:Nat) (res:CallRes) (s:AS):AS:=match cwD ops m with
 |some d=>ja s d (fF d res.r) (res.fam.map (dj d))
 |none=>s
structure La (ops:Array Oper) (m:Nat) (f:FuncId) (args:List TV) (res:CallRes) (s:AS):Prop where
 ts: ∃ts,cwTs ops m s=some (f,ts)/\ArgsFz s.H ts args
 dst: ∃d,cwD ops m=some d/\(res.fam≠[]->s.H d=[])
theorem EX (m:Nat) {f:FuncId} {args:List TV} {res:CallRes} (hcon:CallC P f args res) (hsafe:jl res) (items:List (be P)) (ow:List Nat) {id:Nat} {ops:Array Oper} {Q:Exit->AS->Prop} (hl:s.tmps.length<=1000000) (hm:m<ops.toList.length)
  (h:db P (items.map be.a) ow (bQ ops (ops.toList.take m) 0) (some s) (fun s1=>La ops m f args res s1/\s1.tmps.length<=1000000/\db P (items.map be.a) ow (bQ ops (ops.toList.drop (m+1)) (m+1)) (some (GV ops m res s1)) (Q .normal))):bf P (.region id ops false) Q s:=fun w0 O X a w r0=>by
 obtain⟨s1,h1,⟨⟨ts0,q1,q2⟩,⟨d,qd,qe⟩⟩,hl1,h2⟩:=cn P (items.map be.a) ow ops _ 0 s _ h;obtain⟨s',h3,h4⟩:=cn P (items.map be.a) ow ops _ (m+1) _ _ h2;obtain⟨o,ho⟩: ∃o,ops[m]?=some o:=⟨ops[m],by simp at hm;simp[hm]⟩;have hdst:o.dst=some d:=by
  unfold cwD at qd;rw[ho]at qd;exact qd
 unfold cwTs at q1;rw[ho]at q1;simp only at q1;split at q1
 ·rename_i c hg hop1;split at q1
  ·rename_i f' hcal;split at q1
   ·rename_i ts hts;injection q1 with q1
    injection q1 with q1 q3
    subst q1 q3;refine wp_region ?_;have hsz:ops.size=(ops.toList.take m).length+(1+(ops.toList.drop (m+1)).length):=by simp at hm⊢;omega
    rw[hsz,List.range_eq_range',<- List.range'_append_1,Nat.zero_add];have hml:(ops.toList.take m).length=m:=by rw[List.length_take];omega
    refine jK (be.ok items) (ops.toList.take m) 0 s s1 a w (fun j o hj=>?_) h1 r0 fun a' w' r'=>?_
    ·rw[List.getElem?_take]at hj;split at hj
     ·simpa using hj
     cases hj
    rw[hml,Nat.add_comm 1,List.range'_succ];simp only[wpOps,ho];rw[if_pos (by simp[Region.wanted,hg])];refine .inl (Jh r' hop1 hcal hcon hsafe hts q2 qe hdst fun v w1 hr1=>?_);refine gH (be.ok items) (Q:=fun e a' w'=> ∃s',Q e s'/\gn w0 O X s' a' w') (ops.toList.drop (m+1)) (m+1) _ s' _ _ (fun j o hj=>?_) h3 ?_ (fun a' w' hr=>⟨s',h4,hr⟩)
    ·rw[List.getElem?_drop]at hj;simpa using hj
    unfold GV;rw[qd];exact hr1
   cases q1
  cases q1
 cases q1
theorem oJ (m:Nat) {f:FuncId} {args:List TV} {res:CallRes} (hcon:CallC P f args res) (hsafe:jl res) (items:List (be P)) (ow:List Nat) {id:Nat} {ops:Array Oper} {Q:Exit->AS->Prop} (hl:s.tmps.length<=1000000) (hm:m<ops.toList.length)
  (h: ∀K:AS->Prop,(∀s1,(La ops m f args res s1/\s1.tmps.length<=1000000/\ ∀K:AS->Prop,(∀s',Q .normal s'->K s')->db P (items.map be.a) ow (bQ ops (ops.toList.drop (m+1)) (m+1)) (some (GV ops m res s1)) K)->K s1)->db P (items.map be.a) ow (bQ ops (ops.toList.take m) 0) (some s) K):bf P (.region id ops false) Q s:=
 EX m hcon hsafe items ow hl hm (h _ fun s1 ⟨q1,q2,q3⟩=>⟨q1,q2,q3 _ fun _ h=>h⟩)
end
end
def qV (a e d:Nat):AV->AV
 | .sl b r off len=>if b=a then .sl d r off len else if b=e then .sl d (r+1) off len else .sl b r off len
 | .ptr b r i j=>if b=a then .ptr d r i j else if b=e then .ptr d (r+1) i j else .ptr b r i j
 |x=>x
def LZ (a e d:Nat):TV->TV
 | .one x=> .one (qV a e d x)
 | .agg cs=> .agg (cs.map (qV a e d))
 | .fn f cs=> .fn f (cs.map (qV a e d))
 | .tup ts=> .tup (ts.map fun t=>(t.1,t.2.map (qV a e d)))
theorem IK {a e d:Nat} {ρ ρ':fo} {H H':OH} {Y Y':Nat->Prop} {w:World} {t:TV} {v:Value} (h:t.rel ρ H Y w v) (hk: ∀x v,x.rel ρ H Y w v->AV.rel ρ' H' Y' w (qV a e d x) v):(LZ a e d t).rel ρ' H' Y' w v:=by
 have hagg: ∀cs v,bX ρ H Y w cs v->bX ρ' H' Y' w (cs.map (qV a e d)) v:=fun cs v ⟨vs,g1,g2,g3⟩=>by
  refine⟨vs,g1,by simpa using g2,fun j x hx=>?_⟩;rw[ax]at hx;obtain⟨y,hy,rfl⟩:=Option.map_eq_some_iff.1 hx;obtain⟨u,u1,u2,u3⟩:=g3 j y hy;exact⟨u,u1,u2,hk y u u3⟩
 cases t with
 |one x=>exact hk x v h
 |agg cs=>exact hagg cs v h
 |fn f cs=>obtain⟨u,h1,h2⟩:=h;exact⟨u,hagg cs u h1,h2⟩
 |tup ts=>
  obtain⟨vs,g1,g2,g3⟩:=h;refine⟨vs,g1,by simpa using g2,fun j c cs hj=>?_⟩;rw[ax]at hj;obtain⟨z,hz,hzz⟩:=Option.map_eq_some_iff.1 hj;obtain⟨c',cs'⟩:=z;simp at hzz;obtain⟨rfl,rfl⟩:=hzz;obtain⟨u,u1,u2⟩:=g3 j c' cs' hz;refine⟨u,u1,?_⟩;rcases u2 with⟨u2,u3⟩|⟨u2,q',rfl,u4⟩
  ·exact .inl ⟨u2,hagg _ _ u3⟩
  exact .inr ⟨u2,_,rfl,hk _ _ u4⟩
theorem wa {s:AS} (a e d:Nat) {oa oe:OObj} (ha:s.H a=[oa]) (he:s.H e=[oe]) (hd:s.H d=[]) (hpa:n6 oa) (hpe:n6 oe) (hae:a≠e) (ha5:a<=4999) (he5:e<=4999):
  b8 s ⟨s.tmps.map (LZ a e d),bi (bi (bi s.H a []) e []) d [oa,oe]⟩:=by
 rintro w0 O X act w ⟨h1,hsz,ρ,hinv,htm⟩;have htm:b7 X ρ s act w:=htm;have had:a≠d:=by rintro rfl;rw[ha]at hd;cases hd
 have hed:e≠d:=by rintro rfl;rw[he]at hd;cases hd
 generalize hH:bi (bi (bi s.H a []) e []) d [oa,oe]=H1;generalize hρ1:(fun x y=>if x=d then(if y=0 then ρ a 0 else if y=1 then ρ e 0 else none)else ρ x y:fo)=ρ1;have hHd:H1 d=[oa,oe]:=by rw[<- hH];exact bI
 have hHa:H1 a=[]:=by rw[<- hH,bj had,bj hae,bI]
 have hHe:H1 e=[]:=by rw[<- hH,bj hed,bI]
 have hHn: ∀x,x≠d->x≠a->x≠e->H1 x=s.H x:=fun x h1 h2 h3=>by rw[<- hH,bj h1,bj h3,bj h2]
 have hρn: ∀x y,x≠d->ρ1 x y=ρ x y:=fun x y h=>by rw[<- hρ1];exact if_neg h
 have hρa:ρ1 d 0=ρ a 0:=by rw[<- hρ1];simp
 have hρe:ρ1 d 1=ρ e 0:=by rw[<- hρ1];simp
 have one: ∀(z:Nat) (oz:OObj) r o,s.H z=[oz]->(s.H z)[r]?=some o->r=0/\o=oz:=fun z oz r o hz h=>by
  rw[hz]at h;cases r with
  |zero=>simp at h;exact⟨rfl,h.symm⟩
  |succ r=>simp at h
 have ha0:(s.H a)[0]?=some oa:=by rw[ha];rfl
 have he0:(s.H e)[0]?=some oe:=by rw[he];rfl
 have back: ∀(x y:Nat) o,(H1 x)[y]?=some o-> ∃x' y',(s.H x')[y']?=some o/\ρ1 x y=ρ x' y'/\((x=d/\y=0/\x'=a/\y'=0/\o=oa)\/(x=d/\y=1/\x'=e/\y'=0/\o=oe)\/(x≠d/\x≠a/\x≠e/\x'=x/\y'=y)):=fun x y o ho=>by
  by_cases hxd:x=d
  ·subst hxd;rw[hHd]at ho
   match y,ho with
   |0,ho=>simp at ho;subst ho;exact⟨a,0,ha0,hρa,.inl ⟨rfl,rfl,rfl,rfl,rfl⟩⟩
   |1,ho=>simp at ho;subst ho;exact⟨e,0,he0,hρe,.inr (.inl ⟨rfl,rfl,rfl,rfl,rfl⟩)⟩
   |y+2,ho=>simp at ho
  by_cases hxa:x=a
  ·subst hxa;rw[hHa]at ho;simp at ho
  by_cases hxe:x=e
  ·subst hxe;rw[hHe]at ho;simp at ho
  rw[hHn x hxd hxa hxe]at ho;exact⟨x,y,ho,hρn _ _ hxd,.inr (.inr ⟨hxd,hxa,hxe,rfl,rfl⟩)⟩
 have hXo: ∀c,Xo X ρ1 H1 c->Xo X ρ s.H c:=fun c hc=>by
  rcases hc with hc|⟨x,y,o,n,h1,h2⟩
  ·exact .inl hc
  obtain⟨x',y',g1,g2,_⟩:=back x y o h1;exact .inr ⟨x',y',o,n,g1,by rw[<- g2];exact h2⟩
 have hav: ∀x v,AV.rel ρ s.H (Xo X ρ s.H) w x v->AV.rel ρ1 H1 (Xo X ρ1 H1) w (qV a e d x) v:=fun x v h=>by
  cases x with
  |p x=>exact cz.weaken (fun c _ hc=>hXo c hc) h
  |sl b r off len=>
   obtain⟨o,g1,g2,g3⟩:=h;simp only[qV];by_cases hb:b=a
   ·subst hb;obtain⟨rfl,rfl⟩:=one b oa r o ha g1;rw[if_pos rfl];exact⟨o,by rw[hHd];rfl,g2,rp ha5 g3 hρa⟩
   rw[if_neg hb];by_cases hb':b=e
   ·subst hb';obtain⟨rfl,rfl⟩:=one b oe r o he g1;rw[if_pos rfl];exact⟨o,by rw[hHd];rfl,g2,rp he5 g3 hρe⟩
   rw[if_neg hb'];have hbd:b≠d:=by rintro rfl;rw[hd]at g1;simp at g1
   exact⟨o,by rw[hHn b hbd hb hb'];exact g1,g2,by rw[hρn _ _ hbd];exact g3⟩
  |ptr b r i j=>
   obtain⟨o,b',c,g1,g2,g3⟩:=h;simp only[qV];by_cases hb:b=a
   ·subst hb;obtain⟨rfl,rfl⟩:=one b oa r o ha g1;rw[if_pos rfl];exact⟨o,b',c,by rw[hHd];rfl,by rw[hρa];exact g2,g3⟩
   rw[if_neg hb];by_cases hb':b=e
   ·subst hb';obtain⟨rfl,rfl⟩:=one b oe r o he g1;rw[if_pos rfl];exact⟨o,b',c,by rw[hHd];rfl,by rw[hρe];exact g2,g3⟩
   rw[if_neg hb'];have hbd:b≠d:=by rintro rfl;rw[hd]at g1;simp at g1
   exact⟨o,b',c,by rw[hHn b hbd hb hb'];exact g1,by rw[hρn _ _ hbd];exact g2,g3⟩
  |junk=>trivial
 have hcell: ∀(x':Nat) z u,ew x' z->x'≠a->x'≠e->AV.rel ρ s.H (Xo X ρ s.H) w z u->AV.rel ρ1 H1 (Xo X ρ1 H1) w z u:=fun x' z u hs h1 h2 h=>by
  have:=hav z u h;cases z with
  |sl b r off len=>
   have hs:b=x':=hs;simpa[qV,hs,h1,h2] using this
  |ptr b r i j=>
   have hs:b=x':=hs;simpa[qV,hs,h1,h2] using this
  |p x=>exact this
  |junk=>trivial
 have hpure: ∀z u,isPure z=true->AV.rel ρ s.H (Xo X ρ s.H) w z u->AV.rel ρ1 H1 (Xo X ρ1 H1) w z u:=fun z u hp h=>by
  cases z with
  |p x=>exact cz.weaken (fun c _ hc=>hXo c hc) h
  |_=>cases hp
 refine⟨h1,by simpa using hsz,ρ1,⟨hinv.keep,fun x y o ho=>?_,fun x y x' y' o o' c n n' ho ho' hr hr'=>?_,fun x y o c n ho hr=>?_,hinv.bar,fun x y o ho=>?_⟩,fun t x hx=>?_⟩
 ·obtain⟨x',y',g1,g2,g3⟩:=back x y o ho;obtain⟨q1,q2,q3⟩:=hinv.objs x' y' o g1;refine⟨q1,q2,?_⟩;rw[g2];cases hr:ρ x' y' with
  |none=>rw[hr]at q3;exact q3
  |some bc=>
   obtain⟨b',c⟩:=bc;rw[hr]at q3;obtain⟨cells,p1,p2,p3,p4,p5⟩:=q3;refine⟨cells,p1,p2,p3,p4,fun i el j z he' hz=>?_⟩;obtain⟨u,u1,u2,u3⟩:=p5 i el j z he' hz;refine⟨u,u1,u2,?_⟩;rcases g3 with⟨_,_,_,_,rfl⟩|⟨_,_,_,_,rfl⟩|⟨k1,k2,k3,rfl,rfl⟩
   ·exact hpure z u (hpa el (au he') z (au hz)) u3
   ·exact hpure z u (hpe el (au he') z (au hz)) u3
   exact hcell x' z u (hinv.self x' y' o g1 el (au he') z (au hz)) k2 k3 u3
 ·obtain⟨x1,y1,g1,g2,g3⟩:=back x y o ho;obtain⟨x2,y2,k1,k2,k3⟩:=back x' y' o' ho';obtain⟨e1,e2⟩:=hinv.inj x1 y1 x2 y2 o o' c n n' g1 k1 (by rw[<- g2];exact hr) (by rw[<- k2];exact hr');rcases g3 with⟨a1,a2,a3,a4,_⟩|⟨a1,a2,a3,a4,_⟩|⟨a1,a2,a3,a4,a5⟩<;>rcases k3 with⟨b1,b2,b3,b4,_⟩|⟨b1,b2,b3,b4,_⟩|⟨b1,b2,b3,b4,b5⟩<;>omega
 ·obtain⟨x1,y1,g1,g2,g3⟩:=back x y o ho;exact hinv.old x1 y1 o c n g1 (by rw[<- g2];exact hr)
 ·obtain⟨x',y',g1,g2,g3⟩:=back x y o ho;rcases g3 with⟨_,_,_,_,rfl⟩|⟨_,_,_,_,rfl⟩|⟨k1,k2,k3,rfl,rfl⟩
  ·exact fun el he' z hz=>fC (hpa el he' z hz)
  ·exact fun el he' z hz=>fC (hpe el he' z hz)
  exact hinv.self x' y' o g1
 simp only[ax]at hx;obtain⟨y,hy,rfl⟩:=Option.map_eq_some_iff.1 hx;obtain⟨v,v1,v2⟩:=htm t y hy;exact⟨v,v1,IK v2 hav⟩
section
section
variable {P:Program} {b:Nat} {ty:TypeId} {cs cs':List PV} {Q:Exit->AS->List PV->Prop} {s:AS}
end
theorem Af {w0:World} {O X:Nat->Prop} {a:Act} {w:World} {s:AS} (d:Nat) {ty:TypeId} {cs:List PV} (hd:s.H d=[⟨ty,cs.length,[cs.map AV.p]⟩]) (r:gn w0 O X s a w):
  ∃b,(w0.heap.size<=b\/O b)/\ ¬X b/\gM b ty w0 (fun j=>O j\/j=b) (fun j=>X j\/j=b) ⟨s.tmps.map (un d b),bi s.H d []⟩ cs a w:=by
 obtain⟨h1,hsz,ρ,hinv,htm⟩:=r;have htm:b7 X ρ s a w:=htm;have hget:(s.H d)[0]?=some ⟨ty,cs.length,[cs.map AV.p]⟩:=by rw[hd];rfl
 obtain⟨z1,z2,z3⟩:=hinv.objs d 0 _ hget;cases hρ:ρ d 0 with
 |none=>rw[hρ]at z3;cases z3
 |some bc=>
  obtain⟨b,n⟩:=bc;rw[hρ]at z3;obtain⟨cells,p1,p2,p3,p4,p5⟩:=z3;have hold:=hinv.old d 0 _ b n hget hρ;have hna: ∀(x y:Nat) o,(bi s.H d [] x)[y]?=some o->x≠d/\(s.H x)[y]?=some o:=fun x y o ho=>by
   by_cases hx:x=d
   ·subst hx;rw[bI]at ho;simp at ho
   rw[bj hx]at ho;exact⟨hx,ho⟩
  have hXo: ∀j,Xo (fun j=>X j\/j=b) ρ (bi s.H d []) j->Xo X ρ s.H j:=fun j hj=>by
   rcases hj with(hj|rfl)|⟨x,y,o,n',g1,g2⟩
   ·exact .inl hj
   ·exact .inr ⟨d,0,_,n,hget,hρ⟩
   exact .inr ⟨x,y,o,n',(hna x y o g1).2,g2⟩
  have hmap: ∀x v,AV.rel ρ s.H (Xo X ρ s.H) w x v->AV.rel ρ (bi s.H d []) (Xo (fun j=>X j\/j=b) ρ (bi s.H d [])) w (kQ d b x) v:=fun x v hx=>by
   cases x with
   |p x=>exact cz.weaken (fun j _ hj=>hXo j hj) hx
   |sl x r off len=>
    simp only[kQ];split
    ·trivial
    rename_i hxd;obtain⟨o,g1,g2⟩:=hx;exact⟨o,by rw[bj hxd];exact g1,g2⟩
   |ptr x r i j=>
    simp only[kQ];split
    ·rename_i hxd;subst hxd;split
     ·rename_i hc;obtain⟨rfl,rfl,rfl⟩:=hc;obtain⟨o,b',c',g1,g2,g3,g4⟩:=hx;rw[hρ]at g2;injection g2 with g2
      injection g2 with g2 g2'
      subst g2;rw[g4];simp only[Nat.zero_mul,Nat.add_zero];exact cz.raw _ rfl
     trivial
    rename_i hxd;obtain⟨o,b',c',g1,g2⟩:=hx;exact⟨o,b',c',by rw[bj hxd];exact g1,g2⟩
   |junk=>trivial
  have hagg: ∀cs v,bX ρ s.H (Xo X ρ s.H) w cs v->bX ρ (bi s.H d []) (Xo (fun j=>X j\/j=b) ρ (bi s.H d [])) w (cs.map (kQ d b)) v:=fun cs v ⟨vs,g1,g2,g3⟩=>by
   refine⟨vs,g1,by simpa using g2,fun j x hx=>?_⟩;rw[ax]at hx;obtain⟨y,hy,rfl⟩:=Option.map_eq_some_iff.1 hx;obtain⟨u,u1,u2,u3⟩:=g3 j y hy;exact⟨u,u1,u2,hmap y u u3⟩
  have hrel:gM b ty w0 (fun j=>O j\/j=b) (fun j=>X j\/j=b) ⟨s.tmps.map (un d b),bi s.H d []⟩ cs a w:=by
   refine⟨h1,by simpa using hsz,ρ,⟨⟨hinv.keep.os,hinv.keep.tape,hinv.keep.output,hinv.keep.size,fun k hk hn=>hinv.keep.block k hk (fun h=>hn (.inl h))⟩,fun x y o ho=>?_,fun x y x' y' o o' j c c' ho ho'=>hinv.inj x y x' y' o o' j c c' (hna x y o ho).2 (hna x' y' o' ho').2,fun x y o j c ho hj=>?_,fun j hj=>?_,fun x y o ho=>hinv.self x y o (hna x y o ho).2⟩,fun t x hx=>?_,.inr rfl,.inr rfl,?_⟩
   ·obtain⟨hxd,ho'⟩:=hna x y o ho;obtain⟨q1,q2,q3⟩:=hinv.objs x y o ho';refine⟨q1,q2,?_⟩;cases hr:ρ x y with
    |none=>rw[hr]at q3;exact q3
    |some bc=>
     obtain⟨b',c'⟩:=bc;rw[hr]at q3;obtain⟨cells',r1,r2,r3,r4,r5⟩:=q3;refine⟨cells',r1,r2,r3,r4,fun i e j z he hz=>?_⟩;obtain⟨u,u1,u2,u3⟩:=r5 i e j z he hz;have hs:=hinv.self x y o ho' e (au he) z (au hz);have:=hmap z u u3;refine⟨u,u1,u2,?_⟩;cases z with
     |sl z _ _ _=>have hs:z=x:=hs;subst hs;simpa[kQ,hxd] using this
     |ptr z _ _ _=>have hs:z=x:=hs;subst hs;simpa[kQ,hxd] using this
     |p z=>exact this
     |junk=>trivial
   ·obtain⟨hxd,ho'⟩:=hna x y o ho;obtain⟨g1,g2⟩:=hinv.old x y o j c ho' hj;refine⟨?_,?_⟩
    ·rcases g1 with g|g
     ·exact .inl g
     exact .inr (.inl g)
    rintro(g|rfl)
    ·exact g2 g
    exact hxd (hinv.inj x y d 0 o _ j c n ho' hget hj hρ).1
   ·rcases hj with hj|rfl
    ·exact hinv.bar j hj
    exact(Array.getElem?_eq_some_iff.1 p1).1
   ·simp only[ax]at hx;obtain⟨y,hy,rfl⟩:=Option.map_eq_some_iff.1 hx;obtain⟨v,v1,v2⟩:=htm t y hy;refine⟨v,v1,?_⟩;cases y with
    |one x=>exact hmap x v v2
    |agg cs=>exact hagg cs v v2
    |fn f cs=>obtain⟨u,h1,h2⟩:=v2;exact⟨u,hagg cs u h1,h2⟩
    |tup ts=>
     obtain⟨vs,g1,g2,g3⟩:=v2;refine⟨vs,g1,by simpa using g2,fun j c cs hj=>?_⟩;rw[ax]at hj;obtain⟨z,hz,hzz⟩:=Option.map_eq_some_iff.1 hj;obtain⟨c',cs'⟩:=z;simp at hzz;obtain⟨rfl,rfl⟩:=hzz;obtain⟨u,u1,u2⟩:=g3 j c' cs' hz;refine⟨u,u1,?_⟩;rcases u2 with⟨u2,u3⟩|⟨u2,q',rfl,u4⟩
     ·exact .inl ⟨u2,hagg _ _ u3⟩
     exact .inr ⟨u2,_,rfl,hmap _ _ u4⟩
   refine⟨cells,n,p1,p2,by simpa using p3,p4,z2,fun j x hx=>?_⟩;obtain⟨v,v1,v2,v3⟩:=p5 0 (cs.map AV.p) j (.p x) rfl (by rw[ax,hx];rfl);exact⟨v,by simpa using v1,v2,cz.weaken (fun j _ hj=>hXo j hj) v3⟩
  exact⟨b,hold.1,hold.2,hrel⟩
def xM (d b:Nat):AV->AV
 | .p (.raw (.pointer (some ⟨b',0,none⟩)))=>if b'=b then .ptr d 0 0 0 else .p (.raw (.pointer (some ⟨b',0,none⟩)))
 |x=>x
def Hx (d b:Nat):TV->TV
 | .one x=> .one (xM d b x)
 | .agg cs=> .agg (cs.map (xM d b))
 | .fn f cs=> .fn f (cs.map (xM d b))
 | .tup ts=> .tup (ts.map fun t=>(t.1,t.2.map (xM d b)))
theorem zB {w0:World} {O X:Nat->Prop} {a:Act} {w:World} {s:AS} {b d:Nat} {ty:TypeId} {cs:List PV} (hold:w0.heap.size<=b\/O b) (hnX: ¬X b) (hd:s.H d=[]) (r:gM b ty w0 (fun j=>O j\/j=b) (fun j=>X j\/j=b) s cs a w):
  gn w0 O X ⟨s.tmps.map (Hx d b),bi s.H d [⟨ty,cs.length,[cs.map AV.p]⟩]⟩ a w:=by
 obtain⟨k1,ksz,ρ,kinv,ktm,_,_,cells,n,p1,p2,p3,p4,p5,p6⟩:=r;have ktm:b7 (fun j=>X j\/j=b) ρ s a w:=ktm;generalize hρ2:newρ ρ d (fun r=>if r=0 then some (b,n)else none)=ρ2;generalize hH2:bi s.H d [⟨ty,cs.length,[cs.map AV.p]⟩]=H2;have hd2:H2 d=[⟨ty,cs.length,[cs.map AV.p]⟩]:=by rw[<- hH2,bI]
 have hne2: ∀x,x≠d->H2 x=s.H x:=fun x hx=>by rw[<- hH2,bj hx]
 have hrd: ∀r,ρ2 d r=if r=0 then some (b,n)else none:=fun r=>by rw[<- hρ2,newρ_eq]
 have hrn: ∀x r,x≠d->ρ2 x r=ρ x r:=fun x r hx=>by rw[<- hρ2,newρ_ne hx]
 have hone: ∀(y:Nat) o,(H2 d)[y]?=some o->y=0/\o=⟨ty,cs.length,[cs.map AV.p]⟩:=fun y o ho=>by
  rw[hd2]at ho
  match y,ho with
  |0,ho=>exact⟨rfl,by simpa using ho.symm⟩
  |y+1,ho=>simp at ho
 have hXo: ∀j,Xo X ρ2 H2 j->Xo (fun j=>X j\/j=b) ρ s.H j:=fun j hj=>by
  rcases hj with hj|⟨x,y,o,c,g1,g2⟩
  ·exact .inl (.inl hj)
  by_cases hx:x=d
  ·subst hx;obtain⟨rfl,_⟩:=hone y o g1;rw[hrd,if_pos rfl]at g2;injection g2 with g2
   injection g2 with g2
   exact .inl (.inr g2.symm)
  rw[hne2 x hx]at g1;rw[hrn x y hx]at g2;exact .inr ⟨x,y,o,c,g1,g2⟩
 have kmap: ∀x v,AV.rel ρ s.H (Xo (fun j=>X j\/j=b) ρ s.H) w x v->AV.rel ρ2 H2 (Xo X ρ2 H2) w x v:=fun x v hx=>by
  cases x with
  |p x=>exact cz.weaken (fun j _ hj=>hXo j hj) hx
  |sl x r off len=>
   obtain⟨o,g1,g2⟩:=hx;have hxd:x≠d:=by rintro rfl;rw[hd]at g1;simp at g1
   exact⟨o,by rw[hne2 x hxd];exact g1,by rw[hrn x r hxd];exact g2⟩
  |ptr x r i j=>
   obtain⟨o,b',c,g1,g2,g3⟩:=hx;have hxd:x≠d:=by rintro rfl;rw[hd]at g1;simp at g1
   exact⟨o,b',c,by rw[hne2 x hxd];exact g1,by rw[hrn x r hxd];exact g2,g3⟩
  |junk=>trivial
 have kmapB: ∀x v,AV.rel ρ s.H (Xo (fun j=>X j\/j=b) ρ s.H) w x v->AV.rel ρ2 H2 (Xo X ρ2 H2) w (xM d b x) v:=fun x v hx=>by
  unfold xM;split
  ·split
   ·rename_i hb;subst hb;obtain⟨rfl,_⟩:=cf (ρ:=ρ) (H:=s.H) hx;exact⟨⟨ty,cs.length,[cs.map AV.p]⟩,_,n,by rw[hd2];rfl,by rw[hrd,if_pos rfl],by simp,by simp⟩
   exact kmap _ _ hx
  exact kmap _ _ hx
 have hagg: ∀cs v,bX ρ s.H (Xo (fun j=>X j\/j=b) ρ s.H) w cs v->bX ρ2 H2 (Xo X ρ2 H2) w (cs.map (xM d b)) v:=fun cs v ⟨vs,g1,g2,g3⟩=>by
  refine⟨vs,g1,by simpa using g2,fun j x hx=>?_⟩;rw[ax]at hx;obtain⟨y,hy,rfl⟩:=Option.map_eq_some_iff.1 hx;obtain⟨u,u1,u2,u3⟩:=g3 j y hy;exact⟨u,u1,u2,kmapB y u u3⟩
 refine⟨k1,by simpa using ksz,ρ2,⟨⟨kinv.keep.os,kinv.keep.tape,kinv.keep.output,kinv.keep.size,fun k hk hn=>?_⟩,fun x y o ho=>?_,fun x y x' y' o o' j c c' ho ho' hj hj'=>?_,fun x y o j c ho hj=>?_,fun j hj=>kinv.bar j (.inl hj),fun x y o ho=>?_⟩,fun t x hx=>?_⟩
 ·by_cases hkb:k=b
  ·subst hkb;exfalso;rcases hold with g|g
   ·omega
   exact hn g
  exact kinv.keep.block k hk (fun hh=>by
   rcases hh with hh|hh
   ·exact hn hh
   exact hkb hh)
 ·by_cases hx:x=d
  ·subst hx;obtain⟨rfl,rfl⟩:=hone y o ho;refine⟨fun e he=>by simp at he;subst he;simp,p5,?_⟩;rw[hrd,if_pos rfl];refine⟨cells,p1,p2,by simpa using p3,p4,fun i e j z he hz=>?_⟩
   match i,he with
   |0,he=>
    simp at he;subst he;rw[ax]at hz;obtain⟨y,hy,rfl⟩:=Option.map_eq_some_iff.1 hz;obtain⟨v,v1,v2,v3⟩:=p6 j y hy;exact⟨v,by simpa using v1,v2,cz.weaken (fun j _ hj=>hXo j hj) v3⟩
   |i+1,he=>simp at he
  replace ho:(H2 x)[y]?=some o:=ho
  rw[hne2 x hx]at ho;exact eH (kinv.objs x y o ho) (hrn x y hx) (fun _ _ _=>rfl) kmap
 ·by_cases hx:x=d
  ·subst hx;obtain⟨rfl,_⟩:=hone y o ho;rw[hrd,if_pos rfl]at hj;injection hj with hj
   injection hj with hj _
   subst hj;by_cases hx':x'=x
   ·subst hx';obtain⟨rfl,_⟩:=hone y' o' ho';exact⟨rfl,rfl⟩
   replace ho':(H2 x')[y']?=some o':=ho'
   rw[hne2 x' hx']at ho';rw[hrn x' y' hx']at hj';exact absurd (.inr rfl) (kinv.old x' y' o' _ c' ho' hj').2
  replace ho:(H2 x)[y]?=some o:=ho
  rw[hne2 x hx]at ho;rw[hrn x y hx]at hj;by_cases hx':x'=d
  ·subst hx';obtain⟨rfl,_⟩:=hone y' o' ho';rw[hrd,if_pos rfl]at hj';injection hj' with hj'
   injection hj' with hj' _
   subst hj';exact absurd (.inr rfl) (kinv.old x y o _ c ho hj).2
  replace ho':(H2 x')[y']?=some o':=ho'
  rw[hne2 x' hx']at ho';rw[hrn x' y' hx']at hj';exact kinv.inj x y x' y' o o' j c c' ho ho' hj hj'
 ·by_cases hx:x=d
  ·subst hx;obtain⟨rfl,_⟩:=hone y o ho;rw[hrd,if_pos rfl]at hj;injection hj with hj
   injection hj with hj _
   subst hj;exact⟨hold,hnX⟩
  replace ho:(H2 x)[y]?=some o:=ho
  rw[hne2 x hx]at ho;rw[hrn x y hx]at hj;obtain⟨g1,g2⟩:=kinv.old x y o j c ho hj;refine⟨?_,fun hx=>g2 (.inl hx)⟩;rcases g1 with g|g|g
  ·exact .inl g
  ·exact .inr g
  exact absurd (.inr g) g2
 ·by_cases hx:x=d
  ·subst hx;obtain⟨_,rfl⟩:=hone y o ho;intro e he z hz;simp at he;subst he;obtain⟨q,_,rfl⟩:=List.mem_map.1 hz;trivial
  replace ho:(H2 x)[y]?=some o:=ho
  rw[hne2 x hx]at ho;exact kinv.self x y o ho
 simp only[ax]at hx;obtain⟨y,hy,rfl⟩:=Option.map_eq_some_iff.1 hx;obtain⟨v,v1,v2⟩:=ktm t y hy;refine⟨v,v1,?_⟩;cases y with
 |one x=>exact kmapB x v v2
 |agg cs=>exact hagg cs v v2
 |fn f cs=>obtain⟨u,h1,h2⟩:=v2;exact⟨u,hagg cs u h1,h2⟩
 |tup ts=>
  obtain⟨vs,g1,g2,g3⟩:=v2;refine⟨vs,g1,by simpa using g2,fun j c cs hj=>?_⟩;rw[ax]at hj;obtain⟨z,hz,hzz⟩:=Option.map_eq_some_iff.1 hj;obtain⟨c',cs'⟩:=z;simp at hzz;obtain⟨rfl,rfl⟩:=hzz;obtain⟨u,u1,u2⟩:=g3 j c' cs' hz;refine⟨u,u1,?_⟩;rcases u2 with⟨u2,u3⟩|⟨u2,q',rfl,u4⟩
  ·exact .inl ⟨u2,hagg _ _ u3⟩
  exact .inr ⟨u2,_,rfl,kmapB _ _ u4⟩
theorem Br {P:Program} {c:Code} {Q:Exit->AS->Prop} {s:AS} (d:Nat) {ty:TypeId} {cs:List PV} (hd:s.H d=[⟨ty,cs.length,[cs.map AV.p]⟩])
  (h: ∀b,fi P b ty c (fun e s' cs'=>s'.H d=[]/\Q e ⟨s'.tmps.map (Hx d b),bi s'.H d [⟨ty,cs'.length,[cs'.map AV.p]⟩]⟩) ⟨s.tmps.map (un d b),bi s.H d []⟩ cs):bf P c Q s:=fun w0 O X a w r=>by
 obtain⟨b,h1,h2,h3⟩:=Af d hd r;exact wp_mono (h b _ _ _ _ _ h3) fun e a' w' ⟨s',cs',⟨hq1,hq2⟩,hr⟩=>⟨_,hq2,zB h1 h2 hq1 hr⟩
end
section
def RX (Q:Exit->AS->Prop):Exit->AS->Prop
 | .goto _,_=>False
 |e,s=>Q e s
section
variable {P:Program} {s:AS} {Q:Exit->AS->Prop}
theorem E3 {c:Code} (h:bf P c (RX Q) s):bf P (.scope c) Q s:=fun _ _ _ _ _ r=>
 wp_scope_straight (wp_mono (h _ _ _ _ _ r) fun e a w ⟨s',h1,h2⟩=>by
  cases e<;>first|exact⟨s',h1,h2⟩|exact h1.elim)
theorem EY {l:Nat} (h:Q .normal s):bf P (.label l) Q s:=fun _ _ _ _ _ r=>wp_label ⟨s,h,r⟩
end
section
variable {P:Program} {b:Nat} {ty:TypeId} {cs:List PV} {s:AS} {Q:Exit->AS->List PV->Prop}
theorem Hp {c:Code} (k d:Nat) (hk:s.tmps[k]?=some (.raw (.pointer (some ⟨b,0,none⟩)))) (hd:s.H d=[])
  (h:gB P k c (fun e s'=> ∃cs',s'.H d=[⟨ty,cs'.length,[cs'.map AV.p]⟩]/\s'.tmps[k]?=some (.one (.ptr d 0 0 0))/\Q e ⟨s'.tmps.map (un d b),bi s'.H d []⟩ cs') ⟨s.tmps.map (Hx d b),bi s.H d [⟨ty,cs.length,[cs.map AV.p]⟩]⟩):fi P b ty c Q s cs:=fun w0 O X a w r=>by
 have hO:O b:=by obtain⟨_,_,_,_,_,hO,_⟩:=r;exact hO
 have hX:X b:=by obtain⟨_,_,_,_,_,_,hX,_⟩:=r;exact hX
 have eO:(fun j=>O j\/j=b)=O:=by
  funext j;exact propext ⟨fun h=>h.elim id (fun e=>by rw[e];exact hO),.inl⟩
 have eX:(fun j=>(X j/\j≠b)\/j=b)=X:=by
  funext j;refine propext ⟨fun h=>h.elim (·.1) (fun e=>by rw[e];exact hX),fun h=>?_⟩;by_cases e:j=b
  ·exact .inr e
  exact .inl ⟨h,e⟩
 have hslot:a.tmps[k]?=some (.pointer (some ⟨b,0,none⟩)):=by
  obtain⟨_,_,ρ,_,htm,_⟩:=r;obtain⟨v,v1,v2⟩:=htm k _ hk;rw[v1,(cf (H:=s.H) (ρ:=ρ) v2).1]
 have r':gM b ty w0 (fun j=>O j\/j=b) (fun j=>(X j/\j≠b)\/j=b) s cs a w:=by rw[eO,eX];exact r
 have hrel:=zB (.inr hO) (fun h=>h.2 rfl) hd r';refine wp_mono (h _ _ _ _ _ _ ⟨hrel,hslot⟩) fun e a' w' ⟨s',⟨cs',q1,q2,q3⟩,hr,hs⟩=>?_
 obtain⟨b',g1,g2,g3⟩:=Af d q1 hr;have hb:b'=b:=by
  obtain⟨_,_,ρ,_,htm,_⟩:=id g3;obtain⟨v,v1,v2⟩:=htm k (.raw (.pointer (some ⟨b',0,none⟩))) (by
   show(s'.tmps.map (un d b'))[k]?=_;rw[ax,q2];simp[un,kQ])
  rw[hs]at v1;injection v1 with v1
  have:=(cf v2).1;rw[<- v1]at this;injection this with this
  injection this with this
  injection this with this
  exact this.symm
 subst hb;rw[eO,eX]at g3;exact⟨_,cs',q3,g3⟩
structure PY (P:Program) (b:Nat) (cs:List PV) (ops:Array Oper) (m j d:Nat) (T:TV) (s:AS):Prop where
 ops: ∃t x,∃o:Oper,ops[m]?=some o/\o.op= .load t x/\o.dst=some d/\o.guard=none/\s.ev x=some (.raw (.pointer (some ⟨b,j,none⟩)))/\packT P t ((cs.drop j).map AV.p)=some T
end
end
section
structure NI (P:Program) (b:Nat) (ty:TypeId) (cs:List PV) where
 i:Nat
 f:FuncId
 args:List TV
 res:CallRes
 h:CallT P b ty f args cs res cs
 ok:lentOk args res cs=true
def NI.a {P:Program} {b:Nat} {ty:TypeId} {cs:List PV} (it:NI P b ty cs):dY P:=⟨it.i,it.f,it.args,it.res⟩
section
variable {P:Program} {b:Nat} {ty:TypeId} {cs:List PV} {Q:Exit->AS->List PV->Prop} {s:AS}
end
end
end Go.Proofs.YtfgeomlagfomgaaGreatDoor
