/-
  Part 12 of a proof (walks and plain facts).
-/
import Derived.Test.YtpgghglbpcabkaaGreatP10
import Derived.Lib.SliceRun
import Derived.Lib.SmallJoins
set_option linter.all false
set_option maxRecDepth 100000
set_option maxHeartbeats 64000000
namespace Go.Proofs.YtpgghglbpcabkaaGreat
open Go.RowKit
section
theorem Cw {w w':World} {O X:Nat->Prop} {s2:AS} {ρ:eZ} {res:CallRes} {r:TV} {a0:Nat} {v:Value} (hinv:gU w O X s2.H ρ w') (v2:r.rel ρ s2.H (Xo X ρ s2.H) w' v) (hself:mr a0 r) (hfam:res.fam=(s2.H a0).map (db 0)) (hr:res.r=aS 0 r):
  ∃ρ':eZ,gU w O X (famH 0 res.fam) ρ' w'/\res.r.rel ρ' (famH 0 res.fam) (Xo X ρ' (famH 0 res.fam)) w' v/\ ∀b,Xo X ρ' (famH 0 res.fam) b->Xo X ρ s2.H b:=by
 have hF: ∀(k:Nat) o,(famH 0 res.fam 0)[k]?=some o-> ∃o',(s2.H a0)[k]?=some o'/\o=db 0 o':=fun k o ho=>by
  simp only[famH,if_true,hfam,List.getElem?_map]at ho
  obtain⟨o',g1,g2⟩:=Option.map_eq_some_iff.1 ho
  exact⟨o',g1,g2.symm⟩
 have hz: ∀(x k:Nat) o,(famH 0 res.fam x)[k]?=some o->x=0:=fun x k o ho=>by
  by_cases hx:x=0
  ·exact hx
  ·simp[famH,hx]at ho
 have hXo: ∀b,Xo X (fun _ k=>ρ a0 k) (famH 0 res.fam) b->Xo X ρ s2.H b:=fun b hb=>by
  rcases hb with hb|⟨x,k,o,n,g1,g2⟩
  ·exact .inl hb
  ·have:=hz x k o g1
   subst this
   obtain⟨o',g3,_⟩:=hF k o g1
   exact .inr ⟨a0,k,o',n,g3,g2⟩
 have hmap: ∀x u,eB a0 x->AV.rel ρ s2.H (Xo X ρ s2.H) w' x u->AV.rel (fun _ k=>ρ a0 k) (famH 0 res.fam) (Xo X (fun _ k=>ρ a0 k) (famH 0 res.fam)) w' (aP 0 x) u:=fun x u hs hx=>by
  cases x with
  |p x=>exact cO.weaken (fun b _ hb=>hXo b hb) hx
  |sl x k off len=>
   have hs:x=a0:=hs
   subst hs
   obtain⟨o,g1,g2,g3⟩:=hx
   exact⟨db 0 o,by simp[famH,hfam,g1],by simpa[db] using g2,g3⟩
  |ptr x k i j=>
   have hs:x=a0:=hs
   subst hs
   obtain⟨o,b,c,g1,g2,g3,g4⟩:=hx
   exact⟨db 0 o,b,c,by simp[famH,hfam,g1],g2,by simpa[db] using g3,g4⟩
  |junk=>trivial
 have hfin: ∃ρ':eZ,gU w O X (famH 0 res.fam) ρ' w'/\res.r.rel ρ' (famH 0 res.fam) (Xo X ρ' (famH 0 res.fam)) w' v/\ ∀b,Xo X ρ' (famH 0 res.fam) b->Xo X ρ s2.H b:=by
  refine⟨fun _ k=>ρ a0 k,⟨hinv.keep,fun x k o ho=>?_,fun x k x' k' o o' b c c' ho ho' hr1 hr2=>?_,fun x k o b c ho hr1=>?_,hinv.bar,fun x k o ho=>?_⟩,?_,hXo⟩
  ·have:=hz x k o ho
   subst this
   obtain⟨o',g1,rfl⟩:=hF k o ho
   obtain⟨z1,z2,z3⟩:=hinv.objs a0 k o' g1
   refine⟨fun e he=>?_,z2,?_⟩
   ·simp only[db,List.mem_map]at he
    obtain⟨e',he',rfl⟩:=he
    rw[List.length_map];exact z1 e' he'
   ·cases hr0:ρ a0 k with
    |none=>rw[hr0]at z3;simp only[hr0];simp[db,z3]
    |some bc=>
     obtain⟨b,n⟩:=bc
     rw[hr0]at z3
     obtain⟨cells,p1,p2,p3,p4,p5⟩:=z3
     simp only[hr0]
     refine⟨cells,p1,p2,by simpa[db] using p3,p4,fun i e j z he hz=>?_⟩
     simp only[db,List.getElem?_map]at he
     obtain⟨e',he',rfl⟩:=Option.map_eq_some_iff.1 he
     rw[List.getElem?_map]at hz
     obtain⟨z',hz',rfl⟩:=Option.map_eq_some_iff.1 hz
     obtain⟨u,u1,u2,u3⟩:=p5 i e' j z' he' hz'
     exact⟨u,u1,u2,hmap z' u (hinv.self a0 k o' g1 e' (List.mem_of_getElem? he') z' (List.mem_of_getElem? hz')) u3⟩
  ·have e1:=hz x k o ho
   have e2:=hz x' k' o' ho'
   subst e1 e2
   obtain⟨o1,g1,_⟩:=hF k o ho
   obtain⟨o2,g2,_⟩:=hF k' o' ho'
   exact⟨rfl,(hinv.inj a0 k a0 k' o1 o2 b c c' g1 g2 hr1 hr2).2⟩
  ·have e1:=hz x k o ho
   subst e1
   obtain⟨o1,g1,_⟩:=hF k o ho
   exact hinv.old a0 k o1 b c g1 hr1
  ·have e1:=hz x k o ho
   subst e1
   obtain⟨o1,g1,rfl⟩:=hF k o ho
   intro e he z hzz
   simp only[db,List.mem_map]at he
   obtain⟨e',he',rfl⟩:=he
   simp only[List.mem_map]at hzz
   obtain⟨z',hz',rfl⟩:=hzz
   cases z'<;>first|rfl|trivial
  ·rw[hr]
   have agg: ∀cs u,(∀x∈cs,eB a0 x)->cE ρ s2.H (Xo X ρ s2.H) w' cs u->cE (fun _ k=>ρ a0 k) (famH 0 res.fam) (Xo X (fun _ k=>ρ a0 k) (famH 0 res.fam)) w' (cs.map (aP 0)) u:=fun cs u hs h=>by
    obtain⟨us,h1,h2,h3⟩:=h
    refine⟨us,h1,by simpa using h2,fun j x hx=>?_⟩
    rw[List.getElem?_map]at hx
    obtain⟨y,hy,rfl⟩:=Option.map_eq_some_iff.1 hx
    obtain⟨u',u1,u2,u3⟩:=h3 j y hy
    exact⟨u',u1,u2,hmap _ _ (hs y (List.mem_of_getElem? hy)) u3⟩
   cases r with
   |one x=>exact hmap x v hself v2
   |agg cs=>exact agg cs v hself v2
   |fn f cs=>obtain⟨u,h1,h2⟩:=v2;exact⟨u,agg cs u hself h1,h2⟩
   |tup ts=>
    obtain⟨us,h1,h2,h3⟩:=v2
    refine⟨us,h1,by simpa using h2,fun j b cs hx=>?_⟩
    rw[List.getElem?_map]at hx
    obtain⟨y,hy,hyy⟩:=Option.map_eq_some_iff.1 hx
    obtain⟨b',cs'⟩:=y
    simp at hyy
    obtain⟨rfl,rfl⟩:=hyy
    obtain⟨u,u1,u2⟩:=h3 j b' cs' hy
    have hs:=hself (b',cs') (List.mem_of_getElem? hy)
    refine⟨u,u1,?_⟩
    rcases u2 with⟨u2,u3⟩|⟨u2,x,rfl,u4⟩
    ·exact .inl ⟨u2,agg _ _ hs u3⟩
    ·exact .inr ⟨u2,_,rfl,hmap _ _ (hs x (by simp)) u4⟩
 exact hfin
section
variable {P:Program} {b:Nat} {ty:TypeId} {cs cs':List PV} {Q:Exit->AS->List PV->Prop} {s:AS}
theorem zW {f:FuncId} {fn:Func} {c:Code} {args:List TV} {res:CallRes} (hf:P.funcs[f]?=some fn) (hb:fn.body=some c) (hn:callable P f=true)
  (h:gh P b ty c (fun e s k=>(e= .normal\/e= .ret)/\k=cs'/\ ∃s',du s s'/\qI P fn res s') ⟨args++List.replicate (fn.ntmps-args.length) .undef,fun _=>[]⟩ cs):g9 P b ty f args cs res cs':=by
 refine⟨hn,fun X w vs hX hXb hbox hvs hargs=>?_⟩
 refine calls_of_wp hf hb ?_
 have hXo: ∀j,j<w.heap.size->Xo X (fun _ _=>none) (fun _=>[]) j->X j:=fun j _ h=>by
  rcases h with h|⟨a,r,o,c,h1,h2⟩
  ·exact h
  ·cases h2
 have hrel:fb b ty w (fun j=>j=b) X ⟨args++List.replicate (fn.ntmps-args.length) .undef,fun _=>[]⟩ cs {tmps:=vs++Array.replicate (fn.ntmps-vs.size) undef,defers:=[]} w:=by
  refine⟨rfl,by simp[hvs],fun _ _=>none,⟨Keep.refl w,fun a r o ho=>by simp at ho,fun a r a' r' o o' b c c' ho=>by simp at ho,fun a r o b c ho=>by simp at ho,hX,fun a r o ho=>by simp at ho⟩,fun t x hx=>?_,rfl,hXb,hbox.weaken hXo⟩
  by_cases ht:t<args.length
  ·rw[List.getElem?_append_left ht]at hx
   obtain⟨v,v1,v2⟩:=hargs t x hx
   refine⟨v,by rw[Array.getElem?_append_left (by omega)];exact v1,TV.rel_map v2 (fun y u hy=>?_)⟩
   cases y with
   |p y=>exact cO.weaken hXo hy
   |sl a r off len=>obtain⟨o,h1,_⟩:=hy;simp at h1
   |ptr a r i j=>obtain⟨o,_,_,h1,_⟩:=hy;simp at h1
   |junk=>trivial
  ·rw[List.getElem?_append_right (by omega),List.getElem?_replicate]at hx
   split at hx
   ·rename_i hlt
    injection hx with hx
    subst hx
    refine⟨undef,?_,gy⟩
    rw[Array.getElem?_append_right (by omega),Array.getElem?_replicate,if_pos (by omega)]
   ·cases hx
 refine wp_mono (h _ _ _ _ _ hrel) fun e a' w' ⟨s1,k,⟨he,hk,s2,hw,r,a0,hres,hself,hfam,hr⟩,hrel1⟩=>?_
 subst hk
 obtain⟨h1,hsz,ρ,hinv,htm,_,_,hbox'⟩:=hrel1.weak hw
 have htm:cn X ρ s2 a' w':=htm
 obtain⟨v,v1,v2⟩:=kN hinv htm hres
 obtain⟨ρ',g1,g2,g3⟩:=Cw hinv v2 hself hfam hr
 rcases he with rfl|rfl
 ·exact⟨h1,v,v1,v,rfl,ρ',g1,g2,hbox'.weaken fun j _ hj=>g3 j hj⟩
 ·exact⟨h1,v,v1,v,rfl,ρ',g1,g2,hbox'.weaken fun j _ hj=>g3 j hj⟩
/-! Regions. -/
theorem vj {items items':List (dN P)} {ow:List Nat} {i d:Nat} {ev:Operand->Option TV} {H:OH} {op:Op} (h:items.find? (·.i==i)=items'.find? (·.i==i)):aI P items ow i d ev H op=aI P items' ow i d ev H op:=by
 cases op<;>simp only[aI,h]
theorem pN {items items':List (dN P)} {ow:List Nat} {ops:Array Oper} {i:Nat} {o:Oper} {s:AS} (h:items.find? (·.i==i)=items'.find? (·.i==i)):cz P items ow ops i o s=cz P items' ow ops i o s:=by
 have e:dZ P items ow i o s=dZ P items' ow i o s:=by
  unfold dZ
  simp only[vj h]
 unfold cz
 simp only[e]
def eC (ops:Array Oper) (m:Nat):Bool:=match ops[m]? with
 |some o=>o.guard.isNone&&(match o.op with
  | .call c=>(match c.callee with
   | .value (.func _)=>true
   |_=>false)
  |_=>false)
 |none=>false
theorem tj {ops:Array Oper} {m:Nat} (h:eC ops m=true) {o:Oper} (ho:ops[m]?=some o):o.guard=none/\ ∃c f,o.op= .call c/\c.callee= .value (.func f):=by
 unfold eC at h
 rw[ho]at h
 simp only[Bool.and_eq_true]at h
 obtain⟨h1,h2⟩:=h
 refine⟨by simpa using h1,?_⟩
 split at h2
 ·rename_i c hc
  split at h2
  ·rename_i f hf
   exact⟨c,f,hc,hf⟩
  ·cases h2
 ·cases h2
theorem vM {items:List (ar P)} {it:dN P} {i:Nat} (h:i≠it.i):(items.map ar.a++[it]).find? (·.i==i)=(items.map ar.a).find? (·.i==i):=by
 rw[List.find?_append]
 have:[it].find? (·.i==i)=none:=by simp[Ne.symm h]
 rw[this,Option.or_none]
theorem yG {items:List (ar P)} {it:dN P} (h:items.all (fun c=>c.i !=it.i)=true):(items.map ar.a++[it]).find? (·.i==it.i)=some it:=by
 rw[List.find?_append]
 have:(items.map ar.a).find? (·.i==it.i)=none:=by
  rw[List.find?_eq_none]
  intro x hx
  obtain⟨c,hc,rfl⟩:=List.mem_map.1 hx
  rw[List.all_eq_true]at h
  have:=h c hc
  simpa[ar.a] using this
 rw[this]
 simp
theorem mi {w0 w:World} {O X:Nat->Prop} {a:Act} (items:List (ar P)) (it:dN P) {ow:List Nat} {ops:Array Oper} {i:Nat} {o:Oper} (ho:ops[i]?=some o) (hL:eC ops it.i=true) (hF:items.all (fun c=>c.i !=it.i)=true) (hraw:it.args.all aR=true) (hcon:g9 P b ty it.f it.args cs it.res cs')
  {x:List PV} (hx:i=it.i->x=cs) {s1:AS} (hrel:fb b ty w0 O X s x a w) (h:cz P (items.map ar.a++[it]) ow ops i o s=some s1) {K:Act->World->Prop} {Q:Exit->Act->World->Prop}
  (hK: ∀v w',fb b ty w0 O X s1 (if i=it.i then cs' else x) (a.put o.dst v) w'->K (a.put o.dst v) w'):if Region.wanted o (yielded ops a.tmps)then o.wp P a w K Q else K (a.put o.dst undef) w:=by
 by_cases hi:i=it.i
 ·have hxx:=hx hi
  subst hi hxx
  obtain⟨hg,c,f,h1,h2⟩:=tj hL ho
  rw[if_pos (by simp[Region.wanted,hg])]
  unfold cz at h
  rw[hg]at h
  simp only[if_true]at hK
  exact CU hrel h1 h2 (yG hF) hraw hcon h hK
 ·rw[pN (vM hi)]at h
  obtain⟨Own,r1,r2⟩:=hrel.rebase
  simp only[if_neg hi]at hK
  exact gO (ar.ok items) r1 h fun v w' hr=>hK v w' (r2 _ _ _ hr)
theorem md {w0:World} {O X:Nat->Prop} (items:List (ar P)) (it:dN P) {ow:List Nat} {ops:Array Oper} (hL:eC ops it.i=true) (hF:items.all (fun c=>c.i !=it.i)=true) (hraw:it.args.all aR=true) (hcon:g9 P b ty it.f it.args cs it.res cs') {Q:Exit->Act->World->Prop}:
  ∀(l:List Oper) (k:Nat) (s s':AS) (a:Act) (w:World),(∀(j:Nat) o,l[j]?=some o->ops[k+j]?=some o)->iz P (items.map ar.a++[it]) ow ops (l.zipIdx k) s=some s'->fb b ty w0 O X s (if k<=it.i then cs else cs') a w->
   (∀a' w',fb b ty w0 O X s' (if k+l.length<=it.i then cs else cs') a' w'->Q .normal a' w')->wpOps P ops Q (List.range' k l.length) a w
 |[],k,s,s',a,w,_,h,r,hQ=>by
  simp only[List.zipIdx_nil,iz]at h
  injection h with h
  subst h
  exact hQ a w r
 |o::l,k,s,s',a,w,hl,h,r,hQ=>by
  simp only[List.zipIdx_cons,iz]at h
  split at h
  ·rename_i s1 hs1
   simp only[List.length_cons,List.range'_succ,wpOps]
   have ho:ops[k]?=some o:=by have:=hl 0 o rfl;simpa using this
   rw[ho]
   simp only
   have:=mi (Q:=Q) items it ho hL hF hraw hcon (x:=if k<=it.i then cs else cs') (fun hk=>if_pos (by omega)) r hs1 (K:=wpOps P ops Q (List.range' (k+1) l.length)) (fun v w' hr=>md items it hL hF hraw hcon l (k+1) s1 s' _ _ (fun j o hj=>by have:=hl (j+1) o (by simpa using hj);rwa[show k+(j+1)=k+1+j by omega]at this) h (by
    have e:(if k=it.i then cs' else if k<=it.i then cs else cs')=if k+1<=it.i then cs else cs':=by
     by_cases h1:k=it.i
     ·rw[if_pos h1,if_neg (by omega)]
     ·rw[if_neg h1]
      by_cases h2:k<=it.i
      ·rw[if_pos h2,if_pos (by omega)]
      ·rw[if_neg h2,if_neg (by omega)]
    rw[e]at hr
    exact hr) (fun a' w' hr'=>hQ a' w' (by rw[List.length_cons,show k+(l.length+1)=k+1+l.length by omega];exact hr')))
   split at this
   ·rename_i hw;rw[if_pos hw];exact .inl this
   ·rename_i hw;rw[if_neg hw];exact this
  ·cases h
theorem xE (m:Nat) {f:FuncId} {args:List TV} {res:CallRes} (hcon:g9 P b ty f args cs res cs') (items:List (ar P)) (ow:List Nat) {id:Nat} {ops:Array Oper} (hL:eC ops m=true) (hF:items.all (fun c=>c.i !=m)=true) (hraw:args.all aR=true) (hl:s.tmps.length<=1000000)
  (h:dS P (items.map ar.a++[⟨m,f,args,res⟩]) ow (cY ops ops.toList 0) (some s) (fun s'=>Q .normal s' cs')):gh P b ty (.region id ops false) Q s cs:=fun w0 O X a w r=>by
 obtain⟨s',h1,h2⟩:=dw P _ ow ops ops.toList 0 s _ hl h
 refine wp_region ?_
 rw[List.range_eq_range']
 have hm:m<ops.size:=by
  unfold eC at hL
  split at hL
  ·rename_i o ho;exact(Array.getElem?_eq_some_iff.1 ho).1
  ·cases hL
 have:=md (w0:=w0) (O:=O) (X:=X) items ⟨m,f,args,res⟩ hL hF hraw hcon (Q:=fun e a' w'=> ∃s' k,Q e s' k/\fb b ty w0 O X s' k a' w') ops.toList 0 s s' a w (fun j o hj=>by simpa using hj) h1 (by simpa using r) (fun a' w' hr=>⟨s',cs',h2,by
  rw[if_neg (by simp;omega)]at hr
  exact hr⟩)
 simpa using this
theorem yE (hmx:P.follows .mixedOrders=true) (m:Nat) {f:FuncId} {args:List TV} {res:CallRes} (hcon:g9 P b ty f args cs res cs') (items:List (ar P)) (ow:List Nat) {id:Nat} {ops:Array Oper} (hd:eJ [] ops=true) (hL:eC ops m=true) (hF:items.all (fun c=>c.i !=m)=true) (hraw:args.all aR=true) (hl:s.tmps.length<=1000000)
  (h:dS P (items.map ar.a++[⟨m,f,args,res⟩]) ow (cY ops ops.toList 0) (some s) (fun s'=>Q .normal s' cs')):gh P b ty (.region id ops true) Q s cs:=fun w0 O X a w r=>by
 obtain⟨sF,h1,h2⟩:=dw P _ ow ops ops.toList 0 s _ hl h
 have hm:m<ops.size:=by
  unfold eC at hL
  split at hL
  ·rename_i o ho;exact(Array.getElem?_eq_some_iff.1 ho).1
  ·cases hL
 refine wp_region_any hmx ?_
 have hrun:fp P (items.map ar.a++[⟨m,f,args,res⟩]) ow ops (List.range ops.size) s=some sF:=by
  rw[List.range_eq_range']
  have:=jV (P:=P) (items:=items.map ar.a++[⟨m,f,args,res⟩]) (ow:=ow) ops.toList 0 s (fun j o hj=>by simpa using hj)
  rw[h1]at this
  simpa using this.symm
 have hr':fb b ty w0 O X s cs a {w with drawn:=w.drawn+1}:=by
  obtain⟨Own,g1,g2⟩:=r.rebase
  obtain⟨q1,q2,ρ,hinv,htm⟩:=g1
  have e:Ext w {w with drawn:=w.drawn+1}:=⟨rfl,rfl,rfl,Nat.le_refl _,fun _ _=>rfl⟩
  have htm:cn X ρ s a w:=htm
  exact g2 _ _ _ ⟨q1,q2,ρ,hinv.grow e,htm.grow e⟩
 refine kD (sep:=[]) (ol hd (by simp)) hd (Q:=fun e a' w'=> ∃s' k,Q e s' k/\fb b ty w0 O X s' k a' w') (fun p s a w=>fb b ty w0 O X s (if p m then cs' else cs) a w) ⟨jC r.rel,fun x hx=>by simp at hx⟩ hrun (fun p a w hall hr=>⟨sF,cs',h2,by
  rw[if_pos (hall m hm)]at hr
  exact hr⟩) (fun p i o s s1 a w K ho hpi hs hr hK=>?_) ops.size (Array.replicate ops.size false) s a _ (by simp) ?_ ?_ ?_ ?_
 ·refine mi items ⟨m,f,args,res⟩ ho hL hF hraw hcon (x:=if p m then cs' else cs) (fun hi=>?_) hr hs (fun v w' hr'=>hK v w' ?_)
  ·have hi:i=m:=hi
   subst hi
   rw[if_neg (by simp[hpi])]
  ·by_cases hi:i=m
   ·subst hi
    simpa[ef] using hr'
   ·have hmi:(m==i)=false:=by simpa using Ne.symm hi
    simpa[ef,hi,hmi] using hr'
 ·intro j o ho hp
  have hj:j<ops.size:=(Array.getElem?_eq_some_iff.1 ho).1
  simp[hj]at hp
 ·exact Nat.le_trans (List.length_filter_le _ _) (by simp)
 ·have:oy ops.size (fun j=>(Array.replicate ops.size false).getD j true)=[]:=by
   unfold oy
   rw[List.filter_eq_nil_iff]
   intro j hj
   have:=List.mem_range.1 hj
   simp[this]
  rw[this]
  rfl
 ·have:(Array.replicate ops.size false).getD m true=false:=by simp[hm]
  simp only[this]
  exact hr'
theorem qM (m:Nat) {f:FuncId} {args:List TV} {res:CallRes} (hcon:g9 P b ty f args cs res cs') (items:List (ar P)) (ow:List Nat) {id:Nat} {ops:Array Oper} {y:Code} (hL:eC ops m=true) (hF:items.all (fun c=>c.i !=m)=true) (hraw:args.all aR=true) (hl:s.tmps.length<=1000000)
  (h: ∀K:AS->Prop,(∀s',gh P b ty y Q s' cs'->K s')->dS P (items.map ar.a++[⟨m,f,args,res⟩]) ow (cY ops ops.toList 0) (some s) K):gh P b ty (.seq (.region id ops false) y) Q s cs:=
 eL (xE m hcon items ow hL hF hraw hl (h _ fun _ h=>h))
theorem uJ (hmx:P.follows .mixedOrders=true) (m:Nat) {f:FuncId} {args:List TV} {res:CallRes} (hcon:g9 P b ty f args cs res cs') (items:List (ar P)) (ow:List Nat) {id:Nat} {ops:Array Oper} (hd:eJ [] ops=true) (hL:eC ops m=true) (hF:items.all (fun c=>c.i !=m)=true) (hraw:args.all aR=true) (hl:s.tmps.length<=1000000)
  (h: ∀K:AS->Prop,(∀s',Q .normal s' cs'->K s')->dS P (items.map ar.a++[⟨m,f,args,res⟩]) ow (cY ops ops.toList 0) (some s) K):gh P b ty (.region id ops true) Q s cs:=
 yE hmx m hcon items ow hd hL hF hraw hl (h _ fun _ h=>h)
end
/-! A box of one's own is lent. -/
def jq (d b:Nat):AV->AV
 | .sl x r off len=>if x=d then .junk else .sl x r off len
 | .ptr x r i j=>if x=d then(if r=0/\i=0/\j=0 then .raw (.pointer (some ⟨b,0,none⟩))else .junk)else .ptr x r i j
 |x=>x
def vy (d b:Nat):TV->TV
 | .one x=> .one (jq d b x)
 | .agg cs=> .agg (cs.map (jq d b))
 | .fn f cs=> .fn f (cs.map (jq d b))
 | .tup ts=> .tup (ts.map fun t=>(t.1,t.2.map (jq d b)))
theorem BI {P:Program} {c:Code} {Q:Exit->AS->Prop} {s:AS} (d:Nat) {ty:TypeId} {cs:List PV} (hd:s.H d=[⟨ty,cs.length,[cs.map AV.p]⟩]) (h: ∀b,gh P b ty c (fun e s' _=>Q e s') ⟨s.tmps.map (vy d b),au s.H d []⟩ cs):bX P c Q s:=fun w0 O X a w r=>by
 obtain⟨h1,hsz,ρ,hinv,htm⟩:=r
 have htm:cn X ρ s a w:=htm
 have hget:(s.H d)[0]?=some ⟨ty,cs.length,[cs.map AV.p]⟩:=by rw[hd];rfl
 obtain⟨z1,z2,z3⟩:=hinv.objs d 0 _ hget
 cases hρ:ρ d 0 with
 |none=>rw[hρ]at z3;cases z3
 |some bc=>
  obtain⟨b,n⟩:=bc
  rw[hρ]at z3
  obtain⟨cells,p1,p2,p3,p4,p5⟩:=z3
  have hold:=hinv.old d 0 _ b n hget hρ
  have hna: ∀(x y:Nat) o,(au s.H d [] x)[y]?=some o->x≠d/\(s.H x)[y]?=some o:=fun x y o ho=>by
   by_cases hx:x=d
   ·subst hx;rw[bV]at ho;simp at ho
   ·rw[bv hx]at ho;exact⟨hx,ho⟩
  have hXo: ∀j,Xo (fun j=>X j\/j=b) ρ (au s.H d []) j->Xo X ρ s.H j:=fun j hj=>by
   rcases hj with(hj|rfl)|⟨x,y,o,n',g1,g2⟩
   ·exact .inl hj
   ·exact .inr ⟨d,0,_,n,hget,hρ⟩
   ·exact .inr ⟨x,y,o,n',(hna x y o g1).2,g2⟩
  have hmap: ∀x v,AV.rel ρ s.H (Xo X ρ s.H) w x v->AV.rel ρ (au s.H d []) (Xo (fun j=>X j\/j=b) ρ (au s.H d [])) w (jq d b x) v:=fun x v hx=>by
   cases x with
   |p x=>exact cO.weaken (fun j _ hj=>hXo j hj) hx
   |sl x r off len=>
    simp only[jq]
    split
    ·trivial
    ·rename_i hxd
     obtain⟨o,g1,g2⟩:=hx
     exact⟨o,by rw[bv hxd];exact g1,g2⟩
   |ptr x r i j=>
    simp only[jq]
    split
    ·rename_i hxd
     subst hxd
     split
     ·rename_i hc
      obtain⟨rfl,rfl,rfl⟩:=hc
      obtain⟨o,b',c',g1,g2,g3,g4⟩:=hx
      rw[hρ]at g2
      injection g2 with g2
      injection g2 with g2 g2'
      subst g2
      rw[g4]
      simp only[Nat.zero_mul,Nat.add_zero]
      exact cO.raw _ rfl
     ·trivial
    ·rename_i hxd
     obtain⟨o,b',c',g1,g2⟩:=hx
     exact⟨o,b',c',by rw[bv hxd];exact g1,g2⟩
   |junk=>trivial
  have hagg: ∀cs v,cE ρ s.H (Xo X ρ s.H) w cs v->cE ρ (au s.H d []) (Xo (fun j=>X j\/j=b) ρ (au s.H d [])) w (cs.map (jq d b)) v:=fun cs v ⟨vs,g1,g2,g3⟩=>by
   refine⟨vs,g1,by simpa using g2,fun j x hx=>?_⟩
   rw[List.getElem?_map]at hx
   obtain⟨y,hy,rfl⟩:=Option.map_eq_some_iff.1 hx
   obtain⟨u,u1,u2,u3⟩:=g3 j y hy
   exact⟨u,u1,u2,hmap y u u3⟩
  have hrel:fb b ty w0 (fun j=>O j\/j=b) (fun j=>X j\/j=b) ⟨s.tmps.map (vy d b),au s.H d []⟩ cs a w:=by
   refine⟨h1,by simpa using hsz,ρ,⟨⟨hinv.keep.os,hinv.keep.tape,hinv.keep.output,hinv.keep.size,fun k hk hn=>hinv.keep.block k hk (fun h=>hn (.inl h))⟩,fun x y o ho=>?_,fun x y x' y' o o' j c c' ho ho'=>hinv.inj x y x' y' o o' j c c' (hna x y o ho).2 (hna x' y' o' ho').2,fun x y o j c ho hj=>?_,fun j hj=>?_,fun x y o ho=>hinv.self x y o (hna x y o ho).2⟩,fun t x hx=>?_,.inr rfl,.inr rfl,?_⟩
   ·obtain⟨hxd,ho'⟩:=hna x y o ho
    obtain⟨q1,q2,q3⟩:=hinv.objs x y o ho'
    refine⟨q1,q2,?_⟩
    cases hr:ρ x y with
    |none=>rw[hr]at q3;exact q3
    |some bc=>
     obtain⟨b',c'⟩:=bc
     rw[hr]at q3
     obtain⟨cells',r1,r2,r3,r4,r5⟩:=q3
     refine⟨cells',r1,r2,r3,r4,fun i e j z he hz=>?_⟩
     obtain⟨u,u1,u2,u3⟩:=r5 i e j z he hz
     have hs:=hinv.self x y o ho' e (List.mem_of_getElem? he) z (List.mem_of_getElem? hz)
     have:=hmap z u u3
     refine⟨u,u1,u2,?_⟩
     cases z with
     |sl z _ _ _=>have hs:z=x:=hs;subst hs;simpa[jq,hxd] using this
     |ptr z _ _ _=>have hs:z=x:=hs;subst hs;simpa[jq,hxd] using this
     |p z=>exact this
     |junk=>trivial
   ·obtain⟨hxd,ho'⟩:=hna x y o ho
    obtain⟨g1,g2⟩:=hinv.old x y o j c ho' hj
    refine⟨?_,?_⟩
    ·rcases g1 with g|g
     ·exact .inl g
     ·exact .inr (.inl g)
    ·rintro(g|rfl)
     ·exact g2 g
     ·exact hxd (hinv.inj x y d 0 o _ j c n ho' hget hj hρ).1
   ·rcases hj with hj|rfl
    ·exact hinv.bar j hj
    ·exact(Array.getElem?_eq_some_iff.1 p1).1
   ·simp only[List.getElem?_map]at hx
    obtain⟨y,hy,rfl⟩:=Option.map_eq_some_iff.1 hx
    obtain⟨v,v1,v2⟩:=htm t y hy
    refine⟨v,v1,?_⟩
    cases y with
    |one x=>exact hmap x v v2
    |agg cs=>exact hagg cs v v2
    |fn f cs=>obtain⟨u,h1,h2⟩:=v2;exact⟨u,hagg cs u h1,h2⟩
    |tup ts=>
     obtain⟨vs,g1,g2,g3⟩:=v2
     refine⟨vs,g1,by simpa using g2,fun j c cs hj=>?_⟩
     rw[List.getElem?_map]at hj
     obtain⟨z,hz,hzz⟩:=Option.map_eq_some_iff.1 hj
     obtain⟨c',cs'⟩:=z
     simp at hzz
     obtain⟨rfl,rfl⟩:=hzz
     obtain⟨u,u1,u2⟩:=g3 j c' cs' hz
     refine⟨u,u1,?_⟩
     rcases u2 with⟨u2,u3⟩|⟨u2,q',rfl,u4⟩
     ·exact .inl ⟨u2,hagg _ _ u3⟩
     ·exact .inr ⟨u2,_,rfl,hmap _ _ u4⟩
   ·refine⟨cells,n,p1,p2,by simpa using p3,p4,z2,fun j x hx=>?_⟩
    obtain⟨v,v1,v2,v3⟩:=p5 0 (cs.map AV.p) j (.p x) rfl (by rw[List.getElem?_map,hx];rfl)
    exact⟨v,by simpa using v1,v2,cO.weaken (fun j _ hj=>hXo j hj) v3⟩
  refine wp_mono (h b _ _ _ _ _ hrel) fun e a' w' ⟨s',cs',hq,hr⟩=>⟨s',hq,?_⟩
  obtain⟨k1,ksz,ρ',kinv,ktm,_,_,_⟩:=hr
  have ktm:cn (fun j=>X j\/j=b) ρ' s' a' w':=ktm
  have kXo: ∀j,Xo X ρ' s'.H j->Xo (fun j=>X j\/j=b) ρ' s'.H j:=fun j hj=>by
   rcases hj with hj|hj
   ·exact .inl (.inl hj)
   ·exact .inr hj
  have kmap: ∀x v,AV.rel ρ' s'.H (Xo (fun j=>X j\/j=b) ρ' s'.H) w' x v->AV.rel ρ' s'.H (Xo X ρ' s'.H) w' x v:=fun x v hx=>by
   cases x with
   |p x=>exact cO.weaken (fun j _ hj=>kXo j hj) hx
   |sl x r off len=>exact hx
   |ptr x r i j=>exact hx
   |junk=>trivial
  refine⟨k1,ksz,ρ',⟨⟨kinv.keep.os,kinv.keep.tape,kinv.keep.output,kinv.keep.size,fun k hk hn=>?_⟩,fun x y o ho=>dV (kinv.objs x y o ho) rfl (fun _ _ _=>rfl) kmap,kinv.inj,fun x y o j c ho hj=>?_,fun j hj=>kinv.bar j (.inl hj),kinv.self⟩,fun t x hx=>?_⟩
  ·by_cases hkb:k=b
   ·subst hkb
    exfalso
    rcases hold.1 with g|g
    ·omega
    ·exact hn g
   ·exact kinv.keep.block k hk (fun hh=>by
     rcases hh with hh|hh
     ·exact hn hh
     ·exact hkb hh)
  ·obtain⟨g1,g2⟩:=kinv.old x y o j c ho hj
   refine⟨?_,fun hx=>g2 (.inl hx)⟩
   rcases g1 with g|g|g
   ·exact .inl g
   ·exact .inr g
   ·exact absurd (.inr g) g2
  ·obtain⟨v,v1,v2⟩:=ktm t x hx
   exact⟨v,v1,TV.rel_map v2 kmap⟩
end
theorem By (w:World) (q:Nat) (os:Array Obj):Ext w (Sort.grow (w.drewN q) os):=
 ⟨rfl,rfl,rfl,by show w.heap.size<=(w.heap++os).size;simp,fun k hk=>by show(w.heap++os)[k]?=w.heap[k]?;rw[Array.getElem?_append_left hk]⟩
structure NItem where
 key:Int
 vals:List Int
 at_:Option Addr
 cap:Nat
 deriving Inhabited
def NItem.val (it:NItem):Value:= .slice it.at_ it.vals.length it.cap
def NItem.agg (it:NItem):Value:= .agg #[.int .i64 it.key,.slice it.at_ it.vals.length it.cap]
def fA (a b:NItem):Int:=yy a.key a.vals b.key b.vals
def oa (a b:NItem):Bool:=fA a b==0
structure ItemOk (w:World) (g:Nat) (it:NItem):Prop where
 rd:RdI .i64 w it.at_ it.vals
 ne: ∀p,it.at_=some p->p.block≠g
 le:it.vals.length<=9223372036854775807
theorem ItemOk.ext {w w':World} {g:Nat} {it:NItem} (h:ItemOk w g it) (e:Ext w w'):ItemOk w' g it:=⟨h.rd.ext e,h.ne,h.le⟩
theorem RdI.setOther {k:IntKind} {w:World} {A:Option Addr} {zs:List Int} {g:Nat} (h:RdI k w A zs) (hne: ∀p,A=some p->p.block≠g) (p:Addr) (hp:p.block=g) (v:Value):RdI k (w.setCell p v) A zs:=fun hn=>by
 obtain⟨b,off,rfl,hc⟩:=h hn
 refine⟨b,off,rfl,fun i x hx=>?_⟩
 rw[World.cell?_setCell_other _ _ _ _ (fun e=>by have:=hne _ rfl;have e2:=congrArg Addr.block e;simp at e2 this;omega)]
 exact hc i x hx
theorem ItemOk.setCell {w:World} {g:Nat} {it:NItem} (h:ItemOk w g it) (p:Addr) (hp:p.block=g) (v:Value):ItemOk (w.setCell p v) g it:=⟨h.rd.setOther h.ne p hp v,h.ne,h.le⟩
theorem pS (a b:NItem) (w:World) (g:Nat) (ha:ItemOk w g a) (hb:ItemOk w g b):
  Calls Tryz.prog 35 #[a.agg,b.agg] w fun e w'=>e= .returned (.int .i64 (fA a b))/\Ext w w':=
 (ie a.key b.key a.at_ b.at_ a.cap b.cap a.vals b.vals w ha.rd hb.rd ha.le hb.le).mono fun _ _ ⟨he,q,os,hw⟩=>⟨he,by rw[hw];exact By w q os⟩
theorem pi (a b:NItem) (bx sx so:Nat) (w:World) (g:Nat) (ha:ItemOk w g a) (hb:ItemOk w g b) (h1:w.cell? ⟨bx,0,none⟩=some (.pointer (some ⟨sx,so,none⟩))) (h2:w.cell? ⟨sx,so+1,none⟩=some (.func (Fn.func 35) #[] #[])):
  Calls Tryz.prog 81 #[a.agg,b.agg,.pointer (some ⟨bx,0,none⟩)] w fun e w'=>e= .returned (.bool (oa a b))/\Ext w w':=by
 have HA:=Lib.hid ha
 have HB:=Lib.hid hb
 clear ha hb
 unfold NItem.agg
 go_enter Tryz.func81,Tryz.ntmps81
 go_wp2_with fail
 obtain⟨c1,c2,c3,c4,he,hg⟩:=qw w (.int .i64 a.key) (.slice a.at_ a.vals.length a.cap) (.int .i64 b.key) (.slice b.at_ b.vals.length b.cap) 74
 have h1':=he.cell h1
 have h2':=he.cell h2
 have HE:=Lib.hid he
 clear he hg h1 h2
 generalize(w.alloc (.cells #[.int .i64 a.key,.slice a.at_ a.vals.length a.cap] 74)).alloc (.cells #[.int .i64 b.key,.slice b.at_ b.vals.length b.cap] 74)=w2 at*
 refine de 6 (by kernel_rfl) (by kernel_rfl) ?_
 simp only[List.take_succ_cons,List.take_zero,List.drop_succ_cons,List.drop_zero]
 generalize w2.drew=w3 at*
 iterate 6 still_step
 refine wpStill_nil ?_
 have HC:=Lib.hid (pS a b w3 g (HA.out.ext HE.out) (HB.out.ext HE.out))
 unfold NItem.agg at HC
 go_wp2_with fail
 refine HC.out.mono ?_
 rintro e w' ⟨rfl,he⟩
 have HE2:=Lib.hid (HE.out.trans he)
 clear he
 go_wp2_with fail
 go_ret
 exact⟨rfl,HE2.out⟩
def mT (w:World) (g N:Nat) (L:List NItem):Prop:=
 ∃f,w.rowIs g 74 N f/\L.length*2<=N/\ ∀j it,L[j]?=some it->f (j*2)= .int .i64 it.key/\f (j*2+1)=it.val
theorem mT.ext {w w':World} {g N:Nat} {L:List NItem} (h:mT w g N L) (e:Ext w w'):mT w' g N L:=by
 obtain⟨f,h1,h2,h3⟩:=h
 exact⟨f,cT h1 e,h2,h3⟩
theorem mT.cell0 {w:World} {g N:Nat} {L:List NItem} (h:mT w g N L) {j:Nat} {it:NItem} (hj:L[j]?=some it):w.cell? ⟨g,j*2,none⟩=some (.int .i64 it.key):=by
 obtain⟨f,h1,h2,h3⟩:=h
 have:=(List.getElem?_eq_some_iff.1 hj).1
 rw[h1.cell (by omega),(h3 j it hj).1]
theorem mT.cell1 {w:World} {g N:Nat} {L:List NItem} (h:mT w g N L) {j:Nat} {it:NItem} (hj:L[j]?=some it):w.cell? ⟨g,j*2+1,none⟩=some (.slice it.at_ it.vals.length it.cap):=by
 obtain⟨f,h1,h2,h3⟩:=h
 have:=(List.getElem?_eq_some_iff.1 hj).1
 rw[h1.cell (by omega),(h3 j it hj).2];rfl
theorem mT.frozen {w:World} {g N:Nat} {L:List NItem} (h:mT w g N L) (j:Nat):w.frozen? ⟨g,j,none⟩=false:=by
 obtain⟨f,h1,h2,h3⟩:=h
 exact h1.frozen j
theorem mT.set {w:World} {g N:Nat} {L:List NItem} (h:mT w g N L) {i:Nat} (hi:i<L.length) (it:NItem):
  mT ((w.setCell ⟨g,i*2,none⟩ (.int .i64 it.key)).setCell ⟨g,i*2+1,none⟩ (.slice it.at_ it.vals.length it.cap)) g N (L.set i it):=by
 obtain⟨f,h1,h2,h3⟩:=h
 refine⟨_,(h1.set (i*2) _).set (i*2+1) _,by simpa using h2,fun j it' hj=>?_⟩
 rw[List.getElem?_set]at hj
 by_cases e:i=j
 ·subst e
  rw[if_pos rfl,if_pos hi]at hj
  cases hj
  constructor
  ·rw[if_neg (by omega),if_pos rfl]
  ·rw[if_pos rfl];rfl
 ·rw[if_neg e]at hj
  obtain⟨q1,q2⟩:=h3 j it' hj
  constructor
  ·rw[if_neg (by omega),if_neg (by omega),q1]
  ·rw[if_neg (by omega),if_neg (by omega),q2]
theorem mT.take {w:World} {g N:Nat} {L:List NItem} (h:mT w g N L) (i:Nat):mT w g N (L.take i):=by
 obtain⟨f,h1,h2,h3⟩:=h
 refine⟨f,h1,by rw[List.length_take];omega,fun j it hj=>?_⟩
 rw[List.getElem?_take]at hj
 split at hj
 ·exact h3 j it hj
 ·cases hj
theorem lA {g t N:Nat}: ∀(vs:List Value) (o:Nat) (w:World) (f:Nat->Value),w.rowIs g t N f-> ∃f',(w.setCells g o vs).rowIs g t N f'/\(∀j,j<o->f' j=f j)/\ ∀k,k≠g->(w.setCells g o vs).heap[k]?=w.heap[k]?
 |[],o,w,f,h=>⟨f,h,fun _ _=>rfl,fun _ _=>rfl⟩
 |v::r,o,w,f,h=>by
  obtain⟨f',h1,h2,h3⟩:=lA r (o+1) (w.setCell ⟨g,o,none⟩ v) _ (h.set o v)
  refine⟨f',h1,fun j hj=>?_,fun k hk=>?_⟩
  ·rw[h2 j (by omega),if_neg (by omega)]
  ·show((w.setCell ⟨g,o,none⟩ v).setCells g (o+1) r).heap[k]?=_
   rw[h3 k hk,Below.heap_setCell _ _ _ _ hk]
def dF (prev:NItem):List NItem->List NItem
 |[]=>[]
 |b::l=>if oa b prev then dF b l else b::dF b l
def bY:List NItem->List NItem
 |[]=>[]
 |a::l=>a::dF a l
theorem pK {P:Program} (w:World) (t e ty:TypeId) (z:Value) (ht:P.underlying t=some (.slice e)) (hv: ∀w,(zeroValue e).run P w= .ok z w) (h1: ∀v∈z.cells,v.oneCell'=true) (hz:0<z.cells.size) (b o n c:Nat) (hn:0<n)
  (hc: ∀j,j<n*z.cells.size->(w.cell? ⟨b,o+j,none⟩).isSome=true) (hf: ∀j,j<n*z.cells.size->w.frozen? ⟨b,o+j,none⟩=false):
  (Builtin.clear_ #[t] ty #[.slice (some ⟨b,o,none⟩) n c]).run P w= .ok (.tuple #[]) (w.setCells b o (Builtin.zeroCells z.cells n).toList):=by
 have hlen:(Builtin.zeroCells z.cells n).toList.length=n*z.cells.size:=by simp[Builtin.zeroCells]
 have hst:=run_storeCells_cells (P:=P) b o (Builtin.zeroCells z.cells n).toList 0 w (by rw[hlen];simpa using hc) (by rw[hlen];simpa using hf) (by
  intro v hv'
  simp[Builtin.zeroCells]at hv'
  obtain⟨k,_,rfl⟩:=hv'
  have hlt:k%z.cells.size<z.cells.size:=Nat.mod_lt _ hz
  rw[getElem!_pos z.cells _ hlt]
  exact h1 _ (Array.getElem_mem hlt))
 simp only[Nat.add_zero]at hst
 obtain⟨m,rfl⟩: ∃m,n=m+1:=⟨n-1,by omega⟩
 simp[Builtin.clear_,run_underlying ht,hv,hst]
theorem en {w w':World} (h:Ext w w') (g:Nat):w.grownBy w' (some g):=⟨h.os,h.tape,h.output,h.size,fun k hk _=>h.block k hk⟩
theorem fQ {a b c:World} {g:Nat} (h:a.grownBy b (some g)) (k:b.grownBy c (some g)):a.grownBy c (some g):=
 ⟨k.os.trans h.os,k.tape.trans h.tape,k.output.trans h.output,Nat.le_trans h.size k.size,fun i hi hne=>(k.block i (Nat.lt_of_lt_of_le hi h.size) hne).trans (h.block i hi hne)⟩
theorem rk {a b:World} {g:Nat} (h:a.grownBy b (some g)) (o:Nat) (v:Value):a.grownBy (b.setCell ⟨g,o,none⟩ v) (some g):=
 fQ h ⟨rfl,rfl,rfl,by simp[World.setCell],fun k _ hne=>Below.heap_setCell _ _ _ _ (fun e=>hne (by rw[e]))⟩
theorem mQ {a b:World} {g:Nat}: ∀(vs:List Value) (o:Nat) {b:World},a.grownBy b (some g)->a.grownBy (b.setCells g o vs) (some g)
 |[],_,_,h=>h
 |v::r,o,_,h=>mQ (b:=b) r (o+1) (rk h o v)
theorem jX {w w':World} {g:Nat} (h:w.grownBy w' (some g)) {p:Addr} {v:Value} (hp:w.cell? p=some v) (hne:p.block≠g):w'.cell? p=some v:=
 h.cell hp (fun e=>hne (by injection e))
theorem RdI.gb {k:IntKind} {w w':World} {A:Option Addr} {zs:List Int} {g:Nat} (h:RdI k w A zs) (hne: ∀p,A=some p->p.block≠g) (hg:w.grownBy w' (some g)):RdI k w' A zs:=fun hn=>by
 obtain⟨b,off,rfl,hc⟩:=h hn
 exact⟨b,off,rfl,fun i x hx=>jX hg (hc i x hx) (show b≠g from hne ⟨b,off,none⟩ rfl)⟩
theorem ItemOk.gb {w w':World} {g:Nat} {it:NItem} (h:ItemOk w g it) (hg:w.grownBy w' (some g)):ItemOk w' g it:=⟨h.rd.gb h.ne hg,h.ne,h.le⟩
theorem mP {L:List NItem} {k:Nat} {a:NItem} (hQ: ∀j a b,j+1<k+1->L[j+1]?=some a->L[j]?=some b->oa a b=false) (hk:L[k]?=some a):bY L=L.take (k+1)++dF a (L.drop (k+1)):=by
 induction k generalizing a with
 |zero=>
  cases L with
  |nil=>simp at hk
  |cons b l=>simp at hk;subst hk;simp[bY]
 |succ k ih=>
  have hlt:k<L.length:=by have:=(List.getElem?_eq_some_iff.1 hk).1;omega
  obtain⟨b,hb⟩:=getElem?_of_lt hlt
  have hlt2:=(List.getElem?_eq_some_iff.1 hk).1
  have e:=hQ k a b (by omega) hk hb
  rw[ih (fun j a b h=>hQ j a b (by omega)) hb]
  rw[List.drop_eq_getElem_cons hlt2]
  have e2:L[k+1]=a:=(List.getElem?_eq_some_iff.1 hk).2
  rw[e2,dF,e]
  have e3:L.take (k+1+1)=L.take (k+1)++[a]:=by rw[List.take_succ_eq_append_getElem hlt2,e2]
  rw[e3]
  simp
theorem mV {L:List NItem} (hQ: ∀j a b,j+1<L.length->L[j+1]?=some a->L[j]?=some b->oa a b=false):bY L=L:=by
 cases hL:L with
 |nil=>rfl
 |cons a l=>
  have hlen:0<L.length:=by rw[hL];simp
  obtain⟨b,hb⟩:=getElem?_of_lt (l:=L) (k:=L.length-1) (by omega)
  have:=mP (k:=L.length-1) (fun j a b h=>hQ j a b (by omega)) hb
  rw[show L.length-1+1=L.length from by omega,List.take_length,List.drop_length]at this
  rw[hL]at this
  rw[this];simp[dF]
theorem qs {L:List NItem} {m:Nat} {a b:NItem} (ha:L[m+1]?=some a) (e:oa a b=true):dF b (L.drop (m+1))=dF a (L.drop (m+1+1)):=by
 have hlt:=(List.getElem?_eq_some_iff.1 ha).1
 rw[List.drop_eq_getElem_cons hlt,(List.getElem?_eq_some_iff.1 ha).2,dF,if_pos e]
theorem xI {L:List NItem} {m:Nat} {a b:NItem} (ha:L[m+1]?=some a) (e:oa a b=false):dF b (L.drop (m+1))=a::dF a (L.drop (m+1+1)):=by
 have hlt:=(List.getElem?_eq_some_iff.1 ha).1
 rw[List.drop_eq_getElem_cons hlt,(List.getElem?_eq_some_iff.1 ha).2,dF,if_neg (by simp[e])]
theorem Bz {L pre:List NItem} {m:Nat} (h:pre.length<=m):(pre++L.drop pre.length)[m]?=L[m]?:=by
 rw[List.getElem?_append_right h,List.getElem?_drop,Nat.add_sub_cancel' h]
theorem C0 {L pre:List NItem} {a:NItem} (h:pre.length<L.length):(pre++L.drop pre.length).set pre.length a=(pre++[a])++L.drop (pre++[a]).length:=by
 have e:L.drop pre.length=L[pre.length]::L.drop (pre.length+1):=List.drop_eq_getElem_cons h
 rw[List.set_append_right _ _ (Nat.le_refl _),Nat.sub_self,e,List.set_cons_zero]
 simp
theorem m9 (g cap:Nat) (L:List NItem) (bx sx so:Nat) (w:World) (hL:mT w g (cap*2) L) (hcap:L.length<=cap) (hlen:L.length<=4611686018427387904)
  (hok: ∀it∈L,ItemOk w g it) (h1:w.cell? ⟨bx,0,none⟩=some (.pointer (some ⟨sx,so,none⟩))) (h2:w.cell? ⟨sx,so+1,none⟩=some (.func (Fn.func 35) #[] #[])) (hbx:bx≠g) (hsx:sx≠g):
  Calls Tryz.prog 80 #[.slice (some ⟨g,0,none⟩) L.length cap,.func (Fn.func 81) #[] #[.pointer (some ⟨bx,0,none⟩)]] w fun e w'=>
   e= .returned (.slice (some ⟨g,0,none⟩) (bY L).length cap)/\mT w' g (cap*2) (bY L)/\w.grownBy w' (some g):=by
 have HL:=Lib.hid hL
 have HOK:=Lib.hid hok
 have HB1:=Lib.hid h1
 have HB2:=Lib.hid h2
 have HN1:=Lib.hid hbx
 have HN2:=Lib.hid hsx
 clear hL hok h1 h2 hbx hsx
 have hz59: ∀w,(zeroValue 74).run Tryz.prog w= .ok (.agg #[.int .i64 0,.slice none 0 0]) w:=fun w=>by kernel_rfl
 have HZ:=Lib.hid hz59
 clear hz59
 by_cases hsz:L.length<2
 ·have HC:Hid (bY L=L):=Lib.hid (mV (fun j a b h=>by omega))
  go_enter Tryz.func80,Tryz.ntmps80
  go_wp2_with fail
  go_ret
  rw[HC.out]
  exact⟨rfl,HL.out,World.grownBy.refl _ _⟩
 ·have hszb:decide ((L.length:Int)<2)=false:=by simp;omega
  go_enter Tryz.func80,Tryz.ntmps80
  go_wp2_with fail
  clear hszb
  go_loopw [5,6,7] (fun i _ _ wr=> ∃k:Nat,1<=k/\k<=L.length/\i= .int .i64 k/\Hid (Ext w wr)/\Hid (∀j a b,j+1<k->L[j+1]?=some a->L[j]?=some b->oa a b=false)) (fun i _ _ _=>L.length-(intOf i).toNat)
  case atStart=>exact⟨1,by omega,by omega,rfl,Lib.hid (Ext.refl _),Lib.hid (fun j a b h=>by omega)⟩
  case round=>
   obtain⟨k,hk1,hk,rfl,HE,HQ⟩:=hrel
   by_cases hlt:k<L.length
   ·obtain⟨a,ha⟩:=getElem?_of_lt hlt
    obtain⟨b,hb⟩:=getElem?_of_lt (l:=L) (k:=k-1) (by omega)
    have HA:=Lib.hid ha
    have HB:=Lib.hid hb
    clear ha hb
    have HL1:=Lib.hid (HL.out.ext (HE.out.drew))
    have t1:=HL1.out.cell0 HA.out
    have t2:=HL1.out.cell1 HA.out
    have t3:=HL1.out.cell0 HB.out
    have t4:=HL1.out.cell1 HB.out
    have HE1:=Lib.hid HE.out.drew
    clear HE
    have a1:IntKind.i64.wrap ((k:Int)-1)=(k:Int)-1:=IntWalk.i64_in _ (by omega)
    have a2:0<=(k:Int)-1:=by omega
    have a3:((k:Int)-1).toNat=k-1:=by omega
    have a4:(k:Int)-1<(L.length:Int):=by omega
    have a5:(1:Int)<=(k:Int):=by omega
    go_wp2_with fail
    refine de 10 (by kernel_rfl) (by kernel_rfl) ?_
    simp only[List.take_succ_cons,List.take_zero,List.drop_succ_cons,List.drop_zero]
    generalize wr.drew=w3 at*
    iterate 10 still_step
    refine wpStill_nil ?_
    have HC:=Lib.hid (pi a b bx sx so w3 g ((HOK.out a (List.mem_of_getElem? HA.out)).ext HE1.out) ((HOK.out b (List.mem_of_getElem? HB.out)).ext HE1.out) (HE1.out.cell HB1.out) (HE1.out.cell HB2.out))
    unfold NItem.agg at HC
    clear t1 t2 t3 t4 HL1 a1 a2 a3 a4 a5
    cases heq:oa a b with
    |false=>
     rw[heq]at HC
     have HEQ:=Lib.hid heq
     clear heq
     go_wp2_with fail
     refine HC.out.mono ?_
     rintro e w' ⟨rfl,he⟩
     have HE2:=Lib.hid (HE1.out.trans he)
     clear he
     go_wp2_with fail
     go_roundw
     case rel=>
      refine⟨k+1,by omega,by omega,by go_num,HE2,Lib.hid (fun j x y hj hx hy=>?_)⟩
      by_cases e:j+1=k
      ·subst e
       rw[HA.out]at hx
       have hB:=HB.out
       rw[show j+1-1=j from by omega,hy]at hB
       cases hx;cases hB
       exact HEQ.out
      ·exact HQ.out j x y (by omega) hx hy
     case measure=>simp[intOf];omega
    |true=>
     rw[heq]at HC
     have HEQ:=Lib.hid heq
     clear heq
     have HCP:Hid (bY L=L.take k++dF a (L.drop (k+1))):=Lib.hid (by
      obtain⟨m,rfl⟩: ∃m,k=m+1:=⟨k-1,by omega⟩
      rw[mP (k:=m) HQ.out HB.out,qs HA.out HEQ.out])
     go_wp2_with fail
     refine HC.out.mono ?_
     rintro e w' ⟨rfl,he⟩
     have HE2:=Lib.hid (HE1.out.trans he)
     clear he HC HE1
     go_wp2_with fail
     obtain⟨wo,rfl⟩: ∃wo:World,wo=wr:=⟨_,rfl⟩
     go_loopw [7,5] (fun s i wx=> ∃(j:Nat) (pre:List NItem) (last:NItem),1<=j/\j<=L.length-k/\s= .int .i64 j/\i= .int .i64 (pre.length:Nat)/\k<=pre.length/\pre.length+1<=k+j/\Hid (L[k+j-1]?=some last)/\Hid (bY L=pre++dF last (L.drop (k+j)))/\Hid (mT wx g (cap*2) (pre++L.drop pre.length))/\Hid (w.grownBy wx (some g))) (fun s _ _=>L.length-(intOf s).toNat)
     case atStart=>
      have hlt':(L.take k).length=k:=by rw[List.length_take];omega
      refine⟨1,L.take k,a,by omega,by omega,rfl,by rw[hlt'],by omega,by omega,Lib.hid (by rw[show k+1-1=k from by omega];exact HA.out),HCP,Lib.hid ?_,Lib.hid (en HE2.out g)⟩
      rw[hlt',List.take_append_drop]
      exact HL.out.ext HE2.out
     case round=>
      clear HE2 HCP HEQ HQ HA HB
      obtain⟨j,pre,last,hj1,hj,rfl,rfl,hp1,hp2,HLA,HCP,HLS,HGB⟩:=hrel
      by_cases hjl:j<L.length-k
      ·obtain⟨a2,ha2⟩:=getElem?_of_lt (l:=L) (k:=k+j) (by omega)
       have m1:(pre++L.drop pre.length)[k+j]?=some a2:=by rw[Bz (by omega)];exact ha2
       have m2:(pre++L.drop pre.length)[k+(j-1)]?=some last:=by rw[Bz (by omega),show k+(j-1)=k+j-1 from by omega];exact HLA.out
       have t1:=HLS.out.cell0 m1
       have t2:=HLS.out.cell1 m1
       have t3:=HLS.out.cell0 m2
       have t4:=HLS.out.cell1 m2
       rw[Nat.add_mul]at t1 t2 t3 t4
       have HA2:=Lib.hid ha2
       have HM1:=Lib.hid m1
       clear ha2 m1 m2
       have t1':wr.drew.cell? _=_:=t1
       have t2':wr.drew.cell? _=_:=t2
       have t3':wr.drew.cell? _=_:=t3
       have t4':wr.drew.cell? _=_:=t4
       have HGB1:Hid (w.grownBy wr.drew (some g)):=Lib.hid (fQ HGB.out (en ((Ext.refl _).drew) g))
       have HLS1:Hid (mT wr.drew g (cap*2) (pre++L.drop pre.length)):=Lib.hid (HLS.out.ext ((Ext.refl _).drew))
       clear t1 t2 t3 t4 HGB HLS
       have hjz:(j:Int)<((L.length-k:Nat):Int):=by omega
       have a1:IntKind.i64.wrap ((j:Int)-1)=(j:Int)-1:=IntWalk.i64_in _ (by omega)
       have a2':0<=(j:Int)-1:=by omega
       have a3:((j:Int)-1).toNat=j-1:=by omega
       have a4:(j:Int)-1<((L.length-k:Nat):Int):=by omega
       have a5:(1:Int)<=(j:Int):=by omega
       go_wp2_with fail
       refine de 10 (by kernel_rfl) (by kernel_rfl) ?_
       simp only[List.take_succ_cons,List.take_zero,List.drop_succ_cons,List.drop_zero]
       generalize wr.drew=w3 at*
       iterate 10 still_step
       refine wpStill_nil ?_
       have HC:=Lib.hid (pi a2 last bx sx so w3 g ((HOK.out a2 (List.mem_of_getElem? HA2.out)).gb HGB1.out) ((HOK.out last (List.mem_of_getElem? HLA.out)).gb HGB1.out) (jX HGB1.out HB1.out HN1.out) (jX HGB1.out HB2.out HN2.out))
       unfold NItem.agg at HC
       clear t3' t4' a1 a2' a3 a4 a5
       cases heq:oa a2 last with
       |true=>
        rw[heq]at HC
        have HEQ:=Lib.hid heq
        clear heq t1' t2'
        go_wp2_with fail
        refine HC.out.mono ?_
        rintro e w4 ⟨rfl,he⟩
        have HGB2:=Lib.hid (fQ HGB1.out (en he g))
        have HLS2:=Lib.hid (HLS1.out.ext he)
        clear he
        go_wp2_with fail
        go_roundw
        case rel=>
         refine⟨j+1,pre,a2,by omega,by omega,by go_num,rfl,hp1,by omega,Lib.hid (by rw[show k+(j+1)-1=k+j from by omega];exact HA2.out),Lib.hid ?_,HLS2,HGB2⟩
         obtain⟨m,hm⟩: ∃m,k+j=m+1:=⟨k+j-1,by omega⟩
         have h1:=HA2.out
         rw[hm]at h1
         rw[HCP.out,hm,qs h1 HEQ.out,show k+(j+1)=m+1+1 from by omega]
        case measure=>simp[intOf];omega
       |false=>
        rw[heq]at HC
        have HEQ:=Lib.hid heq
        clear heq
        have hpl:pre.length<L.length:=by omega
        have hpz:(pre.length:Int)<(L.length:Int):=by omega
        obtain⟨p,hp⟩: ∃p,p=pre.length:=⟨_,rfl⟩
        go_wp2_with fail
        refine HC.out.mono ?_
        rintro e w4 ⟨rfl,he⟩
        have HGB2:=Lib.hid (fQ HGB1.out (en he g))
        have HLS2:=Lib.hid (HLS1.out.ext he)
        have s1:=he.cell t1'
        have s2:=he.cell t2'
        have hlm:pre.length<(pre++L.drop pre.length).length:=by rw[List.length_append,List.length_drop];omega
        obtain⟨q,hq⟩:=getElem?_of_lt hlm
        have s3:=HLS2.out.cell0 hq
        have s4:=HLS2.out.cell1 hq
        have s5:=HLS2.out.frozen (pre.length*2)
        have s6:=HLS2.out.frozen (pre.length*2+1)
        have HSET:=Lib.hid (HLS2.out.set hlm a2)
        clear he t1' t2' hq hlm HC hp
        go_wp2_with fail
        go_roundw
        case rel=>
         refine⟨j+1,pre++[a2],a2,by omega,by omega,by go_num,by simp,by simp;omega,by simp;omega,Lib.hid (by rw[show k+(j+1)-1=k+j from by omega];exact HA2.out),Lib.hid ?_,Lib.hid ?_,Lib.hid (rk (rk HGB2.out _ _) _ _)⟩
         ·obtain⟨m,hm⟩: ∃m,k+j=m+1:=⟨k+j-1,by omega⟩
          have h1:=HA2.out
          rw[hm]at h1
          rw[HCP.out,hm,xI h1 HEQ.out,show k+(j+1)=m+1+1 from by omega]
          simp
         ·have:=HSET.out
          rw[C0 hpl]at this
          exact this
        case measure=>simp[intOf];omega
      ·have hjl':j=L.length-k:=by omega
       have HF:Hid (bY L=pre):=Lib.hid (by rw[HCP.out,show k+j=L.length from by omega,List.drop_length];simp[dF])
       have hpl:pre.length<L.length:=by omega
       have hcl: ∀ty,(Builtin.clear_ #[67] ty #[.slice (some ⟨g,pre.length*2,none⟩) (L.length-pre.length) (cap-pre.length)]).run Tryz.prog wr= .ok (.tuple #[]) (wr.setCells g (pre.length*2) (Builtin.zeroCells #[.int .i64 0,.slice none 0 0] (L.length-pre.length)).toList):=fun ty=>by
        obtain⟨f,f1,f2,f3⟩:=HLS.out
        refine pK wr _ 74 ty (.agg #[.int .i64 0,.slice none 0 0]) Tryz.underlying67 HZ.out (by simp[Value.cells,Value.oneCell']) (by simp[Value.cells]) g _ _ _ (by omega) (fun j hj=>?_) (fun j hj=>f1.frozen _)
        simp[Value.cells]at hj
        rw[f1.cell (by omega)];rfl
       have HCL:Hid (mT (wr.setCells g (pre.length*2) (Builtin.zeroCells #[.int .i64 0,.slice none 0 0] (L.length-pre.length)).toList) g (cap*2) pre):=Lib.hid (by
        obtain⟨f,f1,f2,f3⟩:=HLS.out
        obtain⟨f',q1,q2,_⟩:=lA (Builtin.zeroCells #[.int .i64 0,.slice none 0 0] (L.length-pre.length)).toList (pre.length*2) wr f f1
        refine⟨f',q1,by omega,fun i it hi=>?_⟩
        have hlt:=(List.getElem?_eq_some_iff.1 hi).1
        have:=f3 i it (by rw[List.getElem?_append_left hlt];exact hi)
        rw[q2 _ (by omega),q2 _ (by omega)]
        exact this)
       have HGB3:Hid (w.grownBy (wr.setCells g (pre.length*2) (Builtin.zeroCells #[.int .i64 0,.slice none 0 0] (L.length-pre.length)).toList) (some g)):=Lib.hid (mQ (b:=wr) _ _ HGB.out)
       clear hjl'
       go_wp2_with fail
       go_ret
       rw[HF.out]
       exact⟨rfl,HCL.out,HGB3.out⟩
   ·have HC:Hid (bY L=L):=Lib.hid (mV (fun j a b h=>HQ.out j a b (by omega)))
    go_wp2_with fail
    go_ret
    rw[HC.out]
    exact⟨rfl,HL.out.ext HE.out,en HE.out g⟩
def cJ (l:List Int) (a:Nat):Nat:=if a<l.length then a+1 else a
def tM (v:Value) (a:Nat) (g:Nat->Value):Nat->Value:=fun j=>if j=0 then v else if j=1 then .int .i64 (a:Int)else g j
theorem y3 (tx n:Nat) (A:Option Addr) (c:Nat) (l:List Int) (a:Nat) (g:Nat->Value) (w:World) (hn:2<=n) (hl:RdI .i8 w A l) (hb: ∀z∈l,-128<=z/\z<=127) (ll:l.length<=9223372036854775807) (ha:a<=l.length) (hT:w.rowIs tx 45 n (tM (.slice A l.length c) a g)) (hne:l≠[]-> ∀p,A=some p->p.block≠tx):
  Calls Tryz.prog 19 #[.pointer (some ⟨tx,0,none⟩)] w fun e w'=>e= .returned (.int .i64 (l.getD a 0))/\w'.rowIs tx 45 n (tM (.slice A l.length c) (cJ l a) g)/\w.grownBy w' (some tx):=by
 have HT:=Lib.hid hT
 have HL:=Lib.hid hl
 have HB:=Lib.hid hb
 have HN:=Lib.hid hne
 clear hT hl hb hne
 have t0:w.cell? ⟨tx,0,none⟩=some (.slice A l.length c):=HT.out.cell (by omega)
 have t1:w.cell? ⟨tx,1,none⟩=some (.int .i64 (a:Int)):=HT.out.cell (by omega)
 have t2:w.frozen? ⟨tx,1,none⟩=false:=HT.out.frozen 1
 by_cases hlt:a<l.length
 ·obtain⟨z,hz⟩:=getElem?_of_lt hlt
  obtain⟨b,off,rfl,hc⟩:=HL.out.at_ hz
  have hbt:b≠tx:=HN.out (by rintro rfl;simp at hlt) _ rfl
  have hzb:=HB.out z (List.mem_of_getElem? hz)
  have hz1:=hzb.1
  have hz2:=hzb.2
  have HZ:Hid (l.getD a 0=z):=Lib.hid (by rw[List.getD_eq_getElem?_getD,hz];rfl)
  have HNx:Hid (cJ l a=a+1):=Lib.hid (if_pos hlt)
  clear hz hzb
  go_enter Tryz.func19,Tryz.ntmps19
  go_wp2_with fail
  go_quiet (fail)
  go_wp2_with fail
  have hrow:=((jK HT.out nq).set 1 (.int .i64 ((a:Int)+1))).congr (g:=tM (.slice (some ⟨b,off,none⟩) l.length c) (a+1) g) (fun j hj=>by
   match j,hj with
   |0,_=>rfl
   |1,_=>simp[tM]
   |j+2,_=>simp[tM])
  have HROW:=Lib.hid hrow
  have HG:=Lib.hid (rk (en ((Ext.refl w).drewN nq) tx) 1 (.int .i64 ((a:Int)+1)))
  have s0:((w.drewN nq).setCell ⟨tx,1,none⟩ (.int .i64 ((a:Int)+1))).cell? ⟨tx,0,none⟩=some (.slice (some ⟨b,off,none⟩) l.length c):=HROW.out.cell (i:=0) (by omega)
  have s1:((w.drewN nq).setCell ⟨tx,1,none⟩ (.int .i64 ((a:Int)+1))).cell? ⟨tx,1,none⟩=some (.int .i64 ((a:Int)+1)):=by
   have:=HROW.out.cell (i:=1) (by omega)
   rw[this];simp[tM]
  have s2:((w.drewN nq).setCell ⟨tx,1,none⟩ (.int .i64 ((a:Int)+1))).cell? ⟨b,off+a,none⟩=some (.int .i8 z):=jX HG.out hc hbt
  have a1:IntKind.i64.wrap ((a:Int)+1-1)=(a:Int):=by rw[Int.add_sub_cancel];exact IntWalk.i64_in _ (by omega)
  have a2:(a:Int)<(l.length:Int):=by omega
  clear t0 t1 t2 hc hrow
  generalize(w.drewN nq).setCell ⟨tx,1,none⟩ (.int .i64 ((a:Int)+1))=w3 at*
  go_quiet (fail)
  go_wp2_with fail
  go_ret
  rw[HZ.out,HNx.out]
  exact⟨rfl,jK HROW.out _,fQ HG.out (en ((Ext.refl _).drewN _) tx)⟩
 ·go_enter Tryz.func19,Tryz.ntmps19
  have HZ:Hid (l.getD a 0=0):=Lib.hid (by rw[List.getD_eq_getElem?_getD,List.getElem?_eq_none (by omega)];rfl)
  have HNx:Hid (cJ l a=a):=Lib.hid (if_neg hlt)
  go_wp2_with fail
  go_quiet (fail)
  go_wp2_with fail
  go_ret
  rw[HZ.out,HNx.out]
  exact⟨rfl,jK HT.out _,en ((Ext.refl _).drewN _) tx⟩
def f8 (z:Int):List PV:=[.raw (.int .i8 z)]
abbrev BO (L:List Int) (a:Nat):List PV:=[.sl (ls f8 L),.raw (.int .i64 (a:Int))]
abbrev gP (b:Nat):TV:= .raw (.pointer (some ⟨b,0,none⟩))
def I8 (L:List Int):Prop:= ∀z∈L,-128<=z/\z<=127
theorem I8.getD {L:List Int} (h:I8 L) (a:Nat): -128<=L.getD a 0/\L.getD a 0<=127:=by
 rw[List.getD_eq_getElem?_getD]
 cases hx:L[a]? with
 |none=>simp
 |some z=>exact h z (List.mem_of_getElem? hx)
theorem CS {X:Nat->Prop} {w:World} {l:List Int} {v:Value} (h:cO X w (.sl (ls f8 l)) v): ∃A c,v= .slice A l.length c/\l.length<=9223372036854775807/\RdI .i8 w A l/\(l≠[]-> ∀p,A=some p-> ¬X p.block):=by
 generalize hx:PV.sl (ls f8 l)=x at h
 cases h with
 |raw v h=>cases hx
 |ptr b off cs f hX hb hc hr=>cases hx
 |nil a c=>
  injection hx with hx
  have hl:l=[]:=by simpa[ls] using hx
  subst hl
  exact⟨a,c,rfl,by simp,RdI.nil _ _ _,fun h=>absurd rfl h⟩
 |sl b off es cap xs f hX hb hes hcap hm hc hr=>
  injection hx with hx
  subst hx
  rw[aD]at hcap hm
  refine⟨some ⟨b,off,none⟩,cap,by rw[aD],hm,fun hne=>⟨b,off,rfl,fun i x hx=>?_⟩,fun _ p hp=>by injection hp with hp;subst hp;exact hX⟩
  rw[List.getElem?_map]at hx
  obtain⟨z,hz,rfl⟩:=Option.map_eq_some_iff.1 hx
  have h1:(ls f8 l)[i]?=some (f8 z):=by rw[bI,hz];rfl
  have he:es=1:=by rw[<- hes _ (List.mem_of_getElem? h1)];rfl
  subst he
  have h2:=hc i _ 0 _ h1 rfl
  have h3:=l6 (hr i _ 0 _ h1 rfl)
  rw[h3,Nat.mul_one,Nat.add_zero]at h2
  exact h2
theorem uZ (b:Nat) (L:List Int) (a:Nat) (hL:I8 L) (ha:a<=L.length):g9 Tryz.prog b 45 19 [gP b] (BO L a) ⟨[],.raw (.int .i64 (L.getD a 0))⟩ (BO L (cJ L a)):=by
 refine⟨by kernel_rfl,fun X w vs hX hXb hbox hvs hargs=>?_⟩
 obtain⟨cells,c,h1,h2,h3,h4,h5,h6⟩:=hbox
 obtain⟨v0,e0,r0⟩:=hargs 0 _ rfl
 have hv0:v0= .pointer (some ⟨b,0,none⟩):=l6 r0
 subst hv0
 obtain rfl:vs= #[.pointer (some ⟨b,0,none⟩)]:=by
  apply Array.ext_getElem?
  intro j
  match j with
  |0=>exact e0
  |j+1=>rw[Array.getElem?_eq_none (by simp at hvs;omega)];rfl
 obtain⟨v,c0,_,r1⟩:=h6 0 _ rfl
 obtain⟨u,c1,_,r2⟩:=h6 1 _ rfl
 have hu:=l6 r2
 subst hu
 obtain⟨A,cap,rfl,hl,hrd,hb⟩:=CS r1
 have hsz:cells.size=c*2:=h2
 have hrow:w.rowIs b 45 (c*2) (tM (.slice A L.length cap) a fun j=>(cells[j]?).getD undef):=by
  refine⟨cells,h1,hsz,fun i hi=>?_⟩
  match i with
  |0=>exact c0
  |1=>exact c1
  |i+2=>simp[tM,hsz,hi]
 have hblk:L≠[]-> ∀p,A=some p->p.block≠b:=fun hne p hp he=>hb hne p hp (by rw[he];exact hXb)
 refine(y3 b (c*2) A cap L a _ w (by omega) hrd hL hl ha hrow hblk).mono fun e w' ⟨q1,⟨cells',q2,q3,q4⟩,q5⟩=>?_
 have hbut: ∀k,k<w.heap.size->k≠b->w'.heap[k]?=w.heap[k]?:=fun k hk hne=>q5.block k hk (by simp;exact hne)
 have hXo: ∀j,Xo X (fun _ _=>none) (famH 0 []) j->X j:=fun j hj=>by
  rcases hj with hj|⟨_,_,_,_,_,g⟩
  ·exact hj
  ·cases g
 refine⟨_,q1,fun _ _=>none,?_,cO.raw _ rfl,cells',c,q2,q3,h3,h4,h5,fun j x hx=>?_⟩
 ·have e: ∀a,famH 0 [] a=[]:=fun a=>by unfold famH;split<;>rfl
  refine⟨⟨q5.os,q5.tape,q5.output,q5.size,fun k hk hn=>hbut k hk hn⟩,fun a r o ho=>?_,fun a r a' r' o o' b c c' ho=>?_,fun a r o b c ho=>?_,fun j hj=>Nat.lt_of_lt_of_le (hX j hj) q5.size,fun a r o ho=>?_⟩<;>(rw[e]at ho;simp at ho)
 ·match j,hx with
  |0,hx=>
   have hx:x= .sl (ls f8 L):=by simpa using hx.symm
   subst hx
   refine⟨.slice A L.length cap,q4 0 (by omega),rfl,r1.later (fun j _ hj=>hXo j hj) q5.size fun p u hp hn hu=>?_⟩
   rw[qg (hbut p.block hp (fun he=>hn (by rw[he];exact hXb)))];exact hu
  |1,hx=>
   have hx:x= .raw (.int .i64 (cJ L a:Nat)):=by simpa using hx.symm
   subst hx
   exact⟨_,q4 1 (by omega),rfl,cO.raw _ rfl⟩
  |j+2,hx=>simp at hx
def nn (L:List Int) (a n:Nat):Nat:=((L.getD a 0)%256).toNat%n
theorem ny {n:Nat} (L:List Int) (a:Nat) (h:0<n):nn L a n<n:=Nat.mod_lt _ h
theorem yn (L:List Int) (a n:Nat):Int.tmod (L.getD a 0%256) (n:Int)=(nn L a n:Int):=by
 have h:L.getD a 0%256=((L.getD a 0%256).toNat:Int):=by omega
 unfold nn
 rw[Int.ofNat_tmod,<- h]
theorem DP (x:Int):IntKind.u8.wrap x=x%256:=by rw[IntKind.wrap_u8]
theorem gF {L:List Int} {a:Nat} (h:a<=L.length):cJ L a<=L.length:=by unfold cJ;split<;>omega
theorem xn (b:Nat) (L:List Int) (a n:Nat) (hL:I8 L) (ha:a<=L.length) (hn1:0<n) (hn:n<=100):g9 Tryz.prog b 45 18 [gP b,.raw (.int .i64 (n:Int))] (BO L a) ⟨[],.raw (.int .i64 (nn L a n:Int))⟩ (BO L (cJ L a)):=by
 have c1:=uZ b L a hL ha
 have e1:=yn L a n
 have e2:=DP (L.getD a 0)
 refine zW Tryz.func18 rfl (by kernel_rfl) ?_;rw[Tryz.ntmps18]
 (refine cB [] [] (by simp) fun K hK=>?_;simp(disch:=omega) only[kc,List.map,ab,gP,Nat.reduceAdd,List.replicate,ac,Value.oneCell'];apply hK)
 (refine qM 1 c1 [] [] (by kernel_rfl) (by rfl) (by rfl) (by simp) fun K hK=>?_;simp(disch:=omega) only[kc,List.map,gP,ab,Nat.reduceAdd,ak,aT,aI,List.find?_cons,aQ,bo,CallRes.plain,aR,aV,az,noRefTV,ap,aS,aP,bf,aj,Tryz.underlying2,Ca,e2,Tryz.underlying5,nD,bC,ai,e1,bL];apply hK)
 (refine wC ⟨.inr rfl,rfl,aJ rfl ?_ rfl⟩;simp(disch:=omega) only[bK,Tryz.results18,aN,List.getElem?_cons_succ,List.getElem?_cons_zero])
def wT (r:List Int):OObj:=⟨2,1,lc fI r⟩
abbrev kI (d n c i:Nat) (f:Nat->Nat->Int):List OObj:=⟨35,1,gd d (List.replicate i c)++List.replicate (n-i) nd⟩::(dp i c f).map wT
abbrev qn (d n c:Nat) (f:Nat->Nat->Int):List OObj:=⟨35,1,gd d (List.replicate n c)⟩::(dp n c f).map wT
theorem zx (d n c:Nat) (f:Nat->Nat->Int):kI d n c n f=qn d n c f:=by simp[kI,qn]
theorem rB {i n:Nat} (d c:Nat) (h:i<=n):(gd d (List.replicate i c)++List.replicate (n-i) nd).length=n:=by simp[cV];omega
theorem Bf {i k n:Nat} (d c:Nat) (h:k<i):(gd d (List.replicate i c)++List.replicate (n-i) nd)[k]?=some [.sl d (k+1) 0 c]:=by
 rw[List.getElem?_append_left (by simp[cV];exact h),dj d c h]
theorem Aq {i n:Nat} (d c:Nat) (h:i<n):(gd d (List.replicate i c)++List.replicate (n-i) nd)[i]?=some nd:=by
 rw[List.getElem?_append_right (by simp[cV]),cV,List.length_replicate,Nat.sub_self,List.getElem?_replicate,if_pos (by omega)]
theorem iR {n i:Nat} (c:Nat) (f:Nat->Nat->Int) (h:i<n):((dp n c f).map wT)[i]?=some ⟨2,1,lc fI (da c (f i))⟩:=by
 rw[List.getElem?_map,df _ _ h];rfl
theorem jx {n i j:Nat} (c:Nat) (f:Nat->Nat->Int) (v:Int):((dp n c f).map wT).set i ⟨2,1,(lc fI (da c (f i))).set j [.p (.raw (.int .i64 v))]⟩=(dp n c (upd f i j v)).map wT:=by
 have e:(⟨2,1,(lc fI (da c (f i))).set j [.p (.raw (.int .i64 v))]⟩:OObj)=wT (da c fun b=>if b=j then v else f i b):=by
  rw[<- sM,wT,<- AO];rfl
 rw[e,<- List.map_set,rq];rfl
theorem dR {n c:Nat} {f g:Nat->Nat->Int} (h: ∀i j,i<n->j<c->f i j=g i j):(dp n c f).map wT=(dp n c g).map wT:=by rw[qv h]
theorem xh {i n c:Nat} (d:Nat) (f:Nat->Nat->Int) (hi:i<n) (h0: ∀j,j<c->f i j=0):
  (⟨35,1,(gd d (List.replicate i c)++List.replicate (n-i) nd).set i [.sl d (i+1) 0 c]⟩::((dp i c f).map wT++[⟨2,1,List.replicate c [.raw (.int .i64 0)]⟩]):List OObj)=kI d n c (i+1) f:=by
 have e1:(gd d (List.replicate i c)++List.replicate (n-i) nd).set i [.sl d (i+1) 0 c]=gd d (List.replicate (i+1) c)++List.replicate (n-(i+1)) nd:=by
  rw[List.set_append_right _ _ (by simp[cV]),cV,List.length_replicate,Nat.sub_self,List.replicate_succ' (n:=i),lF,List.length_replicate,List.append_assoc]
  congr 1
  rw[show n-i=n-(i+1)+1 by omega,List.replicate_succ]
  rfl
 have e2:(⟨2,1,List.replicate c [.raw (.int .i64 0)]⟩:OObj)=wT (da c (f i)):=by
  rw[wT]
  congr 1
  apply List.ext_getElem?
  intro j
  rw[List.getElem?_replicate,b8]
  by_cases hj:j<c
  ·rw[if_pos hj,ce _ hj,h0 j hj];rfl
  ·rw[if_neg hj,List.getElem?_eq_none (by rw[cL];omega)];rfl
 rw[e1,e2,kI,sW,List.map_append];rfl
theorem q9 (d e n c:Nat) (f:Nat->Nat->Int):(qn d n c f).map (db e)=qn e n c f:=by
 simp only[qn,List.map_cons,List.map_map]
 congr 1
 ·simp[db,w9]
 ·exact List.map_congr_left fun r _=>by simp[db,wT,mb]
theorem uo {H:OH} {d n c:Nat} {f:Nat->Nat->Int} (h:H d=qn d n c f):vd H d:=fun r o ho e he x hx=>by
 rw[h]at ho
 cases r with
 |succ r=>
  rw[List.getElem?_cons_succ,List.getElem?_map]at ho
  obtain⟨l,hl,rfl⟩:=Option.map_eq_some_iff.1 ho
  exact .inl (gQ _ _ l e he x hx)
 |zero=>
  simp at ho
  subst ho
  simp only at he
  obtain⟨k,hk⟩:=List.mem_iff_getElem?.1 he
  have hkn:k<n:=by
   have:=(List.getElem?_eq_some_iff.1 hk).1
   rwa[cV,List.length_replicate]at this
  rw[dj d c hkn]at hk
  injection hk with hk
  subst hk
  simp at hx
  subst hx
  refine .inr ⟨k+1,0,c,wT (da c (f k)),rfl,?_,gQ _ _ _⟩
  rw[h,List.getElem?_cons_succ,List.getElem?_map,df _ _ hkn];rfl
theorem ED {H:OH} {d n c:Nat} {f:Nat->Nat->Int} (h:H d=qn d n c f):gR H d (.one (.sl d 0 0 n))=ey (dp n c f):=by
 have e:((gd d (List.replicate n c)).map (List.map (jE H d)))=ls (fR fI) (dp n c f):=by
  apply List.ext_getElem?
  intro i
  rw[List.getElem?_map,bI]
  by_cases hi:i<n
  ·rw[dj d c hi,df _ _ hi]
   simp only[Option.map_some,List.map_cons,List.map_nil,jE,h,List.getElem?_cons_succ,iR _ _ hi,fR,ew,wR,vZ]
   rw[List.drop_zero,List.take_of_length_le (by rw[cL];omega)]
  ·rw[List.getElem?_eq_none (by rw[cV,List.length_replicate];omega),List.getElem?_eq_none (by rw[ci];omega)];rfl
 simp only[gR,eX,if_true,h,List.getElem?_cons_zero]
 rw[List.drop_zero,List.take_of_length_le (by rw[cV,List.length_replicate];omega),e]
def BM (L:List Int) (a:Nat):Nat->Nat
 |0=>a
 |i+1=>cJ L (BM L a i)
theorem Bx {L:List Int} {a:Nat} (h:a<=L.length): ∀i,BM L a i<=L.length
 |0=>h
 |i+1=>gF (Bx h i)
theorem Eb (f:Nat->Nat->Int) (i j:Nat) (v:Int):upd f i j v i j=v:=by simp[upd]
theorem Bm {f:Nat->Nat->Int} {i j a b:Nat} {v:Int} (h:a≠i\/b≠j):upd f i j v a b=f a b:=by
 unfold upd
 by_cases h1:a=i
 ·subst h1
  have h2:b≠j:=by rcases h with h|h;exact absurd rfl h;exact h
  simp[h2]
 ·simp[h1]
theorem x8 (f:Nat->Nat->Int) (i j:Nat) (v:Int) (a b:Nat):upd f i j v a b=v\/upd f i j v a b=f a b:=by
 by_cases h:a=i/\b=j
 ·obtain⟨rfl,rfl⟩:=h;exact .inl (Eb f a b v)
 ·exact .inr (Bm (by omega))
def EO (f:Nat->Nat->Int):Prop:= ∀a b,-9<=f a b/\f a b<=9
theorem EO.i64 {f:Nat->Nat->Int} (h:EO f) (a b:Nat):yX (f a b):=by have:=h a b;exact⟨by omega,by omega⟩
theorem EO.upd {f:Nat->Nat->Int} (h:EO f) {i j:Nat} {v:Int} (h1: -9<=v) (h2:v<=9):EO (Go.Proofs.YtpgghglbpcabkaaGreat.upd f i j v):=fun a b=>by
 rcases x8 f i j v a b with e|e
 ·rw[e];exact⟨h1,h2⟩
 ·rw[e];exact h a b
abbrev Aa (l:List Int):TV:= .one (.p (.sl (ls f8 l)))
section
open Go.ChangeShapes Go.WideShapes Go.ChangeAt Go.RowKit
theorem BV {w:World} {l:List Int} {A:Option Addr} {c:Nat} (hl:l.length<=c) (hm:l.length<=9223372036854775807) (h:RdI .i8 w A l):cO (fun _=>False) w (.sl (ls f8 l)) (.slice A l.length c):=by
 cases l with
 |nil=>exact cO.nil _ _
 |cons z0 l0=>
  obtain⟨b,off,rfl,hc⟩:=h (by simp)
  have h0:=hc 0 (.int .i8 z0) (by simp)
  have hb:b<w.heap.size:=j4 h0
  have:=cO.sl (X:=fun _=>False) (w:=w) b off 1 c (ls f8 (z0::l0)) (fun i _=> .int .i8 ((z0::l0).getD i 0)) (fun h=>h) hb (fun e he=>by
   obtain⟨z,_,rfl⟩:=List.mem_map.1 he
   rfl) (by rw[aD];exact hl) (by rw[aD];exact hm) (fun i e j x he hx=>by
   rw[bI]at he
   obtain⟨z,hz,rfl⟩:=Option.map_eq_some_iff.1 he
   cases j with
   |succ j=>simp[f8]at hx
   |zero=>
    have:=hc i (.int .i8 z) (by rw[List.getElem?_map,hz];rfl)
    simp only[Nat.mul_one,Nat.add_zero,List.getD_eq_getElem?_getD,hz,Option.getD_some]
    exact this) (fun i e j x he hx=>by
   rw[bI]at he
   obtain⟨z,hz,rfl⟩:=Option.map_eq_some_iff.1 he
   cases j with
   |succ j=>simp[f8]at hx
   |zero=>
    simp[f8]at hx
    subst hx
    simp only[List.getD_eq_getElem?_getD,hz,Option.getD_some]
    exact cO.raw _ rfl)
  rw[aD]at this
  exact this
theorem oD {H:Type} {enc:TypeId×Value->H} {P:Program} {W:World} {base:Nat} {held:Bool} {t e:TypeId} {n:Nat} {v:Value} {y:DataW H×List MemPlace}
  (ht:P.underlying t=some (.slice e)) (he:P.underlying e=some (.int .i8)) (hc:P.cellsOf e=1) (h:DataW.trod enc P W base (fun _=>true) held n t [v]=some y):
  ∃L:List Int,cO (fun _=>False) W (.sl (ls f8 L)) v/\I8 L:=by
 rcases DataW.trod_slice ht h with⟨hcs,_⟩|⟨x,l,c,_,_,_,_,hcs,_⟩
 ·simp at hcs
  subst hcs
  exact⟨[],cO.nil _ _,fun z hz=>by simp at hz⟩
 ·simp at hcs
  subst hcs
  obtain⟨zs,g1,g2,g3,g4,g5,_⟩:=sv (enc:=enc) (base:=base) (held:=held) (d:=y.1) (p:=y.2) ht he hc ⟨n,by simpa[Value.cells] using h⟩
  refine⟨zs,?_,fun z hz=>Ba (g5 z hz)⟩
  rw[g1]
  unfold maxLen at g3
  exact BV (by omega) (by omega) g4
theorem oA {H:Type} {enc:TypeId×Value->H} {P:Program} {W:World} {base:Nat} {held:Bool} {t:TypeId} {n:Nat} {v:Value} {y:DataW H×List MemPlace}
  (ht:P.underlying t=some (.int .u8)) (h:DataW.trod enc P W base (fun _=>true) held n t [v]=some y): ∃m:Nat,v= .int .u8 (m:Int)/\m<=255:=by
 obtain⟨m,hv,_,hw⟩:=DataW.trod_int ht h
 have:=sA hw
 refine⟨m.toNat,?_,by omega⟩
 simp at hv
 rw[hv]
 congr 1
 omega
theorem EZ {w:World}: ∀{ts:List TV} {vs:List Value},ts.length=vs.length->(∀(j:Nat) t v,ts[j]?=some t->vs[j]?=some v->t.rel (fun _ _=>none) (fun _=>[]) (fun _=>False) w v)->
  ∀(j:Nat) t,ts[j]?=some t-> ∃v:Value,vs.toArray[j]?=some v/\t.rel (fun _ _=>none) (fun _=>[]) (fun _=>False) w v:=fun{ts vs} hl h j t hj=>by
 have hlt:=(List.getElem?_eq_some_iff.1 hj).1
 obtain⟨v,hv⟩: ∃v,vs[j]?=some v:=⟨_,List.getElem?_eq_getElem (by omega)⟩
 exact⟨v,by simpa using hv,h j t v hj hv⟩
end
theorem dQ (l:List Nat) (hb:l.length<=1073741824):CallC Tryz.prog 51 [bO l] ⟨[],bO (dG l)⟩:=by
 refine aC Tryz.func51 rfl (by kernel_rfl) ?_;rw[Tryz.ntmps51]
 (refine aa [] fun K hK=>?_;simp(disch:=omega) only[kc,ab,bO,List.replicate,ac,Value.oneCell'];apply hK)
 refine ae (bT (G:={n:Nat//n<=l.length/\dG l=dG (l.take n)}) (fun n=>⟨[bO (l.take n.1),jk,jk,jk,jk,jk,jk,jk,jk,jk,jk,jk,jk,jk,jk,jk,jk,jk,jk,jk,jk],Hm []⟩) (fun n=>n.1) ⟨l.length,Nat.le_refl _,by simp⟩ ?_ ?_)
 ·refine am trivial ?_
  simp[cu,bD,bA]
 ·rintro⟨n,hn,hT⟩
  simp only
  have hlen:(l.take n).length=n:=by simp;omega
  by_cases h0:0<n
  ·obtain⟨a,ha⟩:=getElem?_of_lt (l:=l) (k:=n-1) (by omega)
   have e1:((n:Int)-1).toNat=n-1:=by omega
   have ha2:(l.take n)[n-1]?=some a:=by rw[List.getElem?_take,if_pos (by omega),ha]
   have htk:l.take n=l.take (n-1)++[a]:=by
    have:=List.take_succ_eq_append_getElem (i:=n-1) (l:=l) (by omega)
    rw[show n-1+1=n by omega]at this
    rw[this,(List.getElem?_eq_some_iff.1 ha).2]
   (refine ae (aa [] fun K hK=>?_);simp(disch:=omega) only[kc,ab,Nat.reduceAdd,bO,Hm,aq,ao,ah,aD,hlen,aj,ac,Value.oneCell',ai,bE,aA,bL,bC,ag,an,e1,bI,ha2,fU,aO,ax,bu,aM];apply hK)
   refine af rfl (fun hz=>ay ?_) (fun hz=>bF ?_)
   ·have hz':a=0:=by simpa using hz
    refine aU ?_
    ((refine aX [] [] (by simp) fun K hK=>?_);simp(disch:=omega) only[kc,ab,Nat.reduceAdd,bE,aq,ao,ah,aD,hlen,aj,ac,Value.oneCell',ai,bC,gC,eS,an,e1,aO,vE ry,and_true,wa,bL];apply hK)
    refine⟨⟨n-1,by omega,?_⟩,by simp only;omega,am trivial ?_⟩
    ·rw[hT,htk,hz',jJ]
    ·simp[cu,bD,bA,List.take_take,Nat.min_eq_left (show n-1<=n by omega)]
   ·have hz':a≠0:=by intro e;simp[e]at hz
    have hfin:dG l=l.take n:=by rw[hT,htk,qt hz']
    show bX _ _ _ _
    (refine aa [] fun K hK=>?_;simp(disch:=omega) only[kc,ab,bj];apply hK)
    (refine aE ⟨.inr rfl,aJ rfl ?_ rfl⟩;simp(disch:=omega) only[bK,Tryz.results51,aN,List.getElem?_cons_succ,List.getElem?_cons_zero,bO,hfin])
  ·have hn0:n=0:=by omega
   subst hn0
   have hfin:dG l=l.take 0:=by rw[hT];simp[dG]
   (refine ae (aa [] fun K hK=>?_);simp(disch:=omega) only[kc,ab,Nat.reduceAdd,bO,gS,Hm,aq,ao,ah,aj,ac,Value.oneCell',ai,bj,aA,Option.map_none,ag,aM];apply hK)
   refine af rfl (fun hz=>by cases hz) (fun hz=>bF ?_)
   show bX _ _ _ _
   (refine aa [] fun K hK=>?_;simp(disch:=omega) only[kc,ab];apply hK)
   (refine aE ⟨.inr rfl,aJ rfl ?_ rfl⟩;simp(disch:=omega) only[bK,Tryz.results51,aN,List.getElem?_cons_succ,List.getElem?_cons_zero,bO,hfin,List.take_zero,gS])
theorem dP (neg:Bool) (n:Nat):CallC Tryz.prog 83 [.raw (.bool neg),bO (aK n)] ⟨[],tZ (eY neg n)⟩:=by
 by_cases h0:n=0
 ·subst h0
  rw[cD,show tZ (eY neg 0)= .agg [.p (.raw (.bool false)),.p (.sl (ls fU []))] by
   have:eY neg 0=0:=by cases neg<;>rfl
   simp[this,tZ,cD]]
  refine aC Tryz.func83 rfl (by kernel_rfl) ?_;rw[Tryz.ntmps83]
  (refine aa [] fun K hK=>?_;simp(disch:=omega) only[kc,ab,bO,gS,Nat.reduceAdd,List.replicate,bs,aT,aI,aZ,Value.oneCell',bL];apply hK)
  (refine ae (aa [] fun K hK=>?_);simp(disch:=omega) only[kc,ab,Nat.reduceAdd,aq,ao,ah,aj,ac,Value.oneCell',ai,bE];apply hK)
  refine af rfl (fun _=>?_) (fun h=>by simp at h)
  (refine aa [] fun K hK=>?_;simp(disch:=omega) only[kc,ab,eh,ao,aZ,eI,Value.oneCell',ex,aB,dr,bN,aF,au,cellsOf,Nat.reduceAdd,Nat.le_refl,isPure,bL,putCells,aH,aL];apply hK)
  refine aE ⟨.inr rfl,?_⟩
  refine⟨_,fy 4,lh (d:=1000) rfl ?_ rfl⟩
  simp(disch:=omega) only[kc,bK,Tryz.results83,aN,zH,au,bL,zO,ur,uG,cH,ax,aF,aW,Nat.reduceAdd,Nat.le_refl,gS]
 ·have hl:=eF (n:=n)
  have hl':(aK n).length≠0:=by omega
  rw[show tZ (eY neg n)= .agg [.p (.raw (.bool neg)),.p (.sl (ls fU (aK n)))] by
   have:decide (0<n)=true:=by simp;omega
   simp[tZ,jw,rl,this]]
  refine aC Tryz.func83 rfl (by kernel_rfl) ?_;rw[Tryz.ntmps83]
  (refine aa [] fun K hK=>?_;simp(disch:=omega) only[kc,ab,bO,Nat.reduceAdd,List.replicate,bs,aT,aI,aZ,Value.oneCell',bL];apply hK)
  (refine ae (aa [] fun K hK=>?_);simp(disch:=omega) only[kc,ab,Nat.reduceAdd,aq,ao,ah,aD,aj,ac,Value.oneCell',ai,bj];apply hK)
  refine af rfl (fun h=>by simp at h<;>omega) (fun _=>ay ?_)
  show bX _ _ _ _
  (refine aa [] fun K hK=>?_;simp(disch:=omega) only[kc,ab,Nat.reduceAdd,eh,ao,aZ,eI,Value.oneCell',ex,cellsOf,Nat.reduceLeDiff,Nat.le_refl,bL,aB,dr,bN,aF,au,isPure,putCells,aH,aL];apply hK)
  (refine aE ⟨.inr rfl,aJ rfl ?_ rfl⟩;simp(disch:=omega) only[kc,bK,Tryz.results83,aN,au,cH,ax,aF,aW,Nat.reduceAdd,Nat.le_refl])
theorem uI {P:Program} {f:FuncId} {args:List TV} {r:TV} (hc:callable P f=true) (h: ∀(X:Nat->Prop) (w:World) (vs:Array Value),(∀b,X b->b<w.heap.size)->vs.size=args.length->
  (∀(j:Nat) t,args[j]?=some t-> ∃v:Value,vs[j]?=some v/\t.rel (fun _ _=>none) (fun _=>[]) X w v)->Calls P f vs w fun e w'=> ∃v,e= .returned v/\(∀ρ H Y,(∀b,Y b->b<w.heap.size)->r.rel ρ H Y w' v)/\Ext w w'):CallC P f args ⟨[],r⟩:=
 ⟨hc,fun X w vs hX hvs ha=>(h X w vs hX hvs ha).mono fun e w' ⟨v,h1,h2,h3⟩=>⟨v,h1,fun _ _=>none,v7 h3 hX,h2 _ _ _ (fun b hb=>by
  rcases hb with hb|⟨a,r,o,c,ho,hr⟩
  ·exact hX b hb
  ·cases hr)⟩⟩
end Go.Proofs.YtpgghglbpcabkaaGreat
