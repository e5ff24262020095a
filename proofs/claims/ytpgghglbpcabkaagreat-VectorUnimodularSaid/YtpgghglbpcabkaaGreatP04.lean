/-
  Part 5 of a proof (walks and plain facts).
-/
import Derived.Test.YtpgghglbpcabkaaGreatP03
set_option linter.all false
set_option maxRecDepth 100000
set_option maxHeartbeats 64000000
namespace Go.Proofs.YtpgghglbpcabkaaGreat
open Go.RowKit
section
section
variable {P:Program} {w0 w w':World} {O X:Nat->Prop} {ρ:eZ} {H:OH}
theorem km {f : FuncId} (h : callable P f = true) : ∃ fn, P.funcs[f]? = some fn /\ fn.body.isNone = false /\ (fn.name == "runtime.NumGoroutine") = false := by
 unfold callable at h
 split at h
 ·rename_i fn hf
  simp only[Bool.and_eq_true,Bool.not_eq_true']at h
  exact⟨fn,hf,by cases hb:fn.body<;>simp_all,h.2⟩
 ·cases h
theorem o5 {o:Oper} {c:Call} {f:FuncId} {e:Operand->Value} (ho:o.op= .call c) (hc:c.callee= .value (.func f)) (he:e (.func f)= .func (.func f) #[] #[]) (hf:callable P f=true):
  (execOp e o).run P w= .ok (.enter f (c.args.map e)) w:=by
 obtain⟨fn,h1,h2,h3⟩:=km hf
 unfold execOp
 simp only[ho,resolve,hc,he,Deferred.ofValue,Sem.run_bind,Sem.run_pure,Result.andThen_ok,invoke]
 unfold callFunc
 simp only[Sem.run_bind]
 show Result.andThen (.ok P w) _=_
 rw[Result.andThen_ok,h1]
 simp only[h3,h2,Bool.false_eq_true,if_false]
 simp
theorem yC {o:Oper} {c:Call} {x:Operand} {f:FuncId} {e:Operand->Value} {vs:Array Value} (ho:o.op= .call c) (hc:c.callee= .value x) (he:e x= .func (.func f) #[] vs) (hf:callable P f=true):
  (execOp e o).run P w= .ok (.enter f (c.args.map e++vs)) w:=by
 obtain⟨fn,h1,h2,h3⟩:=km hf
 unfold execOp
 simp only[ho,resolve,hc,he,Deferred.ofValue,Sem.run_bind,Sem.run_pure,Result.andThen_ok,invoke]
 unfold callFunc
 simp only[Sem.run_bind]
 show Result.andThen (.ok P w) _=_
 rw[Result.andThen_ok,h1]
 simp only[h3,h2,Bool.false_eq_true,if_false]
 simp
theorem yV {Y:Nat->Prop} {q:Option TV} {v:Value} {f:FuncId} {extra:List TV} (hq: ∀t,q=some t->t.rel ρ H Y w v) (h:yN q=some (f,extra)): ∃vs:Array Value,v= .func (.func f) #[] vs/\vs.size=extra.length/\ ∀(j:Nat) t,extra[j]?=some t-> ∃u:Value,vs[j]?=some u/\t.rel ρ H Y w u:=by
 unfold yN at h
 split at h
 ·rename_i f' cs
  injection h with h
  injection h with h h'
  subst h h'
  obtain⟨u,⟨vs,h1,h2,h3⟩,h4⟩:=hq _ rfl
  subst h1
  refine⟨vs,h4,by simpa using h2,fun j t hj=>?_⟩
  rw[List.getElem?_map]at hj
  obtain⟨y,hy,rfl⟩:=Option.map_eq_some_iff.1 hj
  obtain⟨u,u1,u2,u3⟩:=h3 j y hy
  exact⟨u,u1,u3⟩
 ·rename_i f' first caps
  split at h
  ·rename_i hc
   injection h with h
   injection h with h h'
   subst h h'
   have:=(cW (hq _ rfl)).1
   simp only[Bool.and_eq_true,Array.isEmpty_iff]at hc
   obtain⟨rfl,rfl⟩:=hc
   exact⟨#[],this,rfl,fun j t hj=>by simp at hj⟩
  ·cases h
 ·cases h
theorem mf {ρ':eZ} {H':OH} {Y Y':Nat->Prop} {d:Nat} {x:AV} {v:Value} (h:aV x=true) (hr:x.rel ρ H Y w v):(aP d x).rel ρ' H' Y' w' v:=by
 cases x with
 |p x=>
  cases x with
  |raw u=>
   obtain⟨rfl,h1⟩:=cW (ρ:=ρ) (H:=H) hr
   exact cO.raw _ h1
  |sl xs=>cases h
  |ptr cs=>cases h
 |sl a r off len=>cases h
 |ptr a r i j=>cases h
 |junk=>cases h
theorem Ct {ρ':eZ} {H':OH} {Y Y':Nat->Prop} {d:Nat} {t:TV} {v:Value} (h:aR t=true) (hr:t.rel ρ H Y w v):(aS d t).rel ρ' H' Y' w' v:=by
 have agg: ∀cs v,cs.all aV=true->cE ρ H Y w cs v->cE ρ' H' Y' w' (cs.map (aP d)) v:=fun cs v hc h=>by
  simp only[List.all_eq_true]at hc
  obtain⟨vs,h1,h2,h3⟩:=h
  refine⟨vs,h1,by simpa using h2,fun j x hx=>?_⟩
  rw[List.getElem?_map]at hx
  obtain⟨y,hy,rfl⟩:=Option.map_eq_some_iff.1 hx
  obtain⟨u,u1,u2,u3⟩:=h3 j y hy
  exact⟨u,u1,u2,mf (hc y (List.mem_of_getElem? hy)) u3⟩
 cases t with
 |one x=>exact mf h hr
 |agg cs=>exact agg cs v h hr
 |fn f cs=>obtain⟨u,h1,h2⟩:=hr;exact⟨u,agg cs u h h1,h2⟩
 |tup ts=>
  simp only[aR,List.all_eq_true]at h
  obtain⟨vs,h1,h2,h3⟩:=hr
  refine⟨vs,h1,by simpa using h2,fun j b cs hx=>?_⟩
  rw[List.getElem?_map]at hx
  obtain⟨y,hy,hyy⟩:=Option.map_eq_some_iff.1 hx
  obtain⟨b',cs'⟩:=y
  simp at hyy
  obtain⟨rfl,rfl⟩:=hyy
  obtain⟨u,u1,u2⟩:=h3 j b' cs' hy
  have hall:=h (b',cs') (List.mem_of_getElem? hy)
  refine⟨u,u1,?_⟩
  rcases u2 with⟨u2,u3⟩|⟨u2,x,rfl,u4⟩
  ·exact .inl ⟨u2,agg _ _ (by simpa only[List.all_eq_true] using hall) u3⟩
  ·exact .inr ⟨u2,_,rfl,mf (hall x (by simp)) u4⟩
theorem sP {it:dN P} {d:Nat} {s:AS} {a:Act} (h1:a.defers=[]) (hsz:a.tmps.size=s.tmps.length) (hinv:gU w0 O X s.H ρ w) (htm:cn X ρ s a w) {t:TV} {F:List OObj} (ht:aS d it.res.r=t) (hF:it.res.fam.map (db d)=F) (hd:F≠[]->s.H d=[])
  {v:Value} {w1:World} {ρc:eZ} (hi:gU w (fun _=>False) (if it.res.plain then(fun _=>False)else Xo X ρ s.H) (famH 0 it.res.fam) ρc w1) (hr:it.res.r.rel ρc (famH 0 it.res.fam) (Xo (if it.res.plain then(fun _=>False)else Xo X ρ s.H) ρc (famH 0 it.res.fam)) w1 v):
  fM w0 O X (iX s d t F) (a.put (some d) v) w1:=by
 have hext:Ext w w1:=⟨hi.keep.os,hi.keep.tape,hi.keep.output,hi.keep.size,fun k hk=>hi.keep.block k hk id⟩
 by_cases hpl:it.res.plain=true
 ·unfold CallRes.plain at hpl
  simp only[Bool.and_eq_true,List.isEmpty_iff]at hpl
  have hF0:F=[]:=by rw[<- hF,hpl.1];rfl
  subst hF0
  show fM w0 O X (s.put (some d) t) _ _
  refine fG h1 hsz (hinv.grow hext) (htm.grow hext) ?_
  rw[<- ht]
  exact Ct hpl.2 hr
 have hpl':it.res.plain=false:=by simpa using hpl
 simp only[hpl',Bool.false_eq_true,if_false]at hi hr
 generalize hYY:Xo X ρ s.H=Y at hi hr
 have hYs: ∀b,Xo X ρ s.H b->Y b:=fun b hb=>by rw[<- hYY];exact hb
 by_cases hfam:it.res.fam=[]
 ·rw[hfam]at hi hr
  have hF0:F=[]:=by rw[<- hF,hfam];rfl
  subst hF0
  show fM w0 O X (s.put (some d) t) _ _
  refine fG h1 hsz (hinv.grow hext) (htm.grow hext) ?_
  rw[<- ht]
  refine jZ hr (fun x u hx=>nz (fun r o' ho'=>by simp at ho') (fun b _ hb=> .inl (hYs b hb)) hx)
 ·have hF0:F≠[]:=by rw[<- hF];simpa using hfam
  have hres:iX s d t F=AS.put ⟨s.tmps,au s.H d F⟩ (some d) t:=by
   unfold iX
   rw[if_neg (by simpa using hF0)]
  rw[hres]
  have hold: ∀r b n,ρc 0 r=some (b,n)->(∃o',it.res.fam[r]?=some o')->w.heap.size<=b:=fun r b n hr0 ⟨o',ho'⟩=>by
   have:=(hi.old 0 r o' b n (by simpa[famH] using ho') hr0).1
   rcases this with h|h
   ·exact h
   ·exact h.elim
  have hff: ∀r b n,(if r<it.res.fam.length then ρc 0 r else none)=some (b,n)->(∃o',it.res.fam[r]?=some o')/\ρc 0 r=some (b,n):=fun r b n h=>by
   split at h
   ·rename_i hlt;exact⟨⟨_,List.getElem?_eq_getElem hlt⟩,h⟩
   ·cases h
  have hnew: ∀(r b n:Nat),(if r<it.res.fam.length then ρc 0 r else none)=some (b,n)->w.heap.size<=b:=fun r b n h=>hold r b n (hff r b n h).2 (hff r b n h).1
  have hmap: ∀x u,AV.rel ρc (famH 0 it.res.fam) (Xo Y ρc (famH 0 it.res.fam)) w1 x u->AV.rel (newρ ρ d fun r=>if r<it.res.fam.length then ρc 0 r else none) (au s.H d F) (Xo X (newρ ρ d fun r=>if r<it.res.fam.length then ρc 0 r else none) (au s.H d F)) w1 (aP d x) u:=fun x u hx=>by
   refine nz (fun r o' ho'=>?_) (fun b _ hb=>?_) hx
   ·rw[bV,newρ_eq,if_pos (List.getElem?_eq_some_iff.1 ho').1,<- hF,List.getElem?_map,ho']
    exact⟨rfl,rfl⟩
   ·rcases hb with hb|⟨x',y',o',n,g1,g2⟩
    ·exact .inl (hYs b (.inl hb))
    ·by_cases hxd:x'=d
     ·subst hxd
      rw[newρ_eq]at g2
      obtain⟨⟨o2,ho2⟩,g3⟩:=hff y' b n g2
      exact .inr ⟨0,y',o2,n,by simpa[famH] using ho2,g3⟩
     ·rw[bv hxd]at g1
      rw[newρ_ne hxd]at g2
      exact .inl (hYs b (.inr ⟨x',y',o',n,g1,g2⟩))
  refine ro h1 hsz hinv htm hext (hd hF0) (fun r=>if r<it.res.fam.length then ρc 0 r else none) hnew (fun r r' b n n' g g'=>?_) (fun r o' ho'=>?_) (fun r o' ho'=>?_) ?_
  ·obtain⟨⟨o1,ho1⟩,g1⟩:=hff r b n g
   obtain⟨⟨o2,ho2⟩,g2⟩:=hff r' b n' g'
   exact(hi.inj 0 r 0 r' o1 o2 b n n' (by simpa[famH] using ho1) (by simpa[famH] using ho2) g1 g2).2
  ·rw[<- hF,List.getElem?_map]at ho'
   obtain⟨o2,ho2,rfl⟩:=Option.map_eq_some_iff.1 ho'
   intro e he x hx
   simp only[db,List.mem_map]at he
   obtain⟨e',he',rfl⟩:=he
   simp only[List.mem_map]at hx
   obtain⟨x',hx',rfl⟩:=hx
   cases x'<;>first|rfl|trivial
  ·rw[<- hF,List.getElem?_map]at ho'
   obtain⟨o2,ho2,rfl⟩:=Option.map_eq_some_iff.1 ho'
   have hobj:=hi.objs 0 r o2 (by simpa[famH] using ho2)
   obtain⟨z1,z2,z3⟩:=hobj
   refine⟨fun e he=>?_,z2,?_⟩
   ·simp only[db,List.mem_map]at he
    obtain⟨e',he',rfl⟩:=he
    rw[List.length_map];exact z1 e' he'
   ·rw[newρ_eq,if_pos (List.getElem?_eq_some_iff.1 ho2).1]
    cases hr0:ρc 0 r with
    |none=>rw[hr0]at z3;simp[db,z3]
    |some bc=>
     obtain⟨b,n⟩:=bc
     rw[hr0]at z3
     obtain⟨cells,p1,p2,p3,p4,p5⟩:=z3
     refine⟨cells,p1,p2,by simpa[db] using p3,p4,fun i e j z he hz=>?_⟩
     simp only[db,List.getElem?_map]at he
     obtain⟨e',he',rfl⟩:=Option.map_eq_some_iff.1 he
     rw[List.getElem?_map]at hz
     obtain⟨z',hz',rfl⟩:=Option.map_eq_some_iff.1 hz
     obtain⟨u,u1,u2,u3⟩:=p5 i e' j z' he' hz'
     exact⟨u,u1,u2,hmap z' u u3⟩
  ·rw[<- ht]
   exact jZ hr hmap
theorem Cq {items:List (dN P)} {ow:List Nat} {i d:Nat} {s:AS} {a:Act} (hI:fc P items) (h1:a.defers=[]) (hsz:a.tmps.size=s.tmps.length) (hinv:gU w0 O X s.H ρ w) (htm:cn X ρ s a w) {o:Oper} {c:Call} {f:FuncId} (ho:o.op= .call c) (hcal:c.callee= .value (.func f))
  {t:TV} {F:List OObj} (h:aI P items ow i d s.ev s.H o.op=some (t,F)) (hd:F≠[]->s.H d=[]) (hdst:o.dst=some d) {K:Act->World->Prop} {Q:Exit->Act->World->Prop}
  (hK: ∀v w',fM w0 O X (iX s d t F) (a.put o.dst v) w'->K (a.put o.dst v) w'):o.wp P a w K Q:=by
 rw[ho]at h
 simp only[aI,hcal]at h
 split at h
 ·rename_i it ts hit hts
  split at h
  ·rename_i hc
   obtain⟨c1,c2,c3,_⟩:=hc
   injection h with h
   injection h with ht hF
   subst c1
   obtain⟨e1,e2⟩:=d5 hts
   obtain⟨hcallable,hcon⟩:=hI it (List.mem_of_find?_eq_some hit)
   have hrun:=o5 (w:=w) ho hcal (e:=a.eval) rfl hcallable
   unfold Oper.wp
   rw[hrun]
   simp only[Oper.upon]
   simp only[List.all_eq_true]at c3
   have hZ: ∀b,(if it.res.plain then(fun _=>False)else Xo X ρ s.H:Nat->Prop) b->Xo X ρ s.H b:=fun b hb=>by
    split at hb
    ·exact hb.elim
    ·exact hb
   have hXlt: ∀b,Xo X ρ s.H b->b<w.heap.size:=fun b hb=>by
    rcases hb with hb|⟨x,y,o',n,g1,g2⟩
    ·exact hinv.bar b hb
    ·exact cK (hinv.objs x y o' g1) g2
   refine(hcon (if it.res.plain then(fun _=>False)else Xo X ρ s.H) w (c.args.map a.eval) (fun b hb=>hXlt b (hZ b hb)) ?_ ?_).mono ?_
   ·rw[<- c2];simp[e1]
   ·intro j u hu
    rw[<- c2,List.getElem?_map]at hu
    obtain⟨t0,ht0,rfl⟩:=Option.map_eq_some_iff.1 hu
    obtain⟨x,hx,hxt⟩:=e2 j t0 ht0
    refine⟨a.eval x,by rw[Array.getElem?_map];simp at hx;rw[hx];rfl,?_⟩
    exact pd hinv.objs hZ (fun hfr b hb=>by rw[hfr]at hb;exact hb) (dD htm x t0 hxt) (c3 t0 (List.mem_of_getElem? ht0))
   ·rintro e w1 ⟨v,rfl,ρc,hi,hr⟩
    show K (a.put o.dst v) w1
    refine hK v w1 ?_
    rw[hdst]
    exact sP h1 hsz hinv htm ht hF hd hi hr
  ·cases h
 ·cases h
theorem Ae {items:List (dN P)} {ow:List Nat} {i d:Nat} {s:AS} {a:Act} (hI:fc P items) (h1:a.defers=[]) (hsz:a.tmps.size=s.tmps.length) (hinv:gU w0 O X s.H ρ w) (htm:cn X ρ s a w) {o:Oper} {c:Call} {k:Tmp} (ho:o.op= .call c) (hcal:c.callee= .value (.tmp k))
  {t:TV} {F:List OObj} (h:aI P items ow i d s.ev s.H o.op=some (t,F)) (hd:F≠[]->s.H d=[]) (hdst:o.dst=some d) {K:Act->World->Prop} {Q:Exit->Act->World->Prop}
  (hK: ∀v w',fM w0 O X (iX s d t F) (a.put o.dst v) w'->K (a.put o.dst v) w'):o.wp P a w K Q:=by
 rw[ho]at h
 simp only[aI,hcal]at h
 split at h
 ·rename_i f extra it ts hcl hit hts
  split at h
  ·rename_i hc
   obtain⟨c1,c2,c3,_⟩:=hc
   injection h with h
   injection h with ht hF
   subst c1
   obtain⟨e1,e2⟩:=d5 hts
   obtain⟨us,k1,k2,k3⟩:=yV (v:=a.eval (.tmp k)) (fun t0 ht0=>dD htm (.tmp k) t0 ht0) hcl
   obtain⟨hcallable,hcon⟩:=hI it (List.mem_of_find?_eq_some hit)
   have hrun:=yC (w:=w) ho hcal (e:=a.eval) k1 hcallable
   unfold Oper.wp
   rw[hrun]
   simp only[Oper.upon]
   simp only[List.all_eq_true]at c3
   have hZ: ∀b,(if it.res.plain then(fun _=>False)else Xo X ρ s.H:Nat->Prop) b->Xo X ρ s.H b:=fun b hb=>by
    split at hb
    ·exact hb.elim
    ·exact hb
   have hXlt: ∀b,Xo X ρ s.H b->b<w.heap.size:=fun b hb=>by
    rcases hb with hb|⟨x,y,o',n,g1,g2⟩
    ·exact hinv.bar b hb
    ·exact cK (hinv.objs x y o' g1) g2
   refine(hcon (if it.res.plain then(fun _=>False)else Xo X ρ s.H) w (c.args.map a.eval++us) (fun b hb=>hXlt b (hZ b hb)) ?_ ?_).mono ?_
   ·rw[<- c2];simp[e1,k2]
   ·intro j u hu
    rw[<- c2,List.getElem?_map]at hu
    obtain⟨t0,ht0,rfl⟩:=Option.map_eq_some_iff.1 hu
    have hmem:=c3 t0 (List.mem_of_getElem? ht0)
    by_cases hj:j<ts.length
    ·rw[List.getElem?_append_left hj]at ht0
     obtain⟨x,hx,hxt⟩:=e2 j t0 ht0
     refine⟨a.eval x,by rw[Array.getElem?_append_left (by simp at e1⊢;omega),Array.getElem?_map];simp at hx;rw[hx];rfl,?_⟩
     exact pd hinv.objs hZ (fun hfr b hb=>by rw[hfr]at hb;exact hb) (dD htm x t0 hxt) hmem
    ·rw[List.getElem?_append_right (by omega)]at ht0
     obtain⟨v,v1,v2⟩:=k3 _ t0 ht0
     refine⟨v,by rw[Array.getElem?_append_right (by simp at e1⊢;omega)];simp at e1⊢;rw[<- e1];exact v1,?_⟩
     exact pd hinv.objs hZ (fun hfr b hb=>by rw[hfr]at hb;exact hb) v2 hmem
   ·rintro e w1 ⟨v,rfl,ρc,hi,hr⟩
    show K (a.put o.dst v) w1
    refine hK v w1 ?_
    rw[hdst]
    exact sP h1 hsz hinv htm ht hF hd hi hr
  ·cases h
 ·cases h
theorem yQ {items:List (dN P)} {ow:List Nat} {i d:Nat} {s:AS} {a:Act} (h1:a.defers=[]) (hsz:a.tmps.size=s.tmps.length) (hinv:gU w0 O X s.H ρ w) (htm:cn X ρ s a w) {o:Oper} {c:Call} (ho:o.op= .call c) (hcal:c.callee= .builtin .append)
  {t:TV} {F:List OObj} (h:aI P items ow i d s.ev s.H o.op=some (t,F)) (hd:F≠[]->s.H d=[]) (hdst:o.dst=some d) {K:Act->World->Prop} {Q:Exit->Act->World->Prop}
  (hK: ∀v w',fM w0 O X (iX s d t F) (a.put o.dst v) w'->K (a.put o.dst v) w'):o.wp P a w K Q:=by
 rw[ho]at h
 simp only[aI,hcal]at h
 obtain⟨callee,⟨args⟩,⟨argTypes⟩⟩:=c
 simp only at hcal
 subst hcal
 split at h
 ·rename_i sx x ty ty' hargs hty
  simp only at hargs hty
  subst hargs hty
  split at h
  ·rename_i news e hs hx hsl
   split at h
   ·rename_i z sz by_ hz hszo hby
    split at h
    ·rename_i hc
     obtain⟨rfl,c7,c8,c9,hpos,c10⟩:=hc
     injection h with h
     injection h with ht hF
     subst ht hF
     obtain⟨tx,htx,hnews⟩:=Option.bind_eq_some_iff.1 hx
     obtain⟨us,hsrc⟩:=kU hinv.objs hnews (dD htm x tx htx) c10 hpos
     have hsv:=(cW (dD htm sx _ hs)).1
     obtain⟨⟨A,cc,hv,hrd⟩,hul,hone,hpu,hcell⟩:=id hsrc
     obtain⟨ti,zv,hti,hzv,hzc⟩:=gT hz
     obtain⟨ti',hti',hsz'⟩:=jF hszo
     rw[hti]at hti';injection hti' with hti';subst hti'
     obtain⟨ti',hti',hby'⟩:=oZ hby
     rw[hti]at hti';injection hti' with hti';subst hti'
     obtain⟨v',w1,hrun,hown',hg,hblk⟩:=iy (P:=P) w 0 ty o.type e zv sz by_ (dH hsl) (by rw[hti];simp[hzv,hsz',hby']) (by rw[<- c9,<- hzc];simp) hpos (.slice none 0 0) 0 [] (World.ownsRow_nil _ _ _ _) A news.length cc us hrd hul hone (by unfold maxLen;omega) (by rw[Nat.zero_add];exact c7) (Nat.zero_le _)
     have hrun':(execOp a.eval o).run P w= .ok (.value v') w1:=by
      unfold execOp
      simp only[ho,resolve,invoke,builtin,Sem.run_bind,Sem.run_pure,Result.andThen_ok,List.map_toArray,List.map_cons,List.map_nil,hv,hsv,hrun]
     unfold Oper.wp
     rw[hrun']
     rw[Nat.zero_add,List.nil_append]at hown'
     refine hK v' w1 ?_
     rw[hdst]
     exact uE h1 hsz hinv htm (hd (by simp)) hpos c10 hsrc hown' hg hblk
    ·cases h
   ·cases h
  ·cases h
 ·cases h
theorem wE {items:List (dN P)} {ow:List Nat} {i d:Nat} {s:AS} {a:Act} (hI:fc P items) (h1:a.defers=[]) (hsz:a.tmps.size=s.tmps.length) (hinv:gU w0 O X s.H ρ w) (htm:cn X ρ s a w) {o:Oper}
  {t:TV} {F:List OObj} (h:aI P items ow i d s.ev s.H o.op=some (t,F)) (hd:F≠[]->s.H d=[]) (hdst:o.dst=some d) {K:Act->World->Prop} {Q:Exit->Act->World->Prop}
  (hK: ∀v w',fM w0 O X (iX s d t F) (a.put o.dst v) w'->K (a.put o.dst v) w'):o.wp P a w K Q:=by
 have fin:(∃v w',(execOp a.eval o).run P w= .ok (.value v) w'/\fM w0 O X (iX s d t F) (a.put (some d) v) w')->o.wp P a w K Q:=fun⟨v,w1,g1,g2⟩=>by
  unfold Oper.wp
  rw[g1]
  exact hK v w1 (by rw[hdst];exact g2)
 have ne: ∀{e:OObj} {l:List OObj},e::l≠[]:=fun{e l}=>by simp
 cases ho:o.op
 case box e x=>
  refine fin (Be h1 hsz hinv htm ho h (hd ?_))
  rw[ho]at h
  simp only[aI]at h
  split at h
  ·split at h
   ·injection h with h;injection h with h h';rw[<- h'];simp
   ·cases h
  ·cases h
 case alloc e=>
  refine fin (vr h1 hsz hinv htm ho h (hd ?_))
  rw[ho]at h
  simp only[aI]at h
  split at h
  ·split at h
   ·injection h with h;injection h with h h';rw[<- h'];simp
   ·cases h
  ·cases h
 case makeSlice ty l c=>
  refine fin (xH h1 hsz hinv htm ho h (hd ?_))
  rw[ho]at h
  simp only[aI]at h
  split at h
  ·split at h
   ·split at h
    ·injection h with h;injection h with h h';rw[<- h'];simp
    ·cases h
   ·cases h
  ·cases h
 case buildSlice ty n parts=>exact fin (Bw h1 hsz hinv htm ho h hd)
 case call c=>
  cases hcal:c.callee with
  |value x=>
   cases x with
   |func f=>exact Cq hI h1 hsz hinv htm ho hcal h hd hdst hK
   |tmp k=>exact Ae hI h1 hsz hinv htm ho hcal h hd hdst hK
   |const k=>rw[ho]at h;simp only[aI,hcal]at h;cases h
   |global k=>rw[ho]at h;simp only[aI,hcal]at h;cases h
  |invoke r m=>rw[ho]at h;simp only[aI,hcal]at h;cases h
  |builtin b=>
   cases b
   case append=>exact yQ h1 hsz hinv htm ho hcal h hd hdst hK
   all_goals (rw[ho]at h;simp only[aI,hcal]at h;cases h)
 all_goals (rw[ho]at h;simp only[aI]at h;cases h)
theorem tW {items:List (dN P)} {ow:List Nat} {i:Nat} {s s':AS} {a:Act} (hI:fc P items) (hrel:fM w0 O X s a w) {o:Oper} (h:dZ P items ow i o s=some s') {K:Act->World->Prop} {Q:Exit->Act->World->Prop}
  (hK: ∀v w',fM w0 O X s' (a.put o.dst v) w'->K (a.put o.dst v) w'):o.wp P a w K Q:=by
 obtain⟨h1,hsz,ρ,hinv,htm⟩:=hrel
 have htm:cn X ρ s a w:=htm
 unfold dZ at h
 split at h
 ·obtain⟨t,ht,rfl⟩:=Option.map_eq_some_iff.1 h
  obtain⟨v,g1,g2⟩:=vQ (dD htm) ht
  unfold Oper.wp
  rw[g1]
  exact hK v w (fG h1 hsz hinv htm g2)
 ·split at h
  ·obtain⟨t,ht,rfl⟩:=Option.map_eq_some_iff.1 h
   obtain⟨v,g1,g2⟩:=vC (dD htm) hinv.objs ht
   unfold Oper.wp
   rw[g1]
   exact hK v w (fG h1 hsz hinv htm g2)
  ·split at h
   ·rename_i q hq
    injection h with h
    subst h
    exact vf h1 hsz hinv htm hq hK
   ·split at h
    ·cases h
    ·rename_i d hd
     split at h
     ·rename_i t ht
      injection h with h
      subst h
      refine wE hI h1 hsz hinv htm ht (fun hh=>absurd rfl hh) hd ?_
      rw[hd]at hK⊢
      exact hK
     ·rename_i t F hF ht
      split at h
      ·rename_i hH
       injection h with h
       subst h
       refine wE hI h1 hsz hinv htm ht (fun _=>hH) hd ?_
       have hres:iX s d t F=AS.put ⟨s.tmps,au s.H d F⟩ (some d) t:=by
        unfold iX
        rw[if_neg (by intro h;exact hF (List.isEmpty_iff.1 h))]
       rw[hres,hd]
       rw[hd]at hK
       exact hK
      ·cases h
     ·cases h
theorem gO {items:List (dN P)} {ow:List Nat} {ops:Array Oper} {i:Nat} {s s':AS} {a:Act} (hI:fc P items) (hrel:fM w0 O X s a w) {o:Oper} (h:cz P items ow ops i o s=some s') {K:Act->World->Prop} {Q:Exit->Act->World->Prop}
  (hK: ∀v w',fM w0 O X s' (a.put o.dst v) w'->K (a.put o.dst v) w'):
  if Region.wanted o (yielded ops a.tmps)then o.wp P a w K Q else K (a.put o.dst undef) w:=by
 unfold cz at h
 split at h
 ·rename_i hg
  rw[if_pos (by simp[Region.wanted,hg])]
  exact tW hI hrel h hK
 ·rename_i g want hg
  split at h
  ·cases h
  ·rename_i d hd
   have hrel':=hrel
   obtain⟨h1,hsz,ρ,hinv,htm⟩:=hrel
   split at h
   ·rename_i b hb
    obtain⟨v,hv,hr⟩:=htm d _ hb
    have hvb:=(cW hr).1
    have hy:yielded ops a.tmps g=some b:=by
     unfold yielded
     rw[hd]
     simp only[Option.bind_some,hv,hvb]
    split at h
    ·rename_i hbw
     rw[if_pos (by simp[Region.wanted,hg,hy,hbw])]
     exact tW hI hrel' h hK
    ·rename_i hbw
     rw[if_neg (by simp[Region.wanted,hg,hy,hbw])]
     injection h with h
     subst h
     exact hK undef w (fG h1 hsz hinv htm gy)
   ·rename_i hb
    obtain⟨v,hv,vs,hr,hr2,_⟩:=htm d _ hb
    have hy:yielded ops a.tmps g=none:=by
     unfold yielded
     rw[hd]
     simp only[Option.bind_some,hv,hr]
    rw[if_neg (by simp[Region.wanted,hg,hy])]
    injection h with h
    subst h
    exact hK undef w (fG h1 hsz hinv htm gy)
   ·cases h
end
end
section
def bX (P:Program) (c:Code) (Q:Exit->AS->Prop) (s:AS):Prop:=
 ∀(w0:World) (O X:Nat->Prop) (a:Act) (w:World),fM w0 O X s a w->c.wp P (fun e a' w'=> ∃s',Q e s'/\fM w0 O X s' a' w') a w
def du (s s':AS):Prop:= ∀(w0:World) (O X:Nat->Prop) (a:Act) (w:World),fM w0 O X s a w->fM w0 O X s' a w
def jm (next:AS->Prop) (Q:Exit->AS->Prop):Exit->AS->Prop
 | .normal,s=>next s
 |e,s=>Q e s
def kV (id:Nat) (Q:Exit->AS->Prop):Exit->AS->Prop
 | .exit id',s=>if id'=id then Q .normal s else Q (.exit id') s
 |e,s=>Q e s
section
variable {P:Program} {s s':AS} {Q:Exit->AS->Prop}
theorem du.refl (s:AS):du s s:=fun _ _ _ _ _ h=>h
theorem du.trans {s1 s2 s3:AS} (h:du s1 s2) (k:du s2 s3):du s1 s3:=fun _ _ _ _ _ r=>k _ _ _ _ _ (h _ _ _ _ _ r)
theorem bX.weak {c:Code} (h:du s s') (k:bX P c Q s'):bX P c Q s:=fun _ _ _ _ _ r=>k _ _ _ _ _ (h _ _ _ _ _ r)
theorem bX.mono {c:Code} {Q':Exit->AS->Prop} (h:bX P c Q s) (k: ∀e s',Q e s'->Q' e s'):bX P c Q' s:=fun _ _ _ _ _ r=>
 wp_mono (h _ _ _ _ _ r) fun _ _ _ ⟨s',h1,h2⟩=>⟨s',k _ _ h1,h2⟩
theorem ay (h:Q .normal s):bX P .skip Q s:=fun _ _ _ _ _ r=>wp_skip ⟨s,h,r⟩
theorem bF {id:Nat} (h:Q (.exit id) s):bX P (.exit id) Q s:=fun _ _ _ _ _ r=>wp_exit ⟨s,h,r⟩
theorem aE (h:Q .ret s):bX P .ret Q s:=fun _ _ _ _ _ r=>wp_ret ⟨s,h,r⟩
theorem ae {x y:Code} (h:bX P x (jm (bX P y Q) Q) s):bX P (.seq x y) Q s:=fun _ _ _ _ _ r=>
 wp_seq (wp_mono (h _ _ _ _ _ r) fun e a w ⟨s',h1,h2⟩=>by
  cases e with
  |normal=>exact h1 _ _ _ _ _ h2
  |_=>exact⟨s',h1,h2⟩)
theorem aU {id:Nat} {x:Code} (h:bX P x (kV id Q) s):bX P (.block id x) Q s:=fun _ _ _ _ _ r=>
 wp_block (wp_mono (h _ _ _ _ _ r) fun e a w ⟨s',h1,h2⟩=>by
  cases e with
  |exit id'=>
   simp only[kV]at h1
   simp only[Exit.inBlock]
   split at h1
   ·rename_i hid;rw[if_pos hid];exact⟨s',h1,h2⟩
   ·rename_i hid;rw[if_neg hid];exact⟨s',h1,h2⟩
  |_=>exact⟨s',h1,h2⟩)
theorem af {c:Operand} {x y:Code} {b:Bool} (hc:s.ev c=some (.raw (.bool b))) (ht:b=true->bX P x Q s) (hf:b=false->bX P y Q s):bX P (.cond c x y) Q s:=fun _ _ _ _ _ r=>by
 obtain⟨h1,hsz,ρ,hinv,htm⟩:=id r
 have hb:=(cW (dD htm c _ hc)).1
 exact wp_cond_split hb (fun h=>ht h _ _ _ _ _ r) (fun h=>hf h _ _ _ _ _ r)
theorem ck {p:Nat->Prop} (h: ∃n,p n): ∃n,p n/\ ∀m,p m->n<=m:=by
 obtain⟨n,hn⟩:=h
 induction n using Nat.strongRecOn with
 |_ n ih=>
  by_cases hm: ∃m,m<n/\p m
  ·obtain⟨m,h1,h2⟩:=hm;exact ih m h1 h2
  ·exact⟨n,hn,fun m hp=>Nat.le_of_not_lt fun hlt=>hm ⟨m,hlt,hp⟩⟩
theorem tD {G:Type} (St:G->AS) (μ:G->Nat) (g0:G) {c:Code} (h0:du s (St g0))
  (round: ∀g,bX P c (jm (fun s'=> ∃g',μ g'<μ g/\du s' (St g')) Q) (St g)):bX P (.loop c) Q s:=fun w0 O X a w r=>by
 classical
 let p:Act->World->Nat->Prop:=fun a w n=> ∃g,μ g=n/\fM w0 O X (St g) a w
 let m:Act->World->Nat:=fun a w=>if h: ∃n,p a w n then Classical.choose (ck h)else 0
 refine wp_loop (fun a w=> ∃n,p a w n) m ⟨_,g0,rfl,h0 _ _ _ _ _ r⟩ ?_
 intro a w hI
 have hm:m a w=Classical.choose (ck hI):=dif_pos hI
 obtain⟨hp,hleast⟩:=Classical.choose_spec (ck hI)
 rw[<- hm]at hp
 obtain⟨g,hg,hr⟩:=hp
 refine wp_mono (round g _ _ _ _ _ hr) fun e a' w' ⟨s',h1,h2⟩=>?_
 cases e with
 |normal=>
  obtain⟨g',hlt,hw⟩:=h1
  have hr':=hw _ _ _ _ _ h2
  have hI': ∃n,p a' w' n:=⟨_,g',rfl,hr'⟩
  refine⟨hI',?_⟩
  have hm':m a' w'=Classical.choose (ck hI'):=dif_pos hI'
  obtain⟨_,hl'⟩:=Classical.choose_spec (ck hI')
  have:=hl' (μ g') ⟨g',rfl,hr'⟩
  rw[hm']
  omega
 |_=>exact⟨s',h1,h2⟩
theorem jb {items:List (dN P)} (hI:fc P items) {ow:List Nat} {ops:Array Oper} {w0:World} {O X:Nat->Prop} {Q:Exit->Act->World->Prop}: ∀(l:List Oper) (k:Nat) (s s':AS) (a:Act) (w:World),(∀(j:Nat) o,l[j]?=some o->ops[k+j]?=some o)->
  iz P items ow ops (l.zipIdx k) s=some s'->fM w0 O X s a w->(∀a' w',fM w0 O X s' a' w'->Q .normal a' w')->wpOps P ops Q (List.range' k l.length) a w
 |[],k,s,s',a,w,_,h,r,hQ=>by
  simp only[List.zipIdx_nil,iz]at h
  injection h with h
  subst h
  exact hQ a w r
 |o::l,k,s,s',a,w,hl,h,r,hQ=>by
  simp only[List.zipIdx_cons,iz]at h
  split at h
  ·rename_i s1 hs1
   simp only[List.length_cons,List.range'_succ,wpOps]
   have ho:ops[k]?=some o:=by have:=hl 0 o rfl;simpa using this
   rw[ho]
   simp only
   have:=gO (Q:=Q) hI r hs1 (K:=wpOps P ops Q (List.range' (k+1) l.length)) (fun v w' hr=>jb hI l (k+1) s1 s' _ _ (fun j o hj=>by have:=hl (j+1) o (by simpa using hj);rwa[show k+(j+1)=k+1+j by omega]at this) h hr hQ)
   split at this
   ·rename_i hw;rw[if_pos hw];exact .inl this
   ·rename_i hw;rw[if_neg hw];exact this
  ·cases h
theorem uz (items:List (dN P)) (hI:fc P items) (ow:List Nat) {id:Nat} {ops:Array Oper} (h:iz P items ow ops ops.toList.zipIdx s=some s') (hQ:Q .normal s'):bX P (.region id ops false) Q s:=fun w0 O X a w r=>by
 refine wp_region ?_
 rw[List.range_eq_range']
 have:=jb hI (Q:=fun e a' w'=> ∃s',Q e s'/\fM w0 O X s' a' w') ops.toList 0 s s' a w (fun j o hj=>by simpa using hj) h r (fun a' w' hr=>⟨s',hQ,hr⟩)
 simpa using this
end
/-! ### The end of a function -/
def aN (P:Program) (s:AS):ResultVar->Option TV
 | .tmp t=>s.tmps[t]?
 | .cell a t=>match s.tmps[a]? with
  |some (.one (.ptr fa r i j))=>match(s.H fa)[r]? with
   |some o=>match o.elems[i]? with
    |some e=>ax P t (e.drop j)
    |none=>none
   |none=>none
  |_=>none
def b7:TV->Option (Bool×List AV)
 | .one x=>some (false,[x])
 | .agg cs=>some (true,cs)
 | .tup _=>none
 | .fn _ _=>none
def dc (P:Program) (s:AS):List ResultVar->Option (List (Bool×List AV))
 |[]=>some []
 |r::l=>match(aN P s r).bind b7,dc P s l with
  |some t,some ts=>some (t::ts)
  |_,_=>none
def bK (P:Program) (s:AS):List ResultVar->Option TV
 |[r]=>aN P s r
 |rs=>(dc P s rs).map TV.tup
section
variable {P:Program} {w0 w:World} {O X:Nat->Prop} {ρ:eZ} {s:AS}
def nL (tmps:Array Value):ResultVar->Sem Value
 | .tmp t=>pure (tmps.getD t undef)
 | .cell ad t=>do loadVar t (<- asAddr (tmps.getD ad undef))
theorem ux (fn:Func) (tmps:Array Value):results fn tmps=(do let vs<- fn.results.mapM (nL tmps);pure (if h:vs.size=1 then vs[0]else .tuple vs)):=by
 have h: ∀(f g:ResultVar->Sem Value),f=g->(do let vs<- fn.results.mapM f;pure (if h:vs.size=1 then vs[0]else .tuple vs):Sem Value)=(do let vs<- fn.results.mapM g;pure (if h:vs.size=1 then vs[0]else .tuple vs)):=fun f g h=>by rw[h]
 unfold results
 apply h
 funext x
 cases x<;>rfl
theorem lW {a:Act} (hinv:gU w0 O X s.H ρ w) (htm:cn X ρ s a w) {rv:ResultVar} {t:TV} (h:aN P s rv=some t):
  ∃v,(nL a.tmps rv).run P w= .ok v w/\t.rel ρ s.H (Xo X ρ s.H) w v:=by
 cases rv with
 |tmp k=>
  simp only[aN]at h
  obtain⟨v,h1,h2⟩:=htm k t h
  exact⟨v,by simp[nL,Array.getD_eq_getD_getElem?,h1],h2⟩
 |cell ad ty=>
  simp only[aN]at h
  split at h
  ·rename_i fa r i j hk
   obtain⟨v,h1,o,b,c,g1,g2,g3,g4⟩:=htm ad _ hk
   rw[g1]at h
   simp only at h
   split at h
   ·rename_i e he
    obtain⟨u,u1,u2⟩:=kA h (jh (p9 (hinv.objs fa r o g1) g2 he) j)
    refine⟨u,?_,u2⟩
    simp only[nL,Array.getD_eq_getD_getElem?,h1,Option.getD_some,g4,asAddr,Sem.run_bind,Sem.run_pure,Result.andThen_ok,u1]
   ·cases h
  ·cases h
theorem oK {a:Act} (hinv:gU w0 O X s.H ρ w) (htm:cn X ρ s a w): ∀{rs:List ResultVar} {ts:List (Bool×List AV)},dc P s rs=some ts->
  ∃vs:List Value,(rs.mapM (nL a.tmps)).run P w= .ok vs w/\vs.length=ts.length/\
   ∀(j:Nat) b cs,ts[j]?=some (b,cs)-> ∃u:Value,vs[j]?=some u/\((b=true/\cE ρ s.H (Xo X ρ s.H) w cs u)\/(b=false/\ ∃x,cs=[x]/\x.rel ρ s.H (Xo X ρ s.H) w u))
 |[],ts,h=>by
  simp only[dc]at h
  injection h with h
  subst h
  exact⟨[],by simp,rfl,fun j b cs h=>by simp at h⟩
 |r::l,ts,h=>by
  simp only[dc]at h
  split at h
  ·rename_i t ts' h1 h2
   injection h with h
   subst h
   obtain⟨tv,htv,hp⟩:=Option.bind_eq_some_iff.1 h1
   obtain⟨v,v1,v2⟩:=lW hinv htm htv
   obtain⟨vs,g1,g2,g3⟩:=oK hinv htm h2
   refine⟨v::vs,?_,by simp[g2],fun j b cs hj=>?_⟩
   ·rw[List.mapM_cons,Sem.run_bind,v1,Result.andThen_ok,Sem.run_bind,g1];rfl
   ·cases j with
    |succ j=>simp at hj;obtain⟨u,u1,u2⟩:=g3 j b cs hj;exact⟨u,by simpa using u1,u2⟩
    |zero=>
     simp at hj
     subst hj
     refine⟨v,rfl,?_⟩
     cases tv with
     |one x=>simp[b7]at hp;obtain⟨rfl,rfl⟩:=hp;exact .inr ⟨rfl,x,rfl,v2⟩
     |agg cs=>simp[b7]at hp;obtain⟨rfl,rfl⟩:=hp;exact .inl ⟨rfl,v2⟩
     |tup ts=>cases hp
     |fn f cs=>cases hp
  ·cases h
theorem kN {a:Act} (hinv:gU w0 O X s.H ρ w) (htm:cn X ρ s a w) {fn:Func} {t:TV} (h:bK P s fn.results.toList=some t): ∃v,(results fn a.tmps).run P w= .ok v w/\t.rel ρ s.H (Xo X ρ s.H) w v:=by
 rw[ux,Array.mapM_eq_mapM_toList]
 generalize hrs:fn.results.toList=rs at h
 unfold bK at h
 split at h
 ·rename_i r
  obtain⟨v,v1,v2⟩:=lW hinv htm h
  refine⟨v,?_,v2⟩
  simp only[List.mapM_cons,List.mapM_nil,map_eq_pure_bind,Sem.run_bind,v1,Result.andThen_ok,Sem.run_pure]
  simp
 ·rename_i hne
  cases hl:dc P s rs with
  |none=>rw[hl]at h;cases h
  |some ts=>
   rw[hl]at h
   simp at h
   subst h
   obtain⟨vs,g1,g2,g3⟩:=oK hinv htm hl
   refine⟨.tuple vs.toArray,?_,vs.toArray,rfl,by simpa using g2,fun j b cs hj=>by simpa using g3 j b cs hj⟩
   have hlen: ∀{rs:List ResultVar} {ts:List (Bool×List AV)},dc P s rs=some ts->ts.length=rs.length:=by
    intro rs
    induction rs with
    |nil=>intro ts h;simp only[dc]at h;injection h with h;subst h;rfl
    |cons r l ih=>
     intro ts h
     simp only[dc]at h
     split at h
     ·rename_i t ts' h1 h2
      injection h with h
      subst h
      simp[ih h2]
     ·cases h
   have hvl:vs.length≠1:=fun h1=>by
    have:=hlen hl
    have hrl:rs.length=1:=by omega
    obtain⟨r,hr⟩:=List.length_eq_one_iff.1 hrl
    exact hne r hr
   simp only[map_eq_pure_bind,Sem.run_bind,g1,Result.andThen_ok,Sem.run_pure]
   rw[dif_neg (by simpa using hvl)]
def mr (a:Nat):TV->Prop
 | .one x=>eB a x
 | .agg cs=> ∀x∈cs,eB a x
 | .fn _ cs=> ∀x∈cs,eB a x
 | .tup ts=> ∀t∈ts,∀x∈t.2,eB a x
def qI (P:Program) (fn:Func) (res:CallRes) (s:AS):Prop:=
 ∃r a0,bK P s fn.results.toList=some r/\mr a0 r/\res.fam=(s.H a0).map (db 0)/\res.r=aS 0 r
theorem aC {f:FuncId} {fn:Func} {c:Code} {args:List TV} {res:CallRes} (hf:P.funcs[f]?=some fn) (hb:fn.body=some c) (hn:callable P f=true)
  (h:bX P c (fun e s=>(e= .normal\/e= .ret)/\ ∃s',du s s'/\qI P fn res s') ⟨args++List.replicate (fn.ntmps-args.length) .undef,fun _=>[]⟩):CallC P f args res:=by
 refine⟨hn,fun X w vs hX hvs hargs=>?_⟩
 refine calls_of_wp hf hb ?_
 have hrel:fM w (fun _=>False) X ⟨args++List.replicate (fn.ntmps-args.length) .undef,fun _=>[]⟩ {tmps:=vs++Array.replicate (fn.ntmps-vs.size) undef,defers:=[]} w:=by
  refine⟨rfl,by simp[hvs],fun _ _=>none,⟨Keep.refl w,fun a r o ho=>by simp at ho,fun a r a' r' o o' b c c' ho=>by simp at ho,fun a r o b c ho=>by simp at ho,hX,fun a r o ho=>by simp at ho⟩,fun t x hx=>?_⟩
  have hXo: ∀b,b<w.heap.size->Xo X (fun _ _=>none) (fun _=>[]) b->X b:=fun b _ h=>by
   rcases h with h|⟨a,r,o,c,h1,h2⟩
   ·exact h
   ·cases h2
  by_cases ht:t<args.length
  ·rw[List.getElem?_append_left ht]at hx
   obtain⟨v,v1,v2⟩:=hargs t x hx
   refine⟨v,by rw[Array.getElem?_append_left (by omega)];exact v1,TV.rel_map v2 (fun y u hy=>?_)⟩
   cases y with
   |p y=>exact cO.weaken hXo hy
   |sl a r off len=>obtain⟨o,h1,_⟩:=hy;simp at h1
   |ptr a r i j=>obtain⟨o,_,_,h1,_⟩:=hy;simp at h1
   |junk=>trivial
  ·rw[List.getElem?_append_right (by omega),List.getElem?_replicate]at hx
   split at hx
   ·rename_i hlt
    injection hx with hx
    subst hx
    refine⟨undef,?_,gy⟩
    rw[Array.getElem?_append_right (by omega),Array.getElem?_replicate,if_pos (by omega)]
   ·cases hx
 refine wp_mono (h _ _ _ _ _ hrel) fun e a' w' ⟨s1,⟨he,s2,hw,r,a0,hres,hself,hfam,hr⟩,hrel1⟩=>?_
 obtain⟨h1,hsz,ρ,hinv,htm⟩:=hw _ _ _ _ _ hrel1
 have htm:cn X ρ s2 a' w':=htm
 obtain⟨v,v1,v2⟩:=kN hinv htm hres
 have hF: ∀(k:Nat) o,(famH 0 res.fam 0)[k]?=some o-> ∃o',(s2.H a0)[k]?=some o'/\o=db 0 o':=fun k o ho=>by
  simp only[famH,if_true,hfam,List.getElem?_map]at ho
  obtain⟨o',g1,g2⟩:=Option.map_eq_some_iff.1 ho
  exact⟨o',g1,g2.symm⟩
 have hz: ∀(x k:Nat) o,(famH 0 res.fam x)[k]?=some o->x=0:=fun x k o ho=>by
  by_cases hx:x=0
  ·exact hx
  ·simp[famH,hx]at ho
 have hXo: ∀b,Xo X (fun _ k=>ρ a0 k) (famH 0 res.fam) b->Xo X ρ s2.H b:=fun b hb=>by
  rcases hb with hb|⟨x,k,o,n,g1,g2⟩
  ·exact .inl hb
  ·have:=hz x k o g1
   subst this
   obtain⟨o',g3,_⟩:=hF k o g1
   exact .inr ⟨a0,k,o',n,g3,g2⟩
 have hmap: ∀x u,eB a0 x->AV.rel ρ s2.H (Xo X ρ s2.H) w' x u->AV.rel (fun _ k=>ρ a0 k) (famH 0 res.fam) (Xo X (fun _ k=>ρ a0 k) (famH 0 res.fam)) w' (aP 0 x) u:=fun x u hs hx=>by
  cases x with
  |p x=>exact cO.weaken (fun b _ hb=>hXo b hb) hx
  |sl x k off len=>
   have hs:x=a0:=hs
   subst hs
   obtain⟨o,g1,g2,g3⟩:=hx
   exact⟨db 0 o,by simp[famH,hfam,g1],by simpa[db] using g2,g3⟩
  |ptr x k i j=>
   have hs:x=a0:=hs
   subst hs
   obtain⟨o,b,c,g1,g2,g3,g4⟩:=hx
   exact⟨db 0 o,b,c,by simp[famH,hfam,g1],g2,by simpa[db] using g3,g4⟩
  |junk=>trivial
 have hfin: ∃ρ':eZ,gU w (fun _=>False) X (famH 0 res.fam) ρ' w'/\res.r.rel ρ' (famH 0 res.fam) (Xo X ρ' (famH 0 res.fam)) w' v:=by
  refine⟨fun _ k=>ρ a0 k,⟨hinv.keep,fun x k o ho=>?_,fun x k x' k' o o' b c c' ho ho' hr1 hr2=>?_,fun x k o b c ho hr1=>?_,hinv.bar,fun x k o ho=>?_⟩,?_⟩
  ·have:=hz x k o ho
   subst this
   obtain⟨o',g1,rfl⟩:=hF k o ho
   obtain⟨z1,z2,z3⟩:=hinv.objs a0 k o' g1
   refine⟨fun e he=>?_,z2,?_⟩
   ·simp only[db,List.mem_map]at he
    obtain⟨e',he',rfl⟩:=he
    rw[List.length_map];exact z1 e' he'
   ·cases hr0:ρ a0 k with
    |none=>rw[hr0]at z3;simp only[hr0];simp[db,z3]
    |some bc=>
     obtain⟨b,n⟩:=bc
     rw[hr0]at z3
     obtain⟨cells,p1,p2,p3,p4,p5⟩:=z3
     simp only[hr0]
     refine⟨cells,p1,p2,by simpa[db] using p3,p4,fun i e j z he hz=>?_⟩
     simp only[db,List.getElem?_map]at he
     obtain⟨e',he',rfl⟩:=Option.map_eq_some_iff.1 he
     rw[List.getElem?_map]at hz
     obtain⟨z',hz',rfl⟩:=Option.map_eq_some_iff.1 hz
     obtain⟨u,u1,u2,u3⟩:=p5 i e' j z' he' hz'
     exact⟨u,u1,u2,hmap z' u (hinv.self a0 k o' g1 e' (List.mem_of_getElem? he') z' (List.mem_of_getElem? hz')) u3⟩
  ·have e1:=hz x k o ho
   have e2:=hz x' k' o' ho'
   subst e1 e2
   obtain⟨o1,g1,_⟩:=hF k o ho
   obtain⟨o2,g2,_⟩:=hF k' o' ho'
   exact⟨rfl,(hinv.inj a0 k a0 k' o1 o2 b c c' g1 g2 hr1 hr2).2⟩
  ·have e1:=hz x k o ho
   subst e1
   obtain⟨o1,g1,_⟩:=hF k o ho
   exact hinv.old a0 k o1 b c g1 hr1
  ·have e1:=hz x k o ho
   subst e1
   obtain⟨o1,g1,rfl⟩:=hF k o ho
   intro e he z hzz
   simp only[db,List.mem_map]at he
   obtain⟨e',he',rfl⟩:=he
   simp only[List.mem_map]at hzz
   obtain⟨z',hz',rfl⟩:=hzz
   cases z'<;>first|rfl|trivial
  ·rw[hr]
   have agg: ∀cs u,(∀x∈cs,eB a0 x)->cE ρ s2.H (Xo X ρ s2.H) w' cs u->cE (fun _ k=>ρ a0 k) (famH 0 res.fam) (Xo X (fun _ k=>ρ a0 k) (famH 0 res.fam)) w' (cs.map (aP 0)) u:=fun cs u hs h=>by
    obtain⟨us,h1,h2,h3⟩:=h
    refine⟨us,h1,by simpa using h2,fun j x hx=>?_⟩
    rw[List.getElem?_map]at hx
    obtain⟨y,hy,rfl⟩:=Option.map_eq_some_iff.1 hx
    obtain⟨u',u1,u2,u3⟩:=h3 j y hy
    exact⟨u',u1,u2,hmap _ _ (hs y (List.mem_of_getElem? hy)) u3⟩
   cases r with
   |one x=>exact hmap x v hself v2
   |agg cs=>exact agg cs v hself v2
   |fn f cs=>obtain⟨u,h1,h2⟩:=v2;exact⟨u,agg cs u hself h1,h2⟩
   |tup ts=>
    obtain⟨us,h1,h2,h3⟩:=v2
    refine⟨us,h1,by simpa using h2,fun j b cs hx=>?_⟩
    rw[List.getElem?_map]at hx
    obtain⟨y,hy,hyy⟩:=Option.map_eq_some_iff.1 hx
    obtain⟨b',cs'⟩:=y
    simp at hyy
    obtain⟨rfl,rfl⟩:=hyy
    obtain⟨u,u1,u2⟩:=h3 j b' cs' hy
    have hs:=hself (b',cs') (List.mem_of_getElem? hy)
    refine⟨u,u1,?_⟩
    rcases u2 with⟨u2,u3⟩|⟨u2,x,rfl,u4⟩
    ·exact .inl ⟨u2,agg _ _ hs u3⟩
    ·exact .inr ⟨u2,_,rfl,hmap _ _ (hs x (by simp)) u4⟩
 rcases he with rfl|rfl
 ·exact⟨h1,v,v1,v,rfl,hfin⟩
 ·exact⟨h1,v,v1,v,rfl,hfin⟩
end
end
section
structure CO where
 i:Nat
 d:Option Tmp
 op:Op
 g:Option (Tmp×Bool)
def ab (ops:Array Oper) (o:Oper) (i:Nat):CO:=
 ⟨i,o.dst,o.op,match o.guard with
  |none=>none
  |some (g,want)=>match(ops[g]?).bind (·.dst)with
   |some d=>some (d,want)
   |none=>some (1000000,want)⟩
def cY (ops:Array Oper):List Oper->Nat->List CO
 |[],_=>[]
 |o::l,i=>ab ops o i::cY ops l (i+1)
section
variable (P:Program) (items:List (dN P)) (ow:List Nat)
noncomputable def E7 (i : Nat) (d : Option Tmp) (op : Op) (s : AS) : Option AS := dZ P items ow i ⟨d, op, 0, "", #[], none⟩ s
noncomputable def cR:CO->AS->Option AS
 |⟨i,d,op,none⟩,s=>E7 P items ow i d op s
 |⟨i,d,op,some (k,want)⟩,s=>match s.tmps[k]? with
  |some (.one (.p (.raw (.bool b))))=>if b=want then E7 P items ow i d op s else some (s.put d .undef)
  |some (.tup [])=>some (s.put d .undef)
  |_=>none
noncomputable def dS:List CO->Option AS->(AS->Prop)->Prop
 |_,none,_=>False
 |[],some s,Q=>Q s
 |st::l,some s,Q=>dS l (cR P items ow st s) Q
theorem ye (l:List CO) (Q:AS->Prop):dS P items ow l none Q=False:=by cases l<;>rfl
theorem zG (s:AS) (Q:AS->Prop):dS P items ow [] (some s) Q=Q s:=rfl
theorem qS (st:CO) (l:List CO) (s:AS) (Q:AS->Prop):dS P items ow (st::l) (some s) Q=dS P items ow l (cR P items ow st s) Q:=rfl
theorem o8 (i : Nat) (o : Oper) (s : AS) : dZ P items ow i ⟨o.dst, o.op, 0, "", #[], none⟩ s = dZ P items ow i o s := rfl
theorem qG {i:Nat} {o:Oper} {s s1:AS} (hs:dZ P items ow i o s=some s1):s1.tmps.length=s.tmps.length:=by
 unfold dZ at hs
 split at hs
 ·obtain⟨t,_,rfl⟩:=Option.map_eq_some_iff.1 hs;exact er _ _ _
 ·split at hs
  ·obtain⟨t,_,rfl⟩:=Option.map_eq_some_iff.1 hs;exact er _ _ _
  ·split at hs
   ·injection hs with hs;subst hs;rw[er];simp
   ·split at hs
    ·cases hs
    ·split at hs
     ·injection hs with hs;subst hs;exact er _ _ _
     ·split at hs
      ·injection hs with hs;subst hs;rw[er]
      ·cases hs
     ·cases hs
theorem xW {ops:Array Oper} {o:Oper} {i:Nat} {s s1:AS} (hlen:s.tmps.length<=1000000) (h:cR P items ow (ab ops o i) s=some s1):cz P items ow ops i o s=some s1/\s1.tmps.length=s.tmps.length:=by
 unfold ab at h
 unfold cz
 cases hg:o.guard with
 |none=>
  rw[hg]at h
  simp only[cR,E7,o8]at h
  exact⟨h,qG P items ow h⟩
 |some gw=>
  obtain⟨g,want⟩:=gw
  rw[hg]at h
  simp only at h⊢
  cases hd:(ops[g]?).bind (·.dst)with
  |none=>
   rw[hd]at h
   simp only[cR]at h
   rw[List.getElem?_eq_none hlen]at h
   cases h
  |some d=>
   rw[hd]at h
   simp only[cR,E7,o8]at h
   simp only
   split at h
   ·rename_i b hb
    rw[hb]
    simp only
    split at h
    ·rename_i hbw
     rw[if_pos hbw]
     exact⟨h,qG P items ow h⟩
    ·rename_i hbw
     rw[if_neg hbw]
     exact⟨h,by injection h with h;subst h;exact er _ _ _⟩
   ·rename_i hb
    rw[hb]
    exact⟨h,by injection h with h;subst h;exact er _ _ _⟩
   ·cases h
theorem dw (ops:Array Oper): ∀(l:List Oper) (i:Nat) (s:AS) (Q:AS->Prop),s.tmps.length<=1000000->dS P items ow (cY ops l i) (some s) Q-> ∃s',iz P items ow ops (l.zipIdx i) s=some s'/\Q s'
 |[],i,s,Q,_,h=>⟨s,rfl,h⟩
 |o::l,i,s,Q,hlen,h=>by
  simp only[cY,qS]at h
  simp only[List.zipIdx_cons,iz]
  cases hs:cR P items ow (ab ops o i) s with
  |none=>rw[hs,ye]at h;exact h.elim
  |some s1=>
   rw[hs]at h
   obtain⟨h1,h2⟩:=xW P items ow hlen hs
   rw[h1]
   exact dw ops l (i+1) s1 Q (by omega) h
variable {P}
theorem nG (items:List (ar P)) (ow:List Nat) {id:Nat} {ops:Array Oper} {s:AS} {Q:Exit->AS->Prop} (hl:s.tmps.length<=1000000) (h:dS P (items.map ar.a) ow (cY ops ops.toList 0) (some s) (Q .normal)):bX P (.region id ops false) Q s:=by
 obtain⟨s',h1,h2⟩:=dw P (items.map ar.a) ow ops ops.toList 0 s (Q .normal) hl h
 exact uz _ (ar.ok items) ow h1 h2
variable {items} {ow}
variable {i:Nat} {d:Option Tmp} {s:AS}
theorem aA (op:Op) (k:Tmp) (want:Bool):cR P items ow ⟨i,d,op,some (k,want)⟩ s=match s.tmps[k]? with
  |some (.one (.p (.raw (.bool b))))=>if b=want then cR P items ow ⟨i,d,op,none⟩ s else some (s.put d .undef)
  |some (.tup [])=>some (s.put d .undef)
  |_=>none:=rfl
theorem o7 {op:Op} (h:rm op=true):cR P items ow ⟨i,d,op,none⟩ s=(aj P s.ev op).map (s.put d):=by
 show dZ P items ow i ⟨d, op, 0, "", #[], none⟩ s = _
 unfold dZ
 simp only[h,if_true]
theorem lY {op:Op} (h:rm op=false) (h':Ci op=true):cR P items ow ⟨i,d,op,none⟩ s=(ao P s.ev s.H op).map (s.put d):=by
 show dZ P items ow i ⟨d, op, 0, "", #[], none⟩ s = _
 unfold dZ
 simp only[h,h',if_true,Bool.false_eq_true,if_false]
theorem zp (x:Operand):cR P items ow ⟨i,d,.move x,none⟩ s=(s.ev x).map (s.put d):=o7 rfl
theorem uL (x:Operand):cR P items ow ⟨i,d,.assign x,none⟩ s=(s.ev x).map (s.put d):=o7 rfl
theorem aM (c a b:Operand):cR P items ow ⟨i,d,.pick c a b,none⟩ s=(aj P s.ev (.pick c a b)).map (s.put d):=o7 rfl
theorem B0 (op:BinOp) (t t':TypeId) (x y:Operand):cR P items ow ⟨i,d,.binOp op t x y t',none⟩ s=(aj P s.ev (.binOp op t x y t')).map (s.put d):=o7 rfl
theorem cX (op:UnOp) (t:TypeId) (x:Operand):cR P items ow ⟨i,d,.unOp op t x,none⟩ s=(aj P s.ev (.unOp op t x)).map (s.put d):=o7 rfl
theorem bf (t t':TypeId) (x:Operand):cR P items ow ⟨i,d,.convert t t' x,none⟩ s=(aj P s.ev (.convert t t' x)).map (s.put d):=o7 rfl
theorem bz (x:Operand) (k:Nat):cR P items ow ⟨i,d,.extract x k,none⟩ s=(aj P s.ev (.extract x k)).map (s.put d):=o7 rfl
theorem AT (t:TypeId) (x:Operand):cR P items ow ⟨i,d,.load t x,none⟩ s=(ao P s.ev s.H (.load t x)).map (s.put d):=lY rfl rfl
theorem ag (t:TypeId) (x y:Operand):cR P items ow ⟨i,d,.indexAddr t x y,none⟩ s=(ao P s.ev s.H (.indexAddr t x y)).map (s.put d):=lY rfl rfl
theorem aw (t:TypeId) (x:Operand) (f:Nat):cR P items ow ⟨i,d,.fieldAddr t x f,none⟩ s=(ao P s.ev s.H (.fieldAddr t x f)).map (s.put d):=lY rfl rfl
theorem ym (t:TypeId) (x:Operand) (f:Nat):cR P items ow ⟨i,d,.field t x f,none⟩ s=(ao P s.ev s.H (.field t x f)).map (s.put d):=lY rfl rfl
theorem gC (t:TypeId) (x:Operand) (lo hi mx:Option Operand):cR P items ow ⟨i,d,.slice t x lo hi mx,none⟩ s=(ao P s.ev s.H (.slice t x lo hi mx)).map (s.put d):=lY rfl rfl
theorem eh (t:TypeId) (ps:Array (Nat×Operand)):cR P items ow ⟨i,d,.build t ps,none⟩ s=(ao P s.ev s.H (.build t ps)).map (s.put d):=lY rfl rfl
theorem jc (x:Operand):cR P items ow ⟨i,d,.nilCheck x,none⟩ s=(ao P s.ev s.H (.nilCheck x)).map (s.put d):=lY rfl rfl
theorem rp (f:Fn) (xs ys:Array Operand):cR P items ow ⟨i,d,.makeFunc f xs ys,none⟩ s=(ao P s.ev s.H (.makeFunc f xs ys)).map (s.put d):=lY rfl rfl
theorem aq (xs:Array Operand) (ts:Array TypeId):cR P items ow ⟨i,d,.call {callee:= .builtin .len,args:=xs,argTypes:=ts},none⟩ s=(ao P s.ev s.H (.call {callee:= .builtin .len,args:=xs,argTypes:=ts})).map (s.put d):=lY rfl rfl
def aT (d:Nat) (s:AS):Option (TV×List OObj)->Option AS
 |some (t,[])=>some (s.put (some d) t)
 |some (t,o::l)=>(match s.H d with|[]=>some (AS.put ⟨s.tmps,au s.H d (o::l)⟩ (some d) t)|_=>none)
 |none=>none
theorem nQ {op:Op} {d:Nat} (h:rm op=false) (h':Ci op=false) (hD:bN P s.ev s.H op=none):cR P items ow ⟨i,some d,op,none⟩ s=aT d s (aI P items ow i d s.ev s.H op):=by
 show dZ P items ow i ⟨some d, op, 0, "", #[], none⟩ s = _
 unfold dZ aT
 simp only[h,h',Bool.false_eq_true,if_false,hD]
 cases hA:aI P items ow i d s.ev s.H op with
 |none=>rfl
 |some tF=>
  obtain⟨t,F⟩:=tF
  cases F with
  |nil=>rfl
  |cons o l=>simp only[];cases s.H d<;>rfl
theorem cd {d:Nat} (e:TypeId) (x:Operand):cR P items ow ⟨i,some d,.box e x,none⟩ s=aT d s (aI P items ow i d s.ev s.H (.box e x)):=nQ rfl rfl rfl
theorem bs {d:Nat} (e:TypeId):cR P items ow ⟨i,some d,.alloc e,none⟩ s=aT d s (aI P items ow i d s.ev s.H (.alloc e)):=nQ rfl rfl rfl
theorem ca {d:Nat} (t:TypeId) (x y:Operand):cR P items ow ⟨i,some d,.makeSlice t x y,none⟩ s=aT d s (aI P items ow i d s.ev s.H (.makeSlice t x y)):=nQ rfl rfl rfl
theorem co {d:Nat} (t:TypeId) (n:Nat) (ps:Array (Nat×Operand)):cR P items ow ⟨i,some d,.buildSlice t n ps,none⟩ s=aT d s (aI P items ow i d s.ev s.H (.buildSlice t n ps)):=nQ rfl rfl rfl
theorem ak {d:Nat} (f:FuncId) (xs:Array Operand) (ts:Array TypeId):cR P items ow ⟨i,some d,.call {callee:= .value (.func f),args:=xs,argTypes:=ts},none⟩ s=aT d s (aI P items ow i d s.ev s.H (.call {callee:= .value (.func f),args:=xs,argTypes:=ts})):=nQ rfl rfl rfl
theorem yK {d:Nat} (k:Tmp) (xs:Array Operand) (ts:Array TypeId):cR P items ow ⟨i,some d,.call {callee:= .value (.tmp k),args:=xs,argTypes:=ts},none⟩ s=aT d s (aI P items ow i d s.ev s.H (.call {callee:= .value (.tmp k),args:=xs,argTypes:=ts})):=nQ rfl rfl rfl
def dr (d:Option Tmp) (s:AS):Option uX->Option AS
 |some q=>some (AS.put ⟨s.tmps.map (aH q.k),q.H⟩ d q.t)
 |none=>none
theorem aB (t:TypeId) (x y:Operand):cR P items ow ⟨i,d,.store t x y,none⟩ s=dr d s (bN P s.ev s.H (.store t x y)):=by
 show dZ P items ow i ⟨d, .store t x y, 0, "", #[], none⟩ s = _
 unfold dZ dr
 simp only[rm,Ci,Bool.false_eq_true,if_false]
 cases hq:bN P s.ev s.H (.store t x y)with
 |some q=>rfl
 |none=>
  cases d with
  |none=>rfl
  |some d=>simp only[aI]
def l8 (d:Nat) (s:AS) (q:Option uX) (r:Option (TV×List OObj)):Option AS:=match q with
 |some q=>dr (some d) s (some q)
 |none=>aT d s r
theorem dE {d:Nat} (xs:Array Operand) (ts:Array TypeId):cR P items ow ⟨i,some d,.call {callee:= .builtin .append,args:=xs,argTypes:=ts},none⟩ s=
  l8 d s (bN P s.ev s.H (.call {callee:= .builtin .append,args:=xs,argTypes:=ts})) (aI P items ow i d s.ev s.H (.call {callee:= .builtin .append,args:=xs,argTypes:=ts})):=by
 cases hq:bN P s.ev s.H (.call {callee:= .builtin .append,args:=xs,argTypes:=ts})with
 |some q=>
  show dZ P items ow i ⟨some d, .call { callee := .builtin .append, args := xs, argTypes := ts }, 0, "", #[], none⟩ s = _
  unfold dZ
  simp only[rm,Ci,Bool.false_eq_true,if_false,hq]
  rfl
 |none=>exact nQ rfl rfl hq
end
end
section
def Hm:List (Nat×List OObj)->OH
 |[],_=>[]
 |(k,F)::l,a=>if a=k then F else Hm l a
def D9 (H:OH):List (Nat×List OObj)->Prop
 |[]=>True
 |(k,F)::l=>H k=F/\D9 H l
def bA (ks:List Nat):AV->Bool
 | .sl a _ _ _=>ks.contains a
 | .ptr a _ _ _=>ks.contains a
 |_=>true
def bD (ks:List Nat):TV->Bool
 | .one x=>bA ks x
 | .agg cs=>cs.all (bA ks)
 | .fn _ cs=>cs.all (bA ks)
 | .tup ts=>ts.all fun t=>t.2.all (bA ks)
def cu (ks:List Nat):List TV->List TV->Prop
 |[],[]=>True
 |x::xs,y::ys=>(y= .one .junk\/(y=x/\bD ks y=true))/\cu ks xs ys
 |_,_=>False
section
variable {P:Program} {w0 w w':World} {O X:Nat->Prop} {ρ:eZ} {H:OH}
theorem xt {H:OH}: ∀{l:List (Nat×List OObj)},D9 H l-> ∀a,((l.map (·.1)).contains a=true->Hm l a=H a)/\((l.map (·.1)).contains a=false->Hm l a=[])
 |[],_,a=>⟨fun h=>by simp at h,fun _=>rfl⟩
 |(k,F)::l,h,a=>by
  obtain⟨h1,h2⟩:=h
  obtain⟨g1,g2⟩:=xt h2 a
  by_cases ha:a=k
  ·subst ha
   exact⟨fun _=>by simp[Hm,h1],fun h=>by simp at h⟩
  ·refine⟨fun h=>?_,fun h=>?_⟩
   ·simp only[Hm,ha,if_false]
    apply g1
    simpa[ha] using h
   ·simp only[Hm,ha,if_false]
    apply g2
    simpa[ha] using h
theorem wX {ks:List Nat}: ∀{l m:List TV},cu ks l m->m.length=l.length/\ ∀(t:Nat) y,m[t]?=some y->y= .one .junk\/(l[t]?=some y/\bD ks y=true)
 |[],[],_=>⟨rfl,fun t y h=>by simp at h⟩
 |x::xs,y::ys,h=>by
  obtain⟨h1,h2⟩:=h
  obtain⟨g1,g2⟩:=wX h2
  refine⟨by simp[g1],fun t z hz=>?_⟩
  cases t with
  |succ t=>simp at hz⊢;exact g2 t z hz
  |zero=>
   simp at hz
   subst hz
   rcases h1 with h1|⟨h1,h3⟩
   ·exact .inl h1
   ·exact .inr ⟨by simp[h1],h3⟩
 |[],y::ys,h=>h.elim
 |x::xs,[],h=>h.elim
theorem BT {H':OH} {Y Y':Nat->Prop} {ks:List Nat} (hk: ∀a,ks.contains a=true->H' a=H a) (hY: ∀b,Y' b->Y b) {x:AV} {v:Value} (ho:bA ks x=true) (h:x.rel ρ H Y w v):x.rel ρ H' Y' w v:=by
 cases x with
 |p x=>exact cO.weaken (fun b _ hb=>hY b hb) h
 |sl a r off len=>
  obtain⟨o,h1,h2⟩:=h
  exact⟨o,by rw[hk a ho];exact h1,h2⟩
 |ptr a r i j=>
  obtain⟨o,b,c,h1,h2⟩:=h
  exact⟨o,b,c,by rw[hk a ho];exact h1,h2⟩
 |junk=>trivial
theorem am {s:AS} {tm:List TV} {l:List (Nat×List OObj)} (hl:D9 s.H l) (ht:cu (l.map (·.1)) s.tmps tm):du s ⟨tm,Hm l⟩:=by
 rintro w0 O X a w ⟨h1,hsz,ρ,hinv,htm⟩
 obtain⟨t1,t2⟩:=wX ht
 have hk:=fun a=>xt hl a
 have live: ∀(a r:Nat) o,(Hm l a)[r]?=some o->(l.map (·.1)).contains a=true/\(s.H a)[r]?=some o:=fun a r o ho=>by
  cases hc:(l.map (·.1)).contains a with
  |false=>rw[(hk a).2 hc]at ho;simp at ho
  |true=>rw[(hk a).1 hc]at ho;exact⟨rfl,ho⟩
 have hXo: ∀b,Xo X ρ (Hm l) b->Xo X ρ s.H b:=fun b hb=>by
  rcases hb with hb|⟨x,y,o,n,g1,g2⟩
  ·exact .inl hb
  ·exact .inr ⟨x,y,o,n,(live x y o g1).2,g2⟩
 have hmap: ∀x v,bA (l.map (·.1)) x=true->AV.rel ρ s.H (Xo X ρ s.H) w x v->AV.rel ρ (Hm l) (Xo X ρ (Hm l)) w x v:=fun x v ho h=>BT (fun a ha=>(hk a).1 ha) hXo ho h
 have hagg: ∀cs v,cs.all (bA (l.map (·.1)))=true->cE ρ s.H (Xo X ρ s.H) w cs v->cE ρ (Hm l) (Xo X ρ (Hm l)) w cs v:=fun cs v ho h=>by
  simp only[List.all_eq_true]at ho
  obtain⟨vs,g1,g2,g3⟩:=h
  exact⟨vs,g1,g2,fun j x hx=>by obtain⟨u,u1,u2,u3⟩:=g3 j x hx;exact⟨u,u1,u2,hmap x u (ho x (List.mem_of_getElem? hx)) u3⟩⟩
 refine⟨h1,by simp only;omega,ρ,⟨hinv.keep,fun a r o ho=>?_,fun a r a' r' o o' b c c' ho ho'=>hinv.inj a r a' r' o o' b c c' (live a r o ho).2 (live a' r' o' ho').2,fun a r o b c ho=>hinv.old a r o b c (live a r o ho).2,hinv.bar,fun a r o ho=>hinv.self a r o (live a r o ho).2⟩,fun t x hx=>?_⟩
 ·obtain⟨hc,ho'⟩:=live a r o ho
  obtain⟨q1,q2,q3⟩:=hinv.objs a r o ho'
  refine⟨q1,q2,?_⟩
  cases hr:ρ a r with
  |none=>rw[hr]at q3;exact q3
  |some bc=>
   obtain⟨b,c⟩:=bc
   rw[hr]at q3
   obtain⟨cells,p1,p2,p3,p4,p5⟩:=q3
   refine⟨cells,p1,p2,p3,p4,fun i e j x he hx=>?_⟩
   obtain⟨u,u1,u2,u3⟩:=p5 i e j x he hx
   have hs:=hinv.self a r o ho' e (List.mem_of_getElem? he) x (List.mem_of_getElem? hx)
   refine⟨u,u1,u2,hmap x u ?_ u3⟩
   cases x with
   |sl y _ _ _=>have hs:y=a:=hs;subst hs;exact hc
   |ptr y _ _ _=>have hs:y=a:=hs;subst hs;exact hc
   |p y=>rfl
   |junk=>rfl
 ·rcases t2 t x hx with rfl|⟨hx',hok⟩
  ·obtain⟨v,hv⟩: ∃v,a.tmps[t]?=some v:=by
    have:t<tm.length:=(List.getElem?_eq_some_iff.1 hx).1
    exact⟨_,Array.getElem?_eq_getElem (by omega)⟩
   exact⟨v,hv,trivial⟩
  ·obtain⟨v,v1,v2⟩:=htm t x hx'
   refine⟨v,v1,?_⟩
   cases x with
   |one x=>exact hmap x v hok v2
   |agg cs=>exact hagg cs v hok v2
   |fn f cs=>obtain⟨u,h1,h2⟩:=v2;exact⟨u,hagg cs u hok h1,h2⟩
   |tup ts=>
    simp only[bD,List.all_eq_true]at hok
    obtain⟨vs,g1,g2,g3⟩:=v2
    refine⟨vs,g1,g2,fun j b cs hj=>?_⟩
    obtain⟨u,u1,u2⟩:=g3 j b cs hj
    have hall:=hok (b,cs) (List.mem_of_getElem? hj)
    refine⟨u,u1,?_⟩
    rcases u2 with⟨u2,u3⟩|⟨u2,y,rfl,u4⟩
    ·exact .inl ⟨u2,hagg cs u (by simpa only[List.all_eq_true] using hall) u3⟩
    ·exact .inr ⟨u2,y,rfl,hmap y u (hall y (by simp)) u4⟩
theorem lC {s:AS} {k d:Nat} (ty:TypeId) (es:Nat) (hes:0<es) (hd:s.H d=[]) (hk:s.tmps[k]?=some (.raw (.slice none 0 0))):du s ⟨s.tmps.set k (.one (.sl d 0 0 0)),au s.H d [⟨ty,es,[]⟩]⟩:=by
 rintro w0 O X a w ⟨h1,hsz,ρ,hinv,htm⟩
 have htm:cn X ρ s a w:=htm
 obtain⟨v,v1,v2⟩:=htm k _ hk
 have hv:=(cW v2).1
 subst hv
 have hnew: ∀(r b c:Nat),(fun _=>none:Nat->Option (Nat×Nat)) r=some (b,c)->w.heap.size<=b:=fun r b c h=>by cases h
 have hmono: ∀x u,AV.rel ρ s.H (Xo X ρ s.H) w x u->AV.rel (newρ ρ d fun _=>none) (au s.H d [⟨ty,es,[]⟩]) (Xo X (newρ ρ d fun _=>none) (au s.H d [⟨ty,es,[]⟩])) w x u:=fun x u h=>jA hinv (Ext.refl w) hd hnew h
 refine⟨h1,by simpa using hsz,newρ ρ d fun _=>none,⟨hinv.keep,fun a' r o ho=>?_,fun a' r a'' r' o o' b c c' ho ho' hr hr'=>?_,fun a' r o b c ho hr=>?_,hinv.bar,fun a' r o ho=>?_⟩,fun t x hx=>?_⟩
 ·by_cases ha:a'=d
  ·subst ha
   simp only[bV]at ho
   cases r with
   |succ r=>simp at ho
   |zero=>simp at ho;subst ho;exact⟨by simp,hes,by rw[newρ_eq]⟩
  ·simp only[bv ha]at ho
   exact dV (hinv.objs a' r o ho) (newρ_ne ha r) (fun b c hb=>rfl) hmono
 ·by_cases ha:a'=d
  ·subst ha;rw[newρ_eq]at hr;cases hr
  ·by_cases ha':a''=d
   ·subst ha';rw[newρ_eq]at hr';cases hr'
   ·rw[newρ_ne ha]at hr
    rw[newρ_ne ha']at hr'
    simp only[bv ha]at ho
    simp only[bv ha']at ho'
    exact hinv.inj a' r a'' r' o o' b c c' ho ho' hr hr'
 ·by_cases ha:a'=d
  ·subst ha;rw[newρ_eq]at hr;cases hr
  ·rw[newρ_ne ha]at hr
   simp only[bv ha]at ho
   exact hinv.old a' r o b c ho hr
 ·by_cases ha:a'=d
  ·subst ha
   simp only[bV]at ho
   cases r with
   |succ r=>simp at ho
   |zero=>simp at ho;subst ho;exact fun e he=>by simp at he
  ·simp only[bv ha]at ho
   exact hinv.self a' r o ho
 ·by_cases hkt:k=t
  ·subst hkt
   simp only[List.getElem?_set,if_true]at hx
   split at hx
   ·injection hx with hx
    subst hx
    exact⟨_,v1,⟨ty,es,[]⟩,by show(au s.H d [⟨ty,es,[]⟩] d)[0]?=_;rw[bV];rfl,by simp,.inl ⟨by rw[newρ_eq],rfl,rfl,rfl⟩⟩
   ·cases hx
  ·simp only[List.getElem?_set_ne hkt]at hx
   obtain⟨u,u1,u2⟩:=htm t x hx
   exact⟨u,u1,TV.rel_map u2 hmono⟩
theorem nF {Y Z:Nat->Prop} {a r off len:Nat} {o:OObj} {v:Value} {F:AV->PV} (hob:objRel ρ H Y w a r o) (ho:(H a)[r]?=some o) (hcell: ∀e∈o.elems,∀x∈e,∀u,x.rel ρ H Y w u->cO Z w (F x) u) (hZb: ∀b c,ρ a r=some (b,c)-> ¬Z b)
  (h:AV.rel ρ H Y w (.sl a r off len) v):cO Z w (.sl (((o.elems.take (off+len)).drop off).map (List.map F))) v:=by
 obtain⟨o',g1,g2,g3⟩:=h
 rw[ho]at g1
 injection g1 with g1
 subst g1
 obtain⟨q1,q2,q3⟩:=hob
 have hl:(((o.elems.take (off+len)).drop off).map (List.map F)).length=len:=by simp;omega
 rcases g3 with⟨gr,gv,gl,go⟩|⟨b,c,gr,gv⟩
 ·rw[List.length_eq_zero_iff.1 (hl.trans gl),gv]
  exact cO.nil _ _
 ·by_cases hl0:len=0
  ·rw[List.length_eq_zero_iff.1 (hl.trans hl0),gv,hl0]
   exact cO.nil _ _
  ·rw[gr]at q3
   obtain⟨cells,p1,p2,p3,p4,p5⟩:=q3
   have hsub: ∀(i:Nat) e,(((o.elems.take (off+len)).drop off).map (List.map F))[i]?=some e-> ∃e',o.elems[off+i]?=some e'/\e=e'.map F:=fun i e he=>by
    rw[List.getElem?_map]at he
    obtain⟨e',he',rfl⟩:=Option.map_eq_some_iff.1 he
    rw[List.getElem?_drop,List.getElem?_take]at he'
    split at he'
    ·exact⟨e',he',rfl⟩
    ·cases he'
   have hcl: ∀(i:Nat) e (j:Nat) x,(((o.elems.take (off+len)).drop off).map (List.map F))[i]?=some e->e[j]?=some x-> ∃u:Value,cells[(off+i)*o.es+j]?=some u/\cO Z w x u:=fun i e j x he hx=>by
    obtain⟨e',he',rfl⟩:=hsub i e he
    rw[List.getElem?_map]at hx
    obtain⟨x',hx',rfl⟩:=Option.map_eq_some_iff.1 hx
    obtain⟨u,u1,u2,u3⟩:=p5 _ e' j x' he' hx'
    exact⟨u,u1,hcell e' (List.mem_of_getElem? he') x' (List.mem_of_getElem? hx') u u3⟩
   rw[gv]
   have:=cO.sl (X:=Z) (w:=w) b (off*o.es) o.es (c-off) (((o.elems.take (off+len)).drop off).map (List.map F)) (fun i j=>(cells[(off+i)*o.es+j]?).getD undef) (hZb b c gr) (Array.getElem?_eq_some_iff.1 p1).1
    (fun e he=>by
     simp only[List.mem_map]at he
     obtain⟨e',he',rfl⟩:=he
     rw[List.length_map]
     exact q1 e' (List.mem_of_mem_take (List.mem_of_mem_drop he'))) (by omega) (by omega)
    (fun i e j x he hx=>by
     obtain⟨u,u1,_⟩:=hcl i e j x he hx
     rw[cell_of_row _ b _ cells o.ty (0,0) p1,<- Nat.add_mul,u1]
     rfl)
    (fun i e j x he hx=>by
     obtain⟨u,u1,u2⟩:=hcl i e j x he hx
     simp only[u1,Option.getD_some];exact u2)
   rw[hl]at this
   exact this
def jE (H:OH) (a:Nat):AV->PV
 | .p x=>x
 | .sl _ r off len=>match(H a)[r]? with
  |some o=> .sl (((o.elems.take (off+len)).drop off).map (List.map kW))
  |none=> .raw undef
 |_=> .raw undef
def eX (H:OH) (a:Nat):AV->AV
 | .sl b r off len=>if b=a then(match(H a)[r]? with
  |some o=> .p (.sl (((o.elems.take (off+len)).drop off).map (List.map (jE H a))))
  |none=> .junk)else .sl b r off len
 | .ptr b r i j=>if b=a then .junk else .ptr b r i j
 |x=>x
def gR (H:OH) (a:Nat):TV->TV
 | .one x=> .one (eX H a x)
 | .agg cs=> .agg (cs.map (eX H a))
 | .fn f cs=> .fn f (cs.map (eX H a))
 | .tup ts=> .tup (ts.map fun t=>(t.1,t.2.map (eX H a)))
def xd (o:OObj):Prop:= ∀e∈o.elems,∀x∈e,isPure x=true
def vd (H:OH) (a:Nat):Prop:= ∀(r:Nat) o,(H a)[r]?=some o-> ∀e∈o.elems,∀x∈e,isPure x=true\/ ∃r' off len o',x= .sl a r' off len/\(H a)[r']?=some o'/\xd o'
theorem d4 {s:AS} (a:Nat) (hok:vd s.H a):du s ⟨s.tmps.map (gR s.H a),au s.H a []⟩:=by
 rintro w0 O X act w ⟨h1,hsz,ρ,hinv,htm⟩
 have htm:cn X ρ s act w:=htm
 have hna: ∀(x y:Nat) o,(au s.H a [] x)[y]?=some o->x≠a/\(s.H x)[y]?=some o:=fun x y o ho=>by
  by_cases hx:x=a
  ·subst hx;rw[bV]at ho;simp at ho
  ·rw[bv hx]at ho;exact⟨hx,ho⟩
 have hXo: ∀b,Xo X ρ (au s.H a []) b->Xo X ρ s.H b:=fun b hb=>by
  rcases hb with hb|⟨x,y,o,n,g1,g2⟩
  ·exact .inl hb
  ·exact .inr ⟨x,y,o,n,(hna x y o g1).2,g2⟩
 have hZb: ∀(r:Nat) o,(s.H a)[r]?=some o-> ∀b c,ρ a r=some (b,c)-> ¬Xo X ρ (au s.H a []) b:=fun r o ho b c hr hX=>by
  rcases hX with hX|⟨x,y,o',n,g1,g2⟩
  ·exact(hinv.old a r o b c ho hr).2 hX
  ·obtain⟨hx,g1'⟩:=hna x y o' g1
   exact hx (hinv.inj x y a r o' o b n c g1' ho g2 hr).1
 have hpure: ∀x u,isPure x=true->AV.rel ρ s.H (Xo X ρ s.H) w x u->cO (Xo X ρ (au s.H a [])) w (kW x) u:=fun x u hp h=>by
  cases x<;>first|exact cO.weaken (fun b _ hb=>hXo b hb) h|cases hp
 have hcell: ∀(r:Nat) o,(s.H a)[r]?=some o-> ∀e∈o.elems,∀x∈e,∀u,AV.rel ρ s.H (Xo X ρ s.H) w x u->cO (Xo X ρ (au s.H a [])) w (jE s.H a x) u:=fun r o ho e he x hx u hu=>by
  rcases hok r o ho e he x hx with hp|⟨r',off,len,o',rfl,ho',hpr⟩
  ·have:=hpure x u hp hu
   cases x<;>first|exact this|cases hp
  ·simp only[jE,ho']
   exact nF (hinv.objs a r' o' ho') ho' (fun e he y hy u hu=>hpure y u (hpr e he y hy) hu) (hZb r' o' ho') hu
 have hmap: ∀x v,AV.rel ρ s.H (Xo X ρ s.H) w x v->AV.rel ρ (au s.H a []) (Xo X ρ (au s.H a [])) w (eX s.H a x) v:=fun x v h=>by
  cases x with
  |p x=>exact cO.weaken (fun b _ hb=>hXo b hb) h
  |sl b r off len=>
   simp only[eX]
   by_cases hb:b=a
   ·subst hb
    rw[if_pos rfl]
    have h':=h
    obtain⟨o,g1,g2,g3⟩:=h
    rw[g1]
    exact nF (hinv.objs b r o g1) g1 (hcell r o g1) (hZb r o g1) h'
   ·rw[if_neg hb]
    obtain⟨o,g1,g2⟩:=h
    exact⟨o,by rw[bv hb];exact g1,g2⟩
  |ptr b r i j=>
   simp only[eX]
   by_cases hb:b=a
   ·subst hb;rw[if_pos rfl];trivial
   ·rw[if_neg hb]
    obtain⟨o,b',c,g1,g2⟩:=h
    exact⟨o,b',c,by rw[bv hb];exact g1,g2⟩
  |junk=>trivial
 have hagg: ∀cs v,cE ρ s.H (Xo X ρ s.H) w cs v->cE ρ (au s.H a []) (Xo X ρ (au s.H a [])) w (cs.map (eX s.H a)) v:=fun cs v h=>by
  obtain⟨vs,g1,g2,g3⟩:=h
  refine⟨vs,g1,by simpa using g2,fun j x hx=>?_⟩
  rw[List.getElem?_map]at hx
  obtain⟨y,hy,rfl⟩:=Option.map_eq_some_iff.1 hx
  obtain⟨u,u1,u2,u3⟩:=g3 j y hy
  exact⟨u,u1,u2,hmap y u u3⟩
 refine⟨h1,by simpa using hsz,ρ,⟨hinv.keep,fun x y o ho=>?_,fun x y x' y' o o' b c c' ho ho'=>hinv.inj x y x' y' o o' b c c' (hna x y o ho).2 (hna x' y' o' ho').2,fun x y o b c ho=>hinv.old x y o b c (hna x y o ho).2,hinv.bar,fun x y o ho=>hinv.self x y o (hna x y o ho).2⟩,fun t x hx=>?_⟩
 ·obtain⟨hx,ho'⟩:=hna x y o ho
  obtain⟨q1,q2,q3⟩:=hinv.objs x y o ho'
  refine⟨q1,q2,?_⟩
  cases hr:ρ x y with
  |none=>rw[hr]at q3;exact q3
  |some bc=>
   obtain⟨b,c⟩:=bc
   rw[hr]at q3
   obtain⟨cells,p1,p2,p3,p4,p5⟩:=q3
   refine⟨cells,p1,p2,p3,p4,fun i e j z he hz=>?_⟩
   obtain⟨u,u1,u2,u3⟩:=p5 i e j z he hz
   have hs:=hinv.self x y o ho' e (List.mem_of_getElem? he) z (List.mem_of_getElem? hz)
   have:=hmap z u u3
   refine⟨u,u1,u2,?_⟩
   cases z with
   |sl z _ _ _=>have hs:z=x:=hs;subst hs;simpa[eX,hx] using this
   |ptr z _ _ _=>have hs:z=x:=hs;subst hs;simpa[eX,hx] using this
   |p z=>exact this
   |junk=>trivial
 ·simp only[List.getElem?_map]at hx
  obtain⟨y,hy,rfl⟩:=Option.map_eq_some_iff.1 hx
  obtain⟨v,v1,v2⟩:=htm t y hy
  refine⟨v,v1,?_⟩
  cases y with
  |one x=>exact hmap x v v2
  |agg cs=>exact hagg cs v v2
  |fn f cs=>obtain⟨u,h1,h2⟩:=v2;exact⟨u,hagg cs u h1,h2⟩
  |tup ts=>
   obtain⟨vs,g1,g2,g3⟩:=v2
   refine⟨vs,g1,by simpa using g2,fun j b cs hj=>?_⟩
   rw[List.getElem?_map]at hj
   obtain⟨z,hz,hzz⟩:=Option.map_eq_some_iff.1 hj
   obtain⟨b',cs'⟩:=z
   simp at hzz
   obtain⟨rfl,rfl⟩:=hzz
   obtain⟨u,u1,u2⟩:=g3 j b' cs' hz
   refine⟨u,u1,?_⟩
   rcases u2 with⟨u2,u3⟩|⟨u2,q,rfl,u4⟩
   ·exact .inl ⟨u2,hagg _ _ u3⟩
   ·exact .inr ⟨u2,_,rfl,hmap q u u4⟩
end
end
section
section
variable {P:Program} {s:AS} {Q:Exit->AS->Prop} {x y z:Code}
theorem AD (items:List (ar P)) (ow:List Nat) {id:Nat} {ops:Array Oper} (hl:s.tmps.length<=1000000) (h: ∀K:AS->Prop,(∀s',bX P y Q s'->K s')->dS P (items.map ar.a) ow (cY ops ops.toList 0) (some s) K):bX P (.seq (.region id ops false) y) Q s:=
 ae (nG items ow hl (h _ fun _ h=>h))
theorem aa {P:Program} {s:AS} {Q:Exit->AS->Prop} {y:Code} (items:List (ar P)) {id:Nat} {ops:Array Oper} (h: ∀K:AS->Prop,(∀s',bX P y Q s'->K s')->dS P (items.map ar.a) [] (cY ops ops.toList 0) (some s) K) (hl:s.tmps.length<=1000000:=by simp):bX P (.seq (.region id ops false) y) Q s:=AD items [] hl h
theorem aX (items:List (ar P)) (ow:List Nat) {id:Nat} {ops:Array Oper} (hl:s.tmps.length<=1000000) (h: ∀K:AS->Prop,(∀s',Q .normal s'->K s')->dS P (items.map ar.a) ow (cY ops ops.toList 0) (some s) K):bX P (.region id ops false) Q s:=
 nG items ow hl (h _ fun _ h=>h)
theorem CP {G:Type} (St:G->AS) (μ:G->Nat) (g0:G) {id:Nat} (h0:du s (St g0))
  (round: ∀g,bX P x (jm (fun s'=> ∃g',μ g'<μ g/\du s' (St g')) (kV id (jm (bX P y Q) Q))) (St g)):bX P (.seq (.block id (.loop x)) y) Q s:=
 ae (aU (tD St μ g0 h0 round))
theorem bT {G:Type} (St:G->AS) (μ:G->Nat) (g0:G) {id:Nat} (h0:du s (St g0))
  (round: ∀g,bX P x (jm (fun s'=> ∃g',μ g'<μ g/\du s' (St g')) (kV id Q)) (St g)):bX P (.block id (.loop x)) Q s:=
 aU (tD St μ g0 h0 round)
theorem bC {n:Int} (h1: -9223372036854775808<=n) (h2:n<=9223372036854775807):IntKind.i64.wrap n=n:=IntWalk.i64_in _ (by omega)
theorem cS {n:Int} (h1:0<=n) (h2:n<18446744073709551616):IntKind.u64.wrap n=n:=by rw[IntKind.wrap_u64];omega
theorem xg {n:Int} (h1:0<=n) (h2:n<4294967296):IntKind.u32.wrap n=n:=by rw[IntKind.wrap_u32];omega
end
end
section
def ls {α:Type} (f:α->List PV) (l:List α):List (List PV):=l.map f
def lc {α:Type} (f:α->List PV) (l:List α):List (List AV):=l.map fun x=>(f x).map AV.p
section
variable {α:Type} {f:α->List PV}
theorem aD (l:List α):(ls f l).length=l.length:=by simp[ls]
theorem fu (l:List α):(lc f l).length=l.length:=by simp[lc]
theorem bI (l:List α) (i:Nat):(ls f l)[i]?=(l[i]?).map f:=by simp[ls]
theorem b8 (l:List α) (i:Nat):(lc f l)[i]?=(l[i]?).map fun x=>(f x).map AV.p:=by simp[lc]
theorem wa (l:List α) (i:Nat):(ls f l).take i=ls f (l.take i):=by simp[ls]
theorem ew (l:List α) (i:Nat):(lc f l).take i=lc f (l.take i):=by simp[lc]
theorem wR (l:List α) (i:Nat):(lc f l).drop i=lc f (l.drop i):=by simp[lc]
theorem Ab (l:List α):(ls f l).map (List.map AV.p)=lc f l:=by simp[ls,lc]
theorem Dd (l:List PV):(l.map AV.p).map kW=l:=by rw[List.map_map];exact(List.map_congr_left (fun _ _=>rfl)).trans (List.map_id l)
theorem vZ (l:List α):(lc f l).map (List.map kW)=ls f l:=by
 simp only[ls,lc,List.map_map]
 exact List.map_congr_left fun x _=>Dd (f x)
theorem d8 (H:OH) (a:Nat) (l:List α):(lc f l).map (List.map (jE H a))=ls f l:=by
 simp only[ls,lc,List.map_map]
 refine List.map_congr_left fun x _=>?_
 show((f x).map AV.p).map (jE H a)=f x
 rw[List.map_map];exact(List.map_congr_left (fun _ _=>rfl)).trans (List.map_id _)
theorem gk (l:List α):((lc f l).all fun e=>e.all isPure)=true:=by
 simp[lc,isPure]
theorem xp (x:α) (l:List α):ls f (x::l)=f x::ls f l:=rfl
theorem gS:ls f []=[]:=rfl
theorem AO (l:List α) (i:Nat) (x:α):(lc f l).set i ((f x).map AV.p)=lc f (l.set i x):=by simp[lc,List.map_set]
theorem vE {n:Nat} (hf: ∀x,(f x).length=n) (l:List α):(∀c∈ls f l,c.length=n)=True:=by
 simp only[eq_iff_iff,iff_true]
 intro c hc
 obtain⟨x,_,rfl⟩:=List.mem_map.1 hc
 exact hf x
theorem DN {n:Nat} (hf: ∀x,(f x).length=n) (l:List α):(∀c∈lc f l,c.length=n)=True:=by
 simp only[eq_iff_iff,iff_true]
 intro c hc
 obtain⟨x,_,rfl⟩:=List.mem_map.1 hc
 rw[List.length_map];exact hf x
theorem fK (k:Nat->Nat->Bool) (l:List α):(lc f l).map (List.map (aL k))=lc f l:=by
 simp only[lc,List.map_map]
 refine List.map_congr_left fun x _=>?_
 show((f x).map AV.p).map (aL k)=_
 rw[List.map_map];exact List.map_congr_left (fun _ _=>rfl)
theorem mb (d:Nat) (l:List α):(lc f l).map (List.map (aP d))=lc f l:=by
 simp only[lc,List.map_map]
 refine List.map_congr_left fun x _=>?_
 show((f x).map AV.p).map (aP d)=_
 rw[List.map_map];exact List.map_congr_left (fun _ _=>rfl)
theorem an {z:Int} (h:0<=z):sH z=some z.toNat:=if_pos h
theorem gQ (t:TypeId) (n:Nat) (l:List α):xd ⟨t,n,lc f l⟩:=fun e he x hx=>by
 obtain⟨y,_,rfl⟩:=List.mem_map.1 he
 obtain⟨z,_,rfl⟩:=List.mem_map.1 hx
 rfl
theorem dL {H:OH} {a:Nat} {t:TypeId} {n:Nat} {l:List α} (h:H a=[⟨t,n,lc f l⟩]):vd H a:=fun r o ho e he x hx=>by
 rw[h]at ho
 cases r with
 |succ r=>simp at ho
 |zero=>simp at ho;subst ho;exact .inl (gQ t n l e he x hx)
end
theorem gN {β:Type} (p:β->Prop):(∀e∈([]:List β),p e)=True:=by simp
theorem fH {β:Type} (p:β->Prop) (x:β) (l:List β):(∀e∈x::l,p e)=(p x/\ ∀e∈l,p e):=by simp
theorem bL {c:Prop} [Decidable c] (h:c) {β:Type} (a b:β):(if c then a else b)=a:=if_pos h
theorem cH {c:Prop} [Decidable c] (h: ¬c) {β:Type} (a b:β):(if c then a else b)=b:=if_neg h
theorem bE {c:Prop} [Decidable c] (h:c):decide c=true:=decide_eq_true h
theorem bj {c:Prop} [Decidable c] (h: ¬c):decide c=false:=decide_eq_false h
def fU (n:Nat):List PV:=[.raw (.int .u32 (n:Int))]
theorem ry (n:Nat):(fU n).length=1:=rfl
def fI (z:Int):List PV:=[.raw (.int .i64 z)]
theorem pj {d:Nat} {t:TV} (h:noRefTV t=true):mr d t/\aS 0 t=t:=by
 have av: ∀x,ap x=true->eB d x/\aP 0 x=x:=fun x hx=>by cases x<;>first|exact⟨trivial,rfl⟩|cases hx
 cases t with
 |one x=>exact⟨(av x h).1,by simp only[aS,(av x h).2]⟩
 |agg cs=>
  simp only[noRefTV,List.all_eq_true]at h
  exact⟨fun x hx=>(av x (h x hx)).1,by simp only[aS];congr 1;exact(List.map_congr_left fun x hx=>(av x (h x hx)).2).trans (List.map_id _)⟩
 |fn f cs=>
  simp only[noRefTV,List.all_eq_true]at h
  exact⟨fun x hx=>(av x (h x hx)).1,by simp only[aS];congr 1;exact(List.map_congr_left fun x hx=>(av x (h x hx)).2).trans (List.map_id _)⟩
 |tup ts=>
  simp only[noRefTV,List.all_eq_true]at h
  refine⟨fun t ht x hx=>(av x (h t ht x hx)).1,?_⟩
  simp only[aS]
  congr 1
  refine(List.map_congr_left fun t ht=>?_).trans (List.map_id _)
  show(t.1,t.2.map (aP 0))=t
  rw[(List.map_congr_left fun x hx=>(av x (h t ht x hx)).2).trans (List.map_id t.2)]
theorem f4 (l:List Nat) (a:Nat):lc fU l++[[AV.p (.raw (.int .u32 (a:Int)))]]=lc fU (l++[a]):=by simp[lc,fU]
theorem lh {P:Program} {fn:Func} {s:AS} {r:TV} {d:Nat} (hd:s.H d=[]) (h:bK P s fn.results.toList=some r) (hp:noRefTV r=true):qI P fn ⟨[],r⟩ s:=
 ⟨r,d,h,(pj hp).1,by rw[hd];rfl,(pj (d:=0) hp).2.symm⟩
theorem ot {P:Program} {fn:Func} {s:AS} {r:TV} (d:Nat) (hok:vd s.H d) (h:bK P ⟨s.tmps.map (gR s.H d),au s.H d []⟩ fn.results.toList=some r) (hp:noRefTV r=true): ∃s',du s s'/\qI P fn ⟨[],r⟩ s':=
 ⟨_,d4 d hok,lh (d:=d) (by simp[au]) h hp⟩
theorem aJ {P:Program} {fn:Func} {s:AS} {r:TV} (hd:s.H 1000=[]) (h:bK P s fn.results.toList=some r) (hp:noRefTV r=true): ∃s',du s s'/\qI P fn ⟨[],r⟩ s':=
 ⟨_,du.refl _,lh hd h hp⟩
end
theorem bu:kE Tryz.prog 118=some false:=by kernel_rfl
theorem lG:kE Tryz.prog 2=some false:=by kernel_rfl
theorem nN:kE Tryz.prog 22=some false:=by kernel_rfl
theorem og:kE Tryz.prog 23=some false:=by kernel_rfl
theorem Bv:kE Tryz.prog 25=some true:=by kernel_rfl
theorem vX:kE Tryz.prog 3=some false:=by kernel_rfl
theorem dm:kE Tryz.prog 35=some false:=by kernel_rfl
theorem cg:kE Tryz.prog 4=some false:=by kernel_rfl
theorem wU:kE Tryz.prog 5=some false:=by kernel_rfl
theorem bW:kE Tryz.prog 51=some false:=by kernel_rfl
theorem aW:kE Tryz.prog 53=some true:=by kernel_rfl
theorem cq:kE Tryz.prog 91=some false:=by kernel_rfl
theorem n9:ox Tryz.prog 3=false:=by kernel_rfl
theorem dK:ox Tryz.prog 4=true:=by kernel_rfl
theorem dz:BJ Tryz.prog 118=some 4:=by kernel_rfl
theorem Ak:BJ Tryz.prog 2=some 8:=by kernel_rfl
theorem xq:BJ Tryz.prog 35=some 24:=by kernel_rfl
theorem kX:BJ Tryz.prog 53=some 32:=by kernel_rfl
theorem nJ:BJ Tryz.prog 91=some 24:=by kernel_rfl
theorem uK:gI Tryz.prog 25 0=some (0,5):=by kernel_rfl
theorem u7:gI Tryz.prog 25 1=some (1,5):=by kernel_rfl
theorem uv:gI Tryz.prog 25 2=some (2,23):=by kernel_rfl
theorem kq:gI Tryz.prog 45 0=some (0,23):=by kernel_rfl
theorem kQ:gI Tryz.prog 45 1=some (1,3):=by kernel_rfl
theorem bJ:gI Tryz.prog 53 0=some (0,4):=by kernel_rfl
theorem bH:gI Tryz.prog 53 1=some (1,51):=by kernel_rfl
theorem bZ:td Tryz.prog 118=some .u32:=by kernel_rfl
theorem wb:td Tryz.prog 2=some .i64:=by kernel_rfl
theorem nD:td Tryz.prog 3=some .i64:=by kernel_rfl
theorem Ca:td Tryz.prog 5=some .u8:=by kernel_rfl
theorem bP:td Tryz.prog 88=some .u64:=by kernel_rfl
theorem tO:nC Tryz.prog 45=some [(0,1),(1,1)]:=by kernel_rfl
theorem eI:nC Tryz.prog 53=some [(0,1),(1,1)]:=by kernel_rfl
theorem bi:dW Tryz.prog 22=some 35:=by kernel_rfl
theorem kL:dW Tryz.prog 23=some 79:=by kernel_rfl
theorem ch:dW Tryz.prog 35=some 2:=by kernel_rfl
theorem be:dW Tryz.prog 48=some 91:=by kernel_rfl
theorem ah:dW Tryz.prog 51=some 118:=by kernel_rfl
theorem bQ:dW Tryz.prog 91=some 53:=by kernel_rfl
theorem aO:iT Tryz.prog 118=some 1:=by kernel_rfl
theorem ji:iT Tryz.prog 2=some 1:=by kernel_rfl
theorem rN:iT Tryz.prog 22=some 1:=by kernel_rfl
theorem rj:iT Tryz.prog 23=some 1:=by kernel_rfl
theorem CN:iT Tryz.prog 25=some 3:=by kernel_rfl
theorem zE:iT Tryz.prog 3=some 1:=by kernel_rfl
theorem di:iT Tryz.prog 35=some 1:=by kernel_rfl
theorem cC:iT Tryz.prog 4=some 1:=by kernel_rfl
theorem BE:iT Tryz.prog 5=some 1:=by kernel_rfl
theorem cb:iT Tryz.prog 51=some 1:=by kernel_rfl
theorem aF:iT Tryz.prog 53=some 2:=by kernel_rfl
theorem cj:iT Tryz.prog 91=some 1:=by kernel_rfl
theorem cp:gV Tryz.prog 118=some [(.int .u32 0)]:=by kernel_rfl
theorem tJ:gV Tryz.prog 2=some [(.int .i64 0)]:=by kernel_rfl
theorem qy:gV Tryz.prog 35=some [(.slice none 0 0)]:=by kernel_rfl
theorem qJ:gV Tryz.prog 45=some [(.slice none 0 0),(.int .i64 0)]:=by kernel_rfl
theorem aZ:gV Tryz.prog 53=some [(.bool false),(.slice none 0 0)]:=by kernel_rfl
theorem j5:gV Tryz.prog 91=some [(.slice none 0 0)]:=by kernel_rfl
theorem bU:Tryz.prog.follows .mixedOrders=true:=by kernel_rfl
end Go.Proofs.YtpgghglbpcabkaaGreat
