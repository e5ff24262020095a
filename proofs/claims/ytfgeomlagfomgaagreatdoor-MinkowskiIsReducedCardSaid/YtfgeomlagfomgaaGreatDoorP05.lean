/-
  Part 6 of a proof (walks and plain facts).
-/
import Derived.Test.YtfgeomlagfomgaaGreatDoorP04
import Derived.StillTailTactics
import Derived.Sort.Grow
import Derived.Deep.DeepFit
set_option linter.all false
set_option maxRecDepth 100000
set_option maxHeartbeats 64000000
open Nat renaming reduceAdd → aa
open Go.Value renaming oneCell' → ab
open Option renaming map_some → am
open List renaming all_eq_true → aq
open List renaming mem_map → au
open List renaming getElem?_eq_getElem → aD
open List renaming mem_of_getElem? → aE
open List renaming getElem?_map → aH
namespace Go.Proofs.YtfgeomlagfomgaaGreatDoor
open Go.RowKit
section
def Hm:List (Nat×List OObj)->OH
 |[],_=>[]
 |(k,F)::l,a=>if a=k then F else Hm l a
def Jy (H:OH):List (Nat×List OObj)->Prop
 |[]=>True
 |(k,F)::l=>H k=F/\Jy H l
def b8 (ks:List Nat):AV->Bool
 | .sl a _ _ _=>ks.contains a
 | .ptr a _ _ _=>ks.contains a
 |_=>true
def b9 (ks:List Nat):TV->Bool
 | .one x=>b8 ks x
 | .agg cs=>cs.all (b8 ks)
 | .fn _ cs=>cs.all (b8 ks)
 | .tup ts=>ts.all fun t=>t.2.all (b8 ks)
def di (ks:List Nat):List TV->List TV->Prop
 |[],[]=>True
 |x::xs,y::ys=>(y= .one .junk\/(y=x/\b9 ks y=true))/\di ks xs ys
 |_,_=>False
section
variable {P:Program} {w0 w w':World} {O X:Nat->Prop} {ρ:Rho} {H:OH}
theorem Ao {H:OH}: ∀{l:List (Nat×List OObj)},Jy H l-> ∀a,((l.map (·.1)).contains a=true->Hm l a=H a)/\((l.map (·.1)).contains a=false->Hm l a=[])
 |[],_,a=>⟨fun h=>by simp at h,fun _=>rfl⟩
 |(k,F)::l,h,a=>by
  obtain⟨h1,h2⟩:=h
  obtain⟨g1,g2⟩:=Ao h2 a
  by_cases ha:a=k
  ·subst ha
   exact⟨fun _=>by simp[Hm,h1],fun h=>by simp at h⟩
  refine⟨fun h=>?_,fun h=>?_⟩
  ·simp only[Hm,ha,if_false]
   apply g1
   simpa[ha] using h
  simp only[Hm,ha,if_false]
  apply g2
  simpa[ha] using h
theorem BT {ks:List Nat}: ∀{l m:List TV},di ks l m->m.length=l.length/\ ∀(t:Nat) y,m[t]?=some y->y= .one .junk\/(l[t]?=some y/\b9 ks y=true)
 |[],[],_=>⟨rfl,fun t y h=>by simp at h⟩
 |x::xs,y::ys,h=>by
  obtain⟨h1,h2⟩:=h
  obtain⟨g1,g2⟩:=BT h2
  refine⟨by simp[g1],fun t z hz=>?_⟩
  cases t with
  |succ t=>simp at hz⊢;exact g2 t z hz
  |zero=>
   simp at hz
   subst hz
   rcases h1 with h1|⟨h1,h3⟩
   ·exact .inl h1
   exact .inr ⟨by simp[h1],h3⟩
 |[],y::ys,h=>h.elim
 |x::xs,[],h=>h.elim
theorem IP {H':OH} {Y Y':Nat->Prop} {ks:List Nat} (hk: ∀a,ks.contains a=true->H' a=H a) (hY: ∀b,Y' b->Y b) {x:AV} {v:Value} (ho:b8 ks x=true) (h:x.rel ρ H Y w v):x.rel ρ H' Y' w v:=by
 cases x with
 |p x=>exact ee.weaken (fun b _ hb=>hY b hb) h
 |sl a r off len=>
  obtain⟨o,h1,h2⟩:=h
  exact⟨o,by rw[hk a ho];exact h1,h2⟩
 |ptr a r i j=>
  obtain⟨o,b,c,h1,h2⟩:=h
  exact⟨o,b,c,by rw[hk a ho];exact h1,h2⟩
 |junk=>trivial
theorem aT {s:AS} {tm:List TV} {l:List (Nat×List OObj)} (hl:Jy s.H l) (ht:di (l.map (·.1)) s.tmps tm):eg s ⟨tm,Hm l⟩:=by
 rintro w0 O X a w ⟨h1,hsz,ρ,hinv,htm⟩
 obtain⟨t1,t2⟩:=BT ht
 have hk:=fun a=>Ao hl a
 have live: ∀(a r:Nat) o,(Hm l a)[r]?=some o->(l.map (·.1)).contains a=true/\(s.H a)[r]?=some o:=fun a r o ho=>by
  cases hc:(l.map (·.1)).contains a with
  |false=>rw[(hk a).2 hc]at ho;simp at ho
  |true=>rw[(hk a).1 hc]at ho;exact⟨rfl,ho⟩
 have hXo: ∀b,Xo X ρ (Hm l) b->Xo X ρ s.H b:=fun b hb=>by
  rcases hb with hb|⟨x,y,o,n,g1,g2⟩
  ·exact .inl hb
  exact .inr ⟨x,y,o,n,(live x y o g1).2,g2⟩
 have hmap: ∀x v,b8 (l.map (·.1)) x=true->AV.rel ρ s.H (Xo X ρ s.H) w x v->AV.rel ρ (Hm l) (Xo X ρ (Hm l)) w x v:=fun x v ho h=>IP (fun a ha=>(hk a).1 ha) hXo ho h
 have hagg: ∀cs v,cs.all (b8 (l.map (·.1)))=true->dL ρ s.H (Xo X ρ s.H) w cs v->dL ρ (Hm l) (Xo X ρ (Hm l)) w cs v:=fun cs v ho h=>by
  simp only[aq]at ho
  obtain⟨vs,g1,g2,g3⟩:=h
  exact⟨vs,g1,g2,fun j x hx=>by obtain⟨u,u1,u2,u3⟩:=g3 j x hx;exact⟨u,u1,u2,hmap x u (ho x (aE hx)) u3⟩⟩
 refine⟨h1,by simp only;omega,ρ,⟨hinv.keep,fun a r o ho=>?_,fun a r a' r' o o' b c c' ho ho'=>hinv.inj a r a' r' o o' b c c' (live a r o ho).2 (live a' r' o' ho').2,fun a r o b c ho=>hinv.old a r o b c (live a r o ho).2,hinv.bar,fun a r o ho=>hinv.self a r o (live a r o ho).2⟩,fun t x hx=>?_⟩
 ·obtain⟨hc,ho'⟩:=live a r o ho
  obtain⟨q1,q2,q3⟩:=hinv.objs a r o ho'
  refine⟨q1,q2,?_⟩
  cases hr:ρ a r with
  |none=>rw[hr]at q3;exact q3
  |some bc=>
   obtain⟨b,c⟩:=bc
   rw[hr]at q3
   obtain⟨cells,p1,p2,p3,p4,p5⟩:=q3
   refine⟨cells,p1,p2,p3,p4,fun i e j x he hx=>?_⟩
   obtain⟨u,u1,u2,u3⟩:=p5 i e j x he hx
   have hs:=hinv.self a r o ho' e (aE he) x (aE hx)
   refine⟨u,u1,u2,hmap x u ?_ u3⟩
   cases x with
   |sl y _ _ _=>have hs:y=a:=hs;subst hs;exact hc
   |ptr y _ _ _=>have hs:y=a:=hs;subst hs;exact hc
   |p y=>rfl
   |junk=>rfl
 rcases t2 t x hx with rfl|⟨hx',hok⟩
 ·obtain⟨v,hv⟩: ∃v,a.tmps[t]?=some v:=by
   have:t<tm.length:=(List.getElem?_eq_some_iff.1 hx).1
   exact⟨_,Array.getElem?_eq_getElem (by omega)⟩
  exact⟨v,hv,trivial⟩
 obtain⟨v,v1,v2⟩:=htm t x hx'
 refine⟨v,v1,?_⟩
 cases x with
 |one x=>exact hmap x v hok v2
 |agg cs=>exact hagg cs v hok v2
 |fn f cs=>obtain⟨u,h1,h2⟩:=v2;exact⟨u,hagg cs u hok h1,h2⟩
 |tup ts=>
  simp only[b9,aq]at hok
  obtain⟨vs,g1,g2,g3⟩:=v2
  refine⟨vs,g1,g2,fun j b cs hj=>?_⟩
  obtain⟨u,u1,u2⟩:=g3 j b cs hj
  have hall:=hok (b,cs) (aE hj)
  refine⟨u,u1,?_⟩
  rcases u2 with⟨u2,u3⟩|⟨u2,y,rfl,u4⟩
  ·exact .inl ⟨u2,hagg cs u (by simpa only[aq] using hall) u3⟩
  exact .inr ⟨u2,y,rfl,hmap y u (hall y (by simp)) u4⟩
theorem iz {s:AS} {k d:Nat} (ty:TypeId) (es:Nat) (hes:0<es) (hd:s.H d=[]) (hk:s.tmps[k]?=some (.raw (.slice none 0 0))):eg s ⟨s.tmps.set k (.one (.sl d 0 0 0)),bD s.H d [⟨ty,es,[]⟩]⟩:=by
 rintro w0 O X a w ⟨h1,hsz,ρ,hinv,htm⟩
 have htm:dN X ρ s a w:=htm
 obtain⟨v,v1,v2⟩:=htm k _ hk
 have hv:=(dQ v2).1
 subst hv
 have hnew: ∀(r b c:Nat),(fun _=>none:Nat->Option (Nat×Nat)) r=some (b,c)->w.heap.size<=b:=fun r b c h=>by cases h
 have hmono: ∀x u,AV.rel ρ s.H (Xo X ρ s.H) w x u->AV.rel (newρ ρ d fun _=>none) (bD s.H d [⟨ty,es,[]⟩]) (Xo X (newρ ρ d fun _=>none) (bD s.H d [⟨ty,es,[]⟩])) w x u:=fun x u h=>mL hinv (Ext.refl w) hd hnew h
 refine⟨h1,by simpa using hsz,newρ ρ d fun _=>none,⟨hinv.keep,fun a' r o ho=>?_,fun a' r a'' r' o o' b c c' ho ho' hr hr'=>?_,fun a' r o b c ho hr=>?_,hinv.bar,fun a' r o ho=>?_⟩,fun t x hx=>?_⟩
 ·by_cases ha:a'=d
  ·subst ha
   simp only[dr]at ho
   cases r with
   |succ r=>simp at ho
   |zero=>simp at ho;subst ho;exact⟨by simp,hes,by rw[newρ_eq]⟩
  simp only[cz ha]at ho
  exact gX (hinv.objs a' r o ho) (newρ_ne ha r) (fun b c hb=>rfl) hmono
 ·by_cases ha:a'=d
  ·subst ha;rw[newρ_eq]at hr;cases hr
  by_cases ha':a''=d
  ·subst ha';rw[newρ_eq]at hr';cases hr'
  rw[newρ_ne ha]at hr
  rw[newρ_ne ha']at hr'
  simp only[cz ha]at ho
  simp only[cz ha']at ho'
  exact hinv.inj a' r a'' r' o o' b c c' ho ho' hr hr'
 ·by_cases ha:a'=d
  ·subst ha;rw[newρ_eq]at hr;cases hr
  rw[newρ_ne ha]at hr
  simp only[cz ha]at ho
  exact hinv.old a' r o b c ho hr
 ·by_cases ha:a'=d
  ·subst ha
   simp only[dr]at ho
   cases r with
   |succ r=>simp at ho
   |zero=>simp at ho;subst ho;exact fun e he=>by simp at he
  simp only[cz ha]at ho
  exact hinv.self a' r o ho
 by_cases hkt:k=t
 ·subst hkt
  simp only[List.getElem?_set,if_true]at hx
  split at hx
  ·injection hx with hx
   subst hx
   exact⟨_,v1,⟨ty,es,[]⟩,by show(bD s.H d [⟨ty,es,[]⟩] d)[0]?=_;rw[dr];rfl,by simp,.inl ⟨by rw[newρ_eq],rfl,rfl,rfl⟩⟩
  cases hx
 simp only[List.getElem?_set_ne hkt]at hx
 obtain⟨u,u1,u2⟩:=htm t x hx
 exact⟨u,u1,TV.rel_map u2 hmono⟩
theorem nw {Y Z:Nat->Prop} {a r off len:Nat} {o:OObj} {v:Value} {F:AV->PV} (hob:objRel ρ H Y w a r o) (ho:(H a)[r]?=some o) (hcell: ∀e∈o.elems,∀x∈e,∀u,x.rel ρ H Y w u->ee Z w (F x) u) (hZb: ∀b c,ρ a r=some (b,c)-> ¬Z b)
  (h:AV.rel ρ H Y w (.sl a r off len) v):ee Z w (.sl (((o.elems.take (off+len)).drop off).map (List.map F))) v:=by
 obtain⟨o',g1,g2,g3⟩:=h
 rw[ho]at g1
 injection g1 with g1
 subst g1
 obtain⟨q1,q2,q3⟩:=hob
 have hl:(((o.elems.take (off+len)).drop off).map (List.map F)).length=len:=by simp;omega
 rcases g3 with⟨gr,gv,gl,go⟩|⟨b,c,cap,gr,gv,hcap,_⟩
 ·rw[List.length_eq_zero_iff.1 (hl.trans gl),gv]
  exact ee.nil _ _
 by_cases hl0:len=0
 ·rw[List.length_eq_zero_iff.1 (hl.trans hl0),gv,hl0]
  exact ee.nil _ _
 rw[gr]at q3
 obtain⟨cells,p1,p2,p3,p4,p5⟩:=q3
 have hsub: ∀(i:Nat) e,(((o.elems.take (off+len)).drop off).map (List.map F))[i]?=some e-> ∃e',o.elems[off+i]?=some e'/\e=e'.map F:=fun i e he=>by
  rw[aH]at he
  obtain⟨e',he',rfl⟩:=Option.map_eq_some_iff.1 he
  rw[List.getElem?_drop,List.getElem?_take]at he'
  split at he'
  ·exact⟨e',he',rfl⟩
  cases he'
 have hcl: ∀(i:Nat) e (j:Nat) x,(((o.elems.take (off+len)).drop off).map (List.map F))[i]?=some e->e[j]?=some x-> ∃u:Value,cells[(off+i)*o.es+j]?=some u/\ee Z w x u:=fun i e j x he hx=>by
  obtain⟨e',he',rfl⟩:=hsub i e he
  rw[aH]at hx
  obtain⟨x',hx',rfl⟩:=Option.map_eq_some_iff.1 hx
  obtain⟨u,u1,u2,u3⟩:=p5 _ e' j x' he' hx'
  exact⟨u,u1,hcell e' (aE he') x' (aE hx') u u3⟩
 rw[gv]
 have:=ee.sl (X:=Z) (w:=w) b (off*o.es) o.es cap (((o.elems.take (off+len)).drop off).map (List.map F)) (fun i j=>(cells[(off+i)*o.es+j]?).getD undef) (hZb b c gr) (Array.getElem?_eq_some_iff.1 p1).1
  (fun e he=>by
   simp only[au]at he
   obtain⟨e',he',rfl⟩:=he
   rw[List.length_map]
   exact q1 e' (List.mem_of_mem_take (List.mem_of_mem_drop he'))) (by omega) (by omega)
  (fun i e j x he hx=>by
   obtain⟨u,u1,_⟩:=hcl i e j x he hx
   rw[cell_of_row _ b _ cells o.ty (0,0) p1,<- Nat.add_mul,u1]
   rfl)
  (fun i e j x he hx=>by
   obtain⟨u,u1,u2⟩:=hcl i e j x he hx
   simp only[u1,Option.getD_some];exact u2)
 rw[hl]at this
 exact this
def kn (H:OH) (a:Nat):AV->PV
 | .p x=>x
 | .sl _ r off len=>match(H a)[r]? with
  |some o=> .sl (((o.elems.take (off+len)).drop off).map (List.map lI))
  |none=> .raw undef
 |_=> .raw undef
def gh (H:OH) (a:Nat):AV->AV
 | .sl b r off len=>if b=a then(match(H a)[r]? with
  |some o=> .p (.sl (((o.elems.take (off+len)).drop off).map (List.map (kn H a))))
  |none=> .junk)else .sl b r off len
 | .ptr b r i j=>if b=a then .junk else .ptr b r i j
 |x=>x
def gT (H:OH) (a:Nat):TV->TV
 | .one x=> .one (gh H a x)
 | .agg cs=> .agg (cs.map (gh H a))
 | .fn f cs=> .fn f (cs.map (gh H a))
 | .tup ts=> .tup (ts.map fun t=>(t.1,t.2.map (gh H a)))
def pc (o:OObj):Prop:= ∀e∈o.elems,∀x∈e,isPure x=true
def tn (H:OH) (a:Nat):Prop:= ∀(r:Nat) o,(H a)[r]?=some o-> ∀e∈o.elems,∀x∈e,isPure x=true\/ ∃r' off len o',x= .sl a r' off len/\(H a)[r']?=some o'/\pc o'
theorem fp {s:AS} (a:Nat) (hok:tn s.H a):eg s ⟨s.tmps.map (gT s.H a),bD s.H a []⟩:=by
 rintro w0 O X act w ⟨h1,hsz,ρ,hinv,htm⟩
 have htm:dN X ρ s act w:=htm
 have hna: ∀(x y:Nat) o,(bD s.H a [] x)[y]?=some o->x≠a/\(s.H x)[y]?=some o:=fun x y o ho=>by
  by_cases hx:x=a
  ·subst hx;rw[dr]at ho;simp at ho
  rw[cz hx]at ho;exact⟨hx,ho⟩
 have hXo: ∀b,Xo X ρ (bD s.H a []) b->Xo X ρ s.H b:=fun b hb=>by
  rcases hb with hb|⟨x,y,o,n,g1,g2⟩
  ·exact .inl hb
  exact .inr ⟨x,y,o,n,(hna x y o g1).2,g2⟩
 have hZb: ∀(r:Nat) o,(s.H a)[r]?=some o-> ∀b c,ρ a r=some (b,c)-> ¬Xo X ρ (bD s.H a []) b:=fun r o ho b c hr hX=>by
  rcases hX with hX|⟨x,y,o',n,g1,g2⟩
  ·exact(hinv.old a r o b c ho hr).2 hX
  obtain⟨hx,g1'⟩:=hna x y o' g1
  exact hx (hinv.inj x y a r o' o b n c g1' ho g2 hr).1
 have hpure: ∀x u,isPure x=true->AV.rel ρ s.H (Xo X ρ s.H) w x u->ee (Xo X ρ (bD s.H a [])) w (lI x) u:=fun x u hp h=>by
  cases x<;>first|exact ee.weaken (fun b _ hb=>hXo b hb) h|cases hp
 have hcell: ∀(r:Nat) o,(s.H a)[r]?=some o-> ∀e∈o.elems,∀x∈e,∀u,AV.rel ρ s.H (Xo X ρ s.H) w x u->ee (Xo X ρ (bD s.H a [])) w (kn s.H a x) u:=fun r o ho e he x hx u hu=>by
  rcases hok r o ho e he x hx with hp|⟨r',off,len,o',rfl,ho',hpr⟩
  ·have:=hpure x u hp hu
   cases x<;>first|exact this|cases hp
  simp only[kn,ho']
  exact nw (hinv.objs a r' o' ho') ho' (fun e he y hy u hu=>hpure y u (hpr e he y hy) hu) (hZb r' o' ho') hu
 have hmap: ∀x v,AV.rel ρ s.H (Xo X ρ s.H) w x v->AV.rel ρ (bD s.H a []) (Xo X ρ (bD s.H a [])) w (gh s.H a x) v:=fun x v h=>by
  cases x with
  |p x=>exact ee.weaken (fun b _ hb=>hXo b hb) h
  |sl b r off len=>
   simp only[gh]
   by_cases hb:b=a
   ·subst hb
    rw[if_pos rfl]
    have h':=h
    obtain⟨o,g1,g2,g3⟩:=h
    rw[g1]
    exact nw (hinv.objs b r o g1) g1 (hcell r o g1) (hZb r o g1) h'
   rw[if_neg hb]
   obtain⟨o,g1,g2⟩:=h
   exact⟨o,by rw[cz hb];exact g1,g2⟩
  |ptr b r i j=>
   simp only[gh]
   by_cases hb:b=a
   ·subst hb;rw[if_pos rfl];trivial
   rw[if_neg hb]
   obtain⟨o,b',c,g1,g2⟩:=h
   exact⟨o,b',c,by rw[cz hb];exact g1,g2⟩
  |junk=>trivial
 have hagg: ∀cs v,dL ρ s.H (Xo X ρ s.H) w cs v->dL ρ (bD s.H a []) (Xo X ρ (bD s.H a [])) w (cs.map (gh s.H a)) v:=fun cs v h=>by
  obtain⟨vs,g1,g2,g3⟩:=h
  refine⟨vs,g1,by simpa using g2,fun j x hx=>?_⟩
  rw[aH]at hx
  obtain⟨y,hy,rfl⟩:=Option.map_eq_some_iff.1 hx
  obtain⟨u,u1,u2,u3⟩:=g3 j y hy
  exact⟨u,u1,u2,hmap y u u3⟩
 refine⟨h1,by simpa using hsz,ρ,⟨hinv.keep,fun x y o ho=>?_,fun x y x' y' o o' b c c' ho ho'=>hinv.inj x y x' y' o o' b c c' (hna x y o ho).2 (hna x' y' o' ho').2,fun x y o b c ho=>hinv.old x y o b c (hna x y o ho).2,hinv.bar,fun x y o ho=>hinv.self x y o (hna x y o ho).2⟩,fun t x hx=>?_⟩
 ·obtain⟨hx,ho'⟩:=hna x y o ho
  obtain⟨q1,q2,q3⟩:=hinv.objs x y o ho'
  refine⟨q1,q2,?_⟩
  cases hr:ρ x y with
  |none=>rw[hr]at q3;exact q3
  |some bc=>
   obtain⟨b,c⟩:=bc
   rw[hr]at q3
   obtain⟨cells,p1,p2,p3,p4,p5⟩:=q3
   refine⟨cells,p1,p2,p3,p4,fun i e j z he hz=>?_⟩
   obtain⟨u,u1,u2,u3⟩:=p5 i e j z he hz
   have hs:=hinv.self x y o ho' e (aE he) z (aE hz)
   have:=hmap z u u3
   refine⟨u,u1,u2,?_⟩
   cases z with
   |sl z _ _ _=>have hs:z=x:=hs;subst hs;simpa[gh,hx] using this
   |ptr z _ _ _=>have hs:z=x:=hs;subst hs;simpa[gh,hx] using this
   |p z=>exact this
   |junk=>trivial
 simp only[aH]at hx
 obtain⟨y,hy,rfl⟩:=Option.map_eq_some_iff.1 hx
 obtain⟨v,v1,v2⟩:=htm t y hy
 refine⟨v,v1,?_⟩
 cases y with
 |one x=>exact hmap x v v2
 |agg cs=>exact hagg cs v v2
 |fn f cs=>obtain⟨u,h1,h2⟩:=v2;exact⟨u,hagg cs u h1,h2⟩
 |tup ts=>
  obtain⟨vs,g1,g2,g3⟩:=v2
  refine⟨vs,g1,by simpa using g2,fun j b cs hj=>?_⟩
  rw[aH]at hj
  obtain⟨z,hz,hzz⟩:=Option.map_eq_some_iff.1 hj
  obtain⟨b',cs'⟩:=z
  simp at hzz
  obtain⟨rfl,rfl⟩:=hzz
  obtain⟨u,u1,u2⟩:=g3 j b' cs' hz
  refine⟨u,u1,?_⟩
  rcases u2 with⟨u2,u3⟩|⟨u2,q,rfl,u4⟩
  ·exact .inl ⟨u2,hagg _ _ u3⟩
  exact .inr ⟨u2,_,rfl,hmap q u u4⟩
end
end
section
section
variable {P:Program} {s:AS} {Q:Exit->AS->Prop} {x y z:Code}
theorem DG (items:List (bj P)) (ow:List Nat) {id:Nat} {ops:Array Oper} (hl:s.tmps.length<=1000000) (h: ∀K:AS->Prop,(∀s',da P y Q s'->K s')->fd P (items.map bj.a) ow (dZ ops ops.toList 0) (some s) K):da P (.seq (.region id ops false) y) Q s:=
 aP (m6 items ow hl (h _ fun _ h=>h))
theorem aL {P:Program} {s:AS} {Q:Exit->AS->Prop} {y:Code} (items:List (bj P)) {id:Nat} {ops:Array Oper} (h: ∀K:AS->Prop,(∀s',da P y Q s'->K s')->fd P (items.map bj.a) [] (dZ ops ops.toList 0) (some s) K) (hl:s.tmps.length<=1000000:=by simp):da P (.seq (.region id ops false) y) Q s:=DG items [] hl h
theorem bK (items:List (bj P)) (ow:List Nat) {id:Nat} {ops:Array Oper} (hl:s.tmps.length<=1000000) (h: ∀K:AS->Prop,(∀s',Q .normal s'->K s')->fd P (items.map bj.a) ow (dZ ops ops.toList 0) (some s) K):da P (.region id ops false) Q s:=
 m6 items ow hl (h _ fun _ h=>h)
theorem GL {G:Type} (St:G->AS) (μ:G->Nat) (g0:G) {id:Nat} (h0:eg s (St g0))
  (round: ∀g,da P x (mq (fun s'=> ∃g',μ g'<μ g/\eg s' (St g')) (nX id (mq (da P y Q) Q))) (St g)):da P (.seq (.block id (.loop x)) y) Q s:=
 aP (bA (wI St μ g0 h0 round))
theorem cC {G:Type} (St:G->AS) (μ:G->Nat) (g0:G) {id:Nat} (h0:eg s (St g0))
  (round: ∀g,da P x (mq (fun s'=> ∃g',μ g'<μ g/\eg s' (St g')) (nX id Q)) (St g)):da P (.block id (.loop x)) Q s:=
 bA (wI St μ g0 h0 round)
theorem cd {n:Int} (h1: -9223372036854775808<=n) (h2:n<=9223372036854775807):IntKind.i64.wrap n=n:=IntWalk.i64_in _ (by omega)
theorem eG {n:Int} (h1:0<=n) (h2:n<18446744073709551616):IntKind.u64.wrap n=n:=by rw[IntKind.wrap_u64];omega
theorem BU {n:Int} (h1:0<=n) (h2:n<4294967296):IntKind.u32.wrap n=n:=by rw[IntKind.wrap_u32];omega
end
end
section
def ls {α:Type} (f:α->List PV) (l:List α):List (List PV):=l.map f
def lc {α:Type} (f:α->List PV) (l:List α):List (List AV):=l.map fun x=>(f x).map AV.p
section
variable {α:Type} {f:α->List PV}
theorem bE (l:List α):(ls f l).length=l.length:=by simp[ls]
theorem gE (l:List α):(lc f l).length=l.length:=by simp[lc]
theorem ch (l:List α) (i:Nat):(ls f l)[i]?=(l[i]?).map f:=by simp[ls]
theorem dp (l:List α) (i:Nat):(lc f l)[i]?=(l[i]?).map fun x=>(f x).map AV.p:=by simp[lc]
theorem Bb (l:List α) (i:Nat):(ls f l).take i=ls f (l.take i):=by simp[ls]
theorem eB (l:List α) (i:Nat):(lc f l).take i=lc f (l.take i):=by simp[lc]
theorem vO (l:List α) (i:Nat):(lc f l).drop i=lc f (l.drop i):=by simp[lc]
theorem J7 (l:List α):(ls f l).map (List.map AV.p)=lc f l:=by simp[ls,lc]
theorem HJ (l:List PV):(l.map AV.p).map lI=l:=by rw[List.map_map];exact(List.map_congr_left (fun _ _=>rfl)).trans (List.map_id l)
theorem kq (l:List α):(lc f l).map (List.map lI)=ls f l:=by
 simp only[ls,lc,List.map_map]
 exact List.map_congr_left fun x _=>HJ (f x)
theorem eZ (H:OH) (a:Nat) (l:List α):(lc f l).map (List.map (kn H a))=ls f l:=by
 simp only[ls,lc,List.map_map]
 refine List.map_congr_left fun x _=>?_
 show((f x).map AV.p).map (kn H a)=f x
 rw[List.map_map];exact(List.map_congr_left (fun _ _=>rfl)).trans (List.map_id _)
theorem eW (l:List α):((lc f l).all fun e=>e.all isPure)=true:=by
 simp[lc,isPure]
theorem Ba (x:α) (l:List α):ls f (x::l)=f x::ls f l:=rfl
theorem jX:ls f []=[]:=rfl
theorem vP (l:List α) (i:Nat) (x:α):(lc f l).set i ((f x).map AV.p)=lc f (l.set i x):=by simp[lc,List.map_set]
theorem zz {n:Nat} (hf: ∀x,(f x).length=n) (l:List α):(∀c∈ls f l,c.length=n)=True:=by
 simp only[eq_iff_iff,iff_true]
 intro c hc
 obtain⟨x,_,rfl⟩:=List.mem_map.1 hc
 exact hf x
theorem J6 {n:Nat} (hf: ∀x,(f x).length=n) (l:List α):(∀c∈lc f l,c.length=n)=True:=by
 simp only[eq_iff_iff,iff_true]
 intro c hc
 obtain⟨x,_,rfl⟩:=List.mem_map.1 hc
 rw[List.length_map];exact hf x
theorem f4 (k:Nat->Nat->Bool) (l:List α):(lc f l).map (List.map (bx k))=lc f l:=by
 simp only[lc,List.map_map]
 refine List.map_congr_left fun x _=>?_
 show((f x).map AV.p).map (bx k)=_
 rw[List.map_map];exact List.map_congr_left (fun _ _=>rfl)
theorem pR (d:Nat) (l:List α):(lc f l).map (List.map (bM d))=lc f l:=by
 simp only[lc,List.map_map]
 refine List.map_congr_left fun x _=>?_
 show((f x).map AV.p).map (bM d)=_
 rw[List.map_map];exact List.map_congr_left (fun _ _=>rfl)
theorem aW {z:Int} (h:0<=z):uv z=some z.toNat:=if_pos h
theorem gu (t:TypeId) (n:Nat) (l:List α):pc ⟨t,n,lc f l⟩:=fun e he x hx=>by
 obtain⟨y,_,rfl⟩:=List.mem_map.1 he
 obtain⟨z,_,rfl⟩:=List.mem_map.1 hx
 rfl
theorem eE {H:OH} {a:Nat} {t:TypeId} {n:Nat} {l:List α} (h:H a=[⟨t,n,lc f l⟩]):tn H a:=fun r o ho e he x hx=>by
 rw[h]at ho
 cases r with
 |succ r=>simp at ho
 |zero=>simp at ho;subst ho;exact .inl (gu t n l e he x hx)
end
theorem gI {β:Type} (p:β->Prop):(∀e∈([]:List β),p e)=True:=by simp
theorem fW {β:Type} (p:β->Prop) (x:β) (l:List β):(∀e∈x::l,p e)=(p x/\ ∀e∈l,p e):=by simp
theorem cQ {c:Prop} [Decidable c] (h:c) {β:Type} (a b:β):(if c then a else b)=a:=if_pos h
theorem d4 {c:Prop} [Decidable c] (h: ¬c) {β:Type} (a b:β):(if c then a else b)=b:=if_neg h
theorem cw {c:Prop} [Decidable c] (h:c):decide c=true:=decide_eq_true h
theorem cp {c:Prop} [Decidable c] (h: ¬c):decide c=false:=decide_eq_false h
def fU (n:Nat):List PV:=[.raw (.int .u32 (n:Int))]
theorem vC (n:Nat):(fU n).length=1:=rfl
def fI (z:Int):List PV:=[.raw (.int .i64 z)]
def fN (z:Nat):List PV:=[.raw (.int .i64 (z:Int))]
theorem sh {d:Nat} {t:TV} (h:noRefTV t=true):j7 d t/\bQ 0 t=t:=by
 have av: ∀x,bf x=true->fP d x/\bM 0 x=x:=fun x hx=>by cases x<;>first|exact⟨trivial,rfl⟩|cases hx
 cases t with
 |one x=>exact⟨(av x h).1,by simp only[bQ,(av x h).2]⟩
 |agg cs=>
  simp only[noRefTV,aq]at h
  exact⟨fun x hx=>(av x (h x hx)).1,by simp only[bQ];congr 1;exact(List.map_congr_left fun x hx=>(av x (h x hx)).2).trans (List.map_id _)⟩
 |fn f cs=>
  simp only[noRefTV,aq]at h
  exact⟨fun x hx=>(av x (h x hx)).1,by simp only[bQ];congr 1;exact(List.map_congr_left fun x hx=>(av x (h x hx)).2).trans (List.map_id _)⟩
 |tup ts=>
  simp only[noRefTV,aq]at h
  refine⟨fun t ht x hx=>(av x (h t ht x hx)).1,?_⟩
  simp only[bQ]
  congr 1
  refine(List.map_congr_left fun t ht=>?_).trans (List.map_id _)
  show(t.1,t.2.map (bM 0))=t
  rw[(List.map_congr_left fun x hx=>(av x (h t ht x hx)).2).trans (List.map_id t.2)]
theorem jp (l:List Nat) (a:Nat):lc fU l++[[AV.p (.raw (.int .u32 (a:Int)))]]=lc fU (l++[a]):=by simp[lc,fU]
theorem EH (l:List Int) (a:Int):lc fI l++[[AV.p (.raw (.int .i64 a))]]=lc fI (l++[a]):=by simp[lc,fI]
theorem xy (l:List Nat) (a:Nat):lc fN l++[[AV.p (.raw (.int .i64 (a:Int)))]]=lc fN (l++[a]):=by simp[lc,fN]
theorem pn {P:Program} {fn:Func} {s:AS} {r:TV} {d:Nat} (hd:s.H d=[]) (h:cH P s fn.results.toList=some r) (hp:noRefTV r=true):nH P fn ⟨[],r⟩ s:=
 ⟨r,d,h,Df (sh hp).1 hd,by rw[hd];rfl,(sh (d:=0) hp).2.symm⟩
theorem kQ {P:Program} {fn:Func} {s:AS} {r:TV} (d:Nat) (hok:tn s.H d) (h:cH P ⟨s.tmps.map (gT s.H d),bD s.H d []⟩ fn.results.toList=some r) (hp:noRefTV r=true): ∃s',eg s s'/\nH P fn ⟨[],r⟩ s':=
 ⟨_,fp d hok,pn (d:=d) (by simp[bD]) h hp⟩
theorem bF {P:Program} {fn:Func} {s:AS} {r:TV} (hd:s.H 1000=[]) (h:cH P s fn.results.toList=some r) (hp:noRefTV r=true): ∃s',eg s s'/\nH P fn ⟨[],r⟩ s':=
 ⟨_,eg.refl _,pn hd h hp⟩
end
theorem yq:vi Tryz.prog 62=some 4:=by kernel_rfl
theorem et:nG Tryz.prog 2=some false:=by kernel_rfl
theorem jv:nG Tryz.prog 22=some false:=by kernel_rfl
theorem yr:nG Tryz.prog 23=some false:=by kernel_rfl
theorem dc:nG Tryz.prog 27=some false:=by kernel_rfl
theorem BM:nG Tryz.prog 3=some false:=by kernel_rfl
theorem d6:nG Tryz.prog 4=some false:=by kernel_rfl
theorem dG:nG Tryz.prog 40=some false:=by kernel_rfl
theorem cf:nG Tryz.prog 42=some true:=by kernel_rfl
theorem m0:nG Tryz.prog 46=some false:=by kernel_rfl
theorem gO:nG Tryz.prog 62=some true:=by kernel_rfl
theorem cW:nG Tryz.prog 79=some false:=by kernel_rfl
theorem dD:nG Tryz.prog 84=some false:=by kernel_rfl
theorem Dl:jV Tryz.prog 138=some (4,3):=by kernel_rfl
theorem yu:jV Tryz.prog 24=some (4,23):=by kernel_rfl
theorem yv:jV Tryz.prog 25=some (4,24):=by kernel_rfl
theorem lH:jV Tryz.prog 62=some (4,2):=by kernel_rfl
theorem s8:rp Tryz.prog 3=false:=by kernel_rfl
theorem fV:rp Tryz.prog 4=true:=by kernel_rfl
theorem ou:Ds Tryz.prog 2=some 8:=by kernel_rfl
theorem qZ:Ds Tryz.prog 27=some 24:=by kernel_rfl
theorem Gk:Ds Tryz.prog 3=some 8:=by kernel_rfl
theorem kC:Ds Tryz.prog 42=some 32:=by kernel_rfl
theorem IT:Ds Tryz.prog 46=some 24:=by kernel_rfl
theorem gn:Ds Tryz.prog 79=some 4:=by kernel_rfl
theorem nF:Ds Tryz.prog 84=some 24:=by kernel_rfl
theorem dv:pM Tryz.prog 42 0=some (0,4):=by kernel_rfl
theorem df:pM Tryz.prog 42 1=some (1,40):=by kernel_rfl
theorem BN:tz Tryz.prog 2=some .i64:=by kernel_rfl
theorem IU:tz Tryz.prog 3=some .i64:=by kernel_rfl
theorem IV:tz Tryz.prog 5=some .u8:=by kernel_rfl
theorem dn:tz Tryz.prog 78=some .u64:=by kernel_rfl
theorem dI:tz Tryz.prog 79=some .u32:=by kernel_rfl
theorem Dm:eQ Tryz.prog 138=none:=by kernel_rfl
theorem yw:eQ Tryz.prog 24=none:=by kernel_rfl
theorem yx:eQ Tryz.prog 25=none:=by kernel_rfl
theorem jw:eQ Tryz.prog 62=none:=by kernel_rfl
theorem jx:qP Tryz.prog 42=some [(0,1),(1,1)]:=by kernel_rfl
theorem Gl:qP Tryz.prog 62=some []:=by kernel_rfl
theorem m4:eQ Tryz.prog 135=some 46:=by kernel_rfl
theorem iK:eQ Tryz.prog 153=some 3:=by kernel_rfl
theorem bv:eQ Tryz.prog 22=some 27:=by kernel_rfl
theorem ca:eQ Tryz.prog 27=some 2:=by kernel_rfl
theorem aV:eQ Tryz.prog 40=some 79:=by kernel_rfl
theorem cb:eQ Tryz.prog 46=some 84:=by kernel_rfl
theorem cE:eQ Tryz.prog 84=some 42:=by kernel_rfl
theorem dJ:kh Tryz.prog 2=some 1:=by kernel_rfl
theorem kD:kh Tryz.prog 22=some 1:=by kernel_rfl
theorem BO:kh Tryz.prog 23=some 1:=by kernel_rfl
theorem BP:kh Tryz.prog 24=some 4:=by kernel_rfl
theorem db:kh Tryz.prog 27=some 1:=by kernel_rfl
theorem s9:kh Tryz.prog 3=some 1:=by kernel_rfl
theorem eI:kh Tryz.prog 4=some 1:=by kernel_rfl
theorem dU:kh Tryz.prog 40=some 1:=by kernel_rfl
theorem bS:kh Tryz.prog 42=some 2:=by kernel_rfl
theorem mj:kh Tryz.prog 46=some 1:=by kernel_rfl
theorem fF:kh Tryz.prog 62=some 4:=by kernel_rfl
theorem cg:kh Tryz.prog 79=some 1:=by kernel_rfl
theorem dy:kh Tryz.prog 84=some 1:=by kernel_rfl
theorem iT:jy Tryz.prog 2=some [(.int .i64 0)]:=by kernel_rfl
theorem jP:jy Tryz.prog 27=some [(.slice none 0 0)]:=by kernel_rfl
theorem yy:jy Tryz.prog 3=some [(.int .i64 0)]:=by kernel_rfl
theorem cx:jy Tryz.prog 42=some [(.bool false),(.slice none 0 0)]:=by kernel_rfl
theorem uW:jy Tryz.prog 46=some [(.slice none 0 0)]:=by kernel_rfl
theorem fJ:jy Tryz.prog 62=some [(.int .i64 0),(.int .i64 0),(.int .i64 0),(.int .i64 0)]:=by kernel_rfl
theorem ea:jy Tryz.prog 79=some [(.int .u32 0)]:=by kernel_rfl
theorem jQ:jy Tryz.prog 84=some [(.slice none 0 0)]:=by kernel_rfl
theorem cJ:Tryz.prog.follows .mixedOrders=true:=by kernel_rfl
def natV:List Nat->Nat
 |[]=>0
 |a::l=>a+4294967296*natV l
def Lmb (l:List Nat):Prop:= ∀a∈l,a<4294967296
def nN (l:List Nat):Prop:=l.getLast?≠some 0
def fE:List Nat->List Nat
 |[]=>[]
 |a::l=>match fE l with
  |[]=>if a=0 then[]else[a]
  |b::m=>a::b::m
theorem jr (x y:List Nat):natV (x++y)=natV x+4294967296^x.length*natV y:=by
 induction x with
 |nil=>simp[natV]
 |cons a l ih=>simp[natV,ih,Nat.pow_succ,Nat.mul_add,Nat.mul_assoc,Nat.add_assoc,Nat.mul_comm]
theorem ik {l:List Nat} (h:Lmb l):natV l<4294967296^l.length:=by
 induction l with
 |nil=>simp[natV]
 |cons a l ih=>
  have ha:=h a List.mem_cons_self
  have:=ih (fun b hb=>h b (List.mem_cons_of_mem _ hb))
  rw[List.length_cons,Nat.pow_succ,natV]
  have h2:4294967296*(natV l+1)<=4294967296*4294967296^l.length:=Nat.mul_le_mul_left _ this
  rw[Nat.mul_comm (4294967296^l.length)]
  omega
theorem CV (l:List Nat):natV (fE l)=natV l:=by
 induction l with
 |nil=>rfl
 |cons a l ih=>
  unfold fE
  split
  ·rename_i h
   rw[h]at ih
   simp[natV]at ih
   split
   ·rename_i h0;simp[natV,<- ih,h0]
   simp[natV,<- ih]
  rename_i b m h
  rw[h]at ih
  simp[natV,<- ih]
theorem Gh (l:List Nat):nN (fE l):=by
 induction l with
 |nil=>simp[nN,fE]
 |cons a l ih=>
  unfold fE
  split
  ·split
   ·simp[nN]
   rename_i h0;simp[nN,h0]
  rename_i b m h
  rw[h]at ih
  unfold nN at*
  rw[List.getLast?_cons_cons];exact ih
theorem Gi (l:List Nat):(fE l).length<=l.length:=by
 induction l with
 |nil=>simp[fE]
 |cons a l ih=>
  unfold fE
  split
  ·split<;>simp
  rename_i b m h;rw[h]at ih;simp at ih⊢;omega
theorem oL {a:Nat} {l:List Nat} (h:nN (a::l)):nN l:=by
 cases l with
 |nil=>simp[nN]
 |cons b m=>unfold nN at*;rw[List.getLast?_cons_cons]at h;exact h
theorem qC {l:List Nat} (h:nN l):fE l=l:=by
 induction l with
 |nil=>rfl
 |cons a l ih=>
  have e:=ih (oL h)
  unfold fE
  rw[e]
  cases l with
  |nil=>simp[nN]at h;simp[h]
  |cons b m=>rfl
theorem mZ (l:List Nat):fE (l++[0])=fE l:=by
 induction l with
 |nil=>simp[fE]
 |cons a l ih=>rw[List.cons_append,fE,ih];rfl
theorem uU {l:List Nat} {a:Nat} (h:a≠0):fE (l++[a])=l++[a]:=qC (by simp[nN,h])
theorem Gj {l:List Nat} (h:Lmb l):Lmb (fE l):=by
 induction l with
 |nil=>exact h
 |cons a l ih=>
  have ih:=ih (fun b hb=>h b (List.mem_cons_of_mem _ hb))
  unfold fE
  split
  ·split
   ·intro b hb;simp at hb
   intro b hb;simp at hb;subst hb;exact h _ List.mem_cons_self
  rename_i b m hh
  rw[hh]at ih
  intro c hc
  rcases List.mem_cons.1 hc with rfl|hc
  ·exact h _ List.mem_cons_self
  exact ih c hc
theorem vo {l:List Nat} (h:nN l) (hne:l≠[]):4294967296^(l.length-1)<=natV l:=by
 induction l with
 |nil=>exact absurd rfl hne
 |cons a l ih=>
  cases l with
  |nil=>simp[nN]at h;simp[natV];omega
  |cons b m=>
   have:=ih (oL h) (by simp)
   simp only[List.length_cons,Nat.add_sub_cancel]at this⊢
   rw[natV,Nat.pow_succ,Nat.mul_comm (4294967296^m.length)]
   have h2:=Nat.mul_le_mul_left 4294967296 this
   omega
theorem yY {l:List Nat} {k:Nat} (h:nN l) (hv:natV l<4294967296^k):l.length<=k:=by
 by_cases hne:l=[]
 ·subst hne;simp
 have:=vo h hne
 have h2:4294967296^(l.length-1)<4294967296^k:=Nat.lt_of_le_of_lt this hv
 have:=(Nat.pow_lt_pow_iff_right (by omega:1<4294967296)).1 h2
 omega
theorem GZ {l m:List Nat} (hl:Lmb l) (hm:Lmb m) (cl:nN l) (cm:nN m) (h:natV l=natV m):l=m:=by
 induction l generalizing m with
 |nil=>
  cases m with
  |nil=>rfl
  |cons b m=>
   have:=vo cm (by simp)
   have:0<4294967296^((b::m).length-1):=Nat.pow_pos (by omega)
   rw[<- h]at*
   simp[natV]at*
 |cons a l ih=>
  cases m with
  |nil=>
   have:=vo cl (by simp)
   have:0<4294967296^((a::l).length-1):=Nat.pow_pos (by omega)
   rw[h]at*
   simp[natV]at*
  |cons b m=>
   have ha:=hl a List.mem_cons_self
   have hb:=hm b List.mem_cons_self
   simp only[natV]at h
   have e1:a=b:=by omega
   have e2:natV l=natV m:=by omega
   rw[e1,ih (fun c hc=>hl c (List.mem_cons_of_mem _ hc)) (fun c hc=>hm c (List.mem_cons_of_mem _ hc)) (oL cl) (oL cm) e2]
def GG (w:World) (A:Option Addr) (l:List Nat):Prop:=RdI .u32 w A (l.map fun n:Nat=>(n:Int))
theorem GG.ext {w w':World} {A:Option Addr} {l:List Nat} (h:GG w A l) (e:Ext w w'):GG w' A l:=RdI.ext h e
theorem GG.nil (w:World) (A:Option Addr):GG w A []:=RdI.nil _ _ _
theorem GG.at_ {w:World} {A:Option Addr} {l:List Nat} (h:GG w A l) {i z:Nat} (hi:l[i]?=some z):
  ∃b off,A=some ⟨b,off,none⟩/\w.cell? ⟨b,off+i,none⟩=some (.int .u32 (z:Int)):=RdI.at_ h (by simp[hi])
def iw (neg:Bool) (n:Nat):Int:=if neg then -(n:Int)else n
def wD (w:World) (v:Value) (z:Int) (k:Nat):Prop:=
 ∃neg A c l,v= .agg #[.bool neg,.slice A l.length c]/\l.length<=c/\GG w A l/\Lmb l/\nN l/\z=iw neg (natV l)/\l.length<=k/\(l=[]->neg=false)
theorem wD.ext {w w':World} {v:Value} {z:Int} {k:Nat} (h:wD w v z k) (e:Ext w w'):wD w' v z k:=by
 obtain⟨neg,A,c,l,h1,h2,h3,h4⟩:=h
 exact⟨neg,A,c,l,h1,h2,h3.ext e,h4⟩
theorem wD.mono {w:World} {v:Value} {z:Int} {k k':Nat} (h:wD w v z k) (e:k<=k'):wD w v z k':=by
 obtain⟨neg,A,c,l,h1,h2,h3,h4,h5,h6,h7,h8⟩:=h
 exact⟨neg,A,c,l,h1,h2,h3,h4,h5,h6,by omega,h8⟩
theorem wD.zero (w:World) (k:Nat):wD w (.agg #[.bool false,.slice none 0 0]) 0 k:=
 ⟨false,none,0,[],rfl,by simp,GG.nil _ _,by intro a h;simp at h,by simp[nN],rfl,by simp,fun _=>rfl⟩
def ms:List Int->List Int->Int
 |[],[]=>0
 |[],_::_=> -1
 |_::_,[]=>1
 |a::x,b::y=>if a<b then -1 else if b<a then 1 else ms x y
theorem Cm {x y:List Int} {k:Nat} {a b:Int} (ha:x[k]?=some a) (hb:y[k]?=some b):
  ms (x.drop k) (y.drop k)=if a<b then -1 else if b<a then 1 else ms (x.drop (k+1)) (y.drop (k+1)):=by
 obtain⟨h1,rfl⟩:=List.getElem?_eq_some_iff.1 ha
 obtain⟨h2,rfl⟩:=List.getElem?_eq_some_iff.1 hb
 rw[List.drop_eq_getElem_cons h1,List.drop_eq_getElem_cons h2]
 rfl
theorem Cn {x y:List Int} {k:Nat} (h1:k>=x.length) (h2:k<y.length):ms (x.drop k) (y.drop k)= -1:=by
 rw[List.drop_of_length_le h1,List.drop_eq_getElem_cons h2];rfl
theorem yZ {x y:List Int} {k:Nat} (h1:k<x.length) (h2:k>=y.length):ms (x.drop k) (y.drop k)=1:=by
 rw[List.drop_of_length_le h2,List.drop_eq_getElem_cons h1];rfl
theorem Cl {x y:List Int} {k:Nat} (h1:k>=x.length) (h2:k>=y.length):ms (x.drop k) (y.drop k)=0:=by
 rw[List.drop_of_length_le h1,List.drop_of_length_le h2];rfl
theorem Lg {a b:Int} {r:Int} (h:(a !=b)=true) (h':a<b): -1=if a<b then -1 else if b<a then 1 else r:=by simp[h']
theorem Lf {a b:Int} {r:Int} (h:(a !=b)=true) (h': ¬a<b):1=if a<b then -1 else if b<a then 1 else r:=by
 have:a≠b:=by simpa using h
 rw[if_neg h',if_pos (by omega)]
theorem Hk {a b:Int} {r:Int} (h:(a !=b)=false):(if a<b then -1 else if b<a then 1 else r)=r:=by
 have:a=b:=by simpa using h
 rw[if_neg (by omega),if_neg (by omega)]
theorem sD (A B:Option Addr) (c d:Nat) (x y:List Int) (w:World) (hx:RdI .i64 w A x) (hy:RdI .i64 w B y) (lx:x.length<=9223372036854775807) (ly:y.length<=9223372036854775807):
  Calls Tryz.prog 31 #[.slice A x.length c,.slice B y.length d] w fun e w'=>e= .returned (.int .i64 (ms x y))/\ ∃n,w'=w.drewN n:=by
 have HX:=Lib.hid hx
 have HY:=Lib.hid hy
 clear hx hy
 go_enter Tryz.func31,Tryz.ntmps31
 go_wp2_with fail
 go_loopw [5] (fun i wr=> ∃k n:Nat,k<=x.length/\k<=y.length/\i= .int .i64 k/\wr=w.drewN n/\Hid (ms (x.drop k) (y.drop k)=ms x y)) (fun i _=>x.length-(intOf i).toNat)
 case atStart=>exact⟨0,0,Nat.zero_le _,Nat.zero_le _,rfl,rfl,Lib.hid rfl⟩
 case round=>
  obtain⟨k,n,hk,hky,rfl,rfl,HR⟩:=hrel
  by_cases hlt:k<x.length
  ·obtain⟨a,ha⟩:=getElem?_of_lt hlt
   obtain⟨b,off,rfl,hc⟩:=HX.out.at_ ha
   have HA:=Lib.hid ha
   clear ha
   by_cases hly:k<y.length
   ·obtain⟨a',ha'⟩:=getElem?_of_lt hly
    obtain⟨b',off',rfl,hc'⟩:=HY.out.at_ ha'
    have HA':=Lib.hid ha'
    clear ha'
    have hD:=Lib.hid (Cm HA.out HA'.out)
    go_wp2_with fail
    go_quiet (fail)
    go_wp2_with fail
    ·go_quiet (fail)
     have hne:(a !=a')=true:=by assumption
     go_wp2_with fail
     all_goals
      go_ret
      exact⟨qU (by rw[<- HR.out,hD.out];first|exact Lg hne (by omega)|exact Lf hne (by omega)),_,by rw[World.drewN_drewN,World.drewN_drewN]⟩
    have he:(a !=a')=false:=by assumption
    go_roundw
    case rel=>exact⟨k+1,_,by omega,by omega,by go_num,rfl,Lib.hid (by rw[<- HR.out,hD.out];exact(Hk he).symm)⟩
    case measure=>simp[intOf];omega
   go_wp2_with fail
   all_goals
    go_ret
    exact⟨qU (by rw[<- HR.out,yZ hlt (by omega)]),_,rfl⟩
  by_cases hly:k<y.length
  ·go_wp2_with fail
   all_goals
    go_ret
    exact⟨qU (by rw[<- HR.out,Cn (by omega) (by omega)]),_,rfl⟩
  go_wp2_with fail
  all_goals
   go_ret
   exact⟨qU (by rw[<- HR.out,Cl (by omega) (by omega)]),_,rfl⟩
theorem pj {P:Program} {id:Nat} {Q:Exit->Act->World->Prop} {a:Act} {w:World} {l:List Oper} (n:Nat) (hm:P.follows .mixedOrders=true) (hB:Region.lexTailB .any l.toArray n=true)
  (h:wpStill P l.toArray w.drew (fun a'=>wpList P l.toArray Q (l.drop n) a' w.drew) (l.take n) a):(Code.region id l.toArray true).wp P Q a w:=wp_region_still_tail n hm hB h
theorem Tryz.inU32:(Tryz.prog.info? 79).map (fun i=>(i.zero,i.size,i.bytes))=some (some (.int .u32 0),1,4):=by kernel_rfl
def sg (z:Int):Int:=if z<0 then -1 else if z=0 then 0 else 1
theorem uV (u:Nat):natV [u%4294967296,u/4294967296]=u:=by simp[natV];omega
def ir (a b:Nat):Int:=if a<b then -1 else if a=b then 0 else 1
theorem sc {l:List Nat} {k a:Nat} (h:l[k]?=some a):natV l=natV (l.take k)+4294967296^k*(a+4294967296*natV (l.drop (k+1))):=by
 have hk:=(List.getElem?_eq_some_iff.1 h).1
 conv=>lhs;rw[<- List.take_append_drop k l]
 rw[jr,List.length_take,Nat.min_eq_left (by omega),List.drop_eq_getElem_cons hk,natV,(List.getElem?_eq_some_iff.1 h).2]
theorem EK {l:List Nat} (h:Lmb l) (k:Nat):Lmb (l.take k):=fun a ha=>h a (List.mem_of_mem_take ha)
theorem l7 {l m:List Nat} {k a b:Nat} (hl:Lmb l) (ha:l[k]?=some a) (hb:m[k]?=some b) (hd:l.drop (k+1)=m.drop (k+1)) (hab:a<b):natV l<natV m:=by
 have hk:=(List.getElem?_eq_some_iff.1 ha).1
 rw[sc ha,sc hb,hd]
 have h1:=ik (EK hl k)
 rw[List.length_take,Nat.min_eq_left (by omega)]at h1
 have h2:4294967296^k*(a+1+4294967296*natV (m.drop (k+1)))<=4294967296^k*(b+4294967296*natV (m.drop (k+1))):=Nat.mul_le_mul_left _ (by omega)
 have e:4294967296^k*(a+1+4294967296*natV (m.drop (k+1)))=4294967296^k+4294967296^k*(a+4294967296*natV (m.drop (k+1))):=by grind
 omega
theorem jt {l m:List Nat} (hl:Lmb l) (hm:nN m) (h:l.length<m.length):natV l<natV m:=by
 have h1:=ik hl
 have h2:=vo hm (by intro e;rw[e]at h;simp at h)
 have h3:4294967296^l.length<=4294967296^(m.length-1):=Nat.pow_le_pow_right (by omega) (by omega)
 omega
theorem m8 {a b:Nat} (h:a<b):ir a b= -1:=by simp[ir,h]
theorem qI {a b:Nat} (h:b<a):ir a b=1:=by unfold ir;rw[if_neg (by omega),if_neg (by omega)]
theorem ud {l m:List Nat} {k a:Nat} (ha:l[k]?=some a) (hb:m[k]?=some a) (hd:l.drop (k+1)=m.drop (k+1)):l.drop k=m.drop k:=by
 obtain⟨h1,rfl⟩:=List.getElem?_eq_some_iff.1 ha
 obtain⟨h2,h3⟩:=List.getElem?_eq_some_iff.1 hb
 rw[List.drop_eq_getElem_cons h1,List.drop_eq_getElem_cons h2,hd,h3]
theorem kc:(∀(P:Program) (items:List (fh P)) (ow:List Nat) (s:AS) (Q:AS->Prop),fd P items ow [] (some s) Q=Q s)/\
  (∀(P:Program) (items:List (fh P)) (ow:List Nat) (st:GJ) (l:List GJ) (s:AS) (Q:AS->Prop),fd P items ow (st::l) (some s) Q=fd P items ow l (eJ P items ow st s) Q)/\
  (∀{P:Program} {items:List (fh P)} {ow:List Nat} {i:Nat} {d:Option Tmp} {s:AS} (x:Operand),eJ P items ow ⟨i,d,.move x,none⟩ s=(s.ev x).map (s.put d))/\
  (∀{P:Program} {items:List (fh P)} {ow:List Nat} {i:Nat} {d:Option Tmp} {s:AS} (x:Operand),eJ P items ow ⟨i,d,.assign x,none⟩ s=(s.ev x).map (s.put d))/\
  (∀{P:Program} {items:List (fh P)} {ow:List Nat} {i:Nat} {d:Option Tmp} {s:AS} (op:BinOp) (t t':TypeId) (x y:Operand),eJ P items ow ⟨i,d,.binOp op t x y t',none⟩ s=(aU P s.ev (.binOp op t x y t')).map (s.put d))/\
  (∀{P:Program} {items:List (fh P)} {ow:List Nat} {i:Nat} {d:Option Tmp} {s:AS} (t:TypeId) (x:Operand),eJ P items ow ⟨i,d,.load t x,none⟩ s=(aZ P s.ev s.H (.load t x)).map (s.put d))/\
  (∀{α:Type} {a:α} {l:List α},(a::l)[0]?=some a)/\
  (∀{α:Type} {a:α} {i:Nat} {l:List α},(a::l)[i+1]?=l[i]?)/\
  (∀{α:Type} {x:α} {xs:List α} {a:α},(x::xs).set 0 a=a::xs)/\
  (∀{α:Type} {x:α} {xs:List α} {i:Nat} {a:α},(x::xs).set (i+1) a=x::xs.set i a)/\
  (∀{α β:Type} {f:α->β},List.map f []=[])/\
  (∀{α β:Type} {f:α->β} {a:α} {l:List α},List.map f (a::l)=f a::List.map f l)/\
  (∀{α β:Type} (a:α) (f:α->β),Option.map f (some a)=some (f a))/\
  (∀{α:Type} {a:α} {l:List α} {f:α->Bool},(a::l).all f=(f a&&l.all f))/\
  (∀{α:Type} {f:α->Bool},([]:List α).all f=true)/\
  (∀{α:Type} {a:α} {xs:List α},(a::xs).length=xs.length+1)/\
  (∀{α:Type},([]:List α).length=0)/\
  (∀n:Nat,0+n=n)/\
  (∀b:Bool,(b&&b)=b)/\
  (∀{α:Type} {_:Decidable True} (t e:α),(if True then t else e)=t)/\
  (∀{α:Type} {_:Decidable False} (t e:α),(if False then t else e)=e)/\
  (∀{α:Type} (xs:List α),[]++xs=xs)/\
  (∀{α:Type} {a:α} {xs ys:List α},a::xs++ys=a::(xs++ys))/\
  (∀{α:Type} (xs:List α),xs++[]=xs)/\
  (∀{α β:Type} (a:α) (f:α->Option β),(some a).bind f=f a)/\
  (∀{α:Type},([]:List α).isEmpty=true)/\
  ((!true)=false)/\
  (∀{α:Type} {l:List α},List.drop 0 l=l)/\
  (∀{α:Type} {l:List α},List.take 0 l=[])/\
  (∀{α:Type} {a:α} {l:List α} {i:Nat},List.drop (i+1) (a::l)=List.drop i l)/\
  (∀{α:Type} {a:α} {l:List α} {i:Nat},List.take (i+1) (a::l)=a::List.take i l)/\
  (∀b:Bool,(b||true)=true)/\
  (∀p:Prop,(p/\p)=p)/\
  (∀p:Prop,(True/\p)=p)/\
  (∀b:Bool,(b&&true)=b)/\
  (∀b:Bool,(b&&false)=false)/\
  (∀{α:Type} [BEq α] [ReflBEq α] (a:α),(a==a)=true)/\
  ((false=true)=False)/\
  (∀{α:Type} {xs:List α} {i:Nat},xs.toArray[i]?=xs[i]?)/\
  (∀n:Nat,(n:Int).toNat=n)/\
  (∀(ops:Array Oper) (x:Nat),dZ ops [] x=[])/\
  (∀(ops:Array Oper) (x:Nat) (o:Oper) (l:List Oper),dZ ops (o::l) x=aM ops o x::dZ ops l (x+1))/\
  (∀(s:AS) (t:Tmp),s.ev (.tmp t)=s.tmps[t]?)/\
  (∀(s:AS) (v:Value),s.ev (.const v)=some (aN v))/\
  (∀(s:AS) (g:Nat),s.ev (.global g)=some (.raw (.pointer (some ⟨g,0,none⟩))))/\
  (∀(s:AS) (f:FuncId),s.ev (.func f)=some (.raw (.func (.func f) #[] #[])))/\
  (∀(s:AS) (d:Tmp) (t:TV),s.put (some d) t={s with tmps:=s.tmps.set d t})/\
  (∀(s:AS) (t:TV),s.put none t=s):=
 ⟨@FD,@uK,@Fa,@zK,@Id,@E9,@List.getElem?_cons_zero,@List.getElem?_cons_succ,@List.set_cons_zero,@List.set_cons_succ,@List.map_nil,@List.map_cons,@am,@List.all_cons,@List.all_nil,@List.length_cons,@List.length_nil,@Nat.zero_add,@Bool.and_self,@if_true,@if_false,@List.nil_append,@List.cons_append,@List.append_nil,@Option.bind_some,@List.isEmpty_nil,@Bool.not_true,@List.drop_zero,@List.take_zero,@List.drop_succ_cons,@List.take_succ_cons,@Bool.or_true,@and_self,@true_and,@Bool.and_true,@Bool.and_false,@beq_self_eq_true,@Bool.false_eq_true,@List.getElem?_toArray,@Int.toNat_natCast,by intros;rfl,by intros;rfl,by intros;rfl,by intros;rfl,by intros;rfl,by intros;rfl,by intros;rfl,by intros;rfl⟩
abbrev jk:TV:= .one .junk
abbrev de (l:List Nat):TV:= .one (.p (.sl (ls fU l)))
theorem j8 (l:List Nat) (hb:l.length<=1073741824):CallC Tryz.prog 61 [de l] ⟨[],de (fE l)⟩:=by
 refine bG Tryz.func61 rfl (by kernel_rfl) ?_;rw[Tryz.ntmps61]
 (refine aL [] fun K hK=>?_;simp(disch:=omega) only[kc,aM,List.replicate,aN,ab];apply hK)
 (refine aL [] fun K hK=>?_;simp(disch:=omega) only[kc,aM,aa,be,aZ,aV,bE];apply hK)
 refine GL (G:={n:Nat//n<=l.length/\fE l=fE (l.take n)}) (fun n=>⟨[de l,jk,.raw (.slice none 0 0),.raw (.int .i64 n.1),jk,jk,jk,jk,jk,jk,jk,jk,jk,jk,jk,jk,jk,jk,jk,jk,jk,jk],Hm []⟩) (fun n=>n.1) ⟨l.length,Nat.le_refl _,by simp⟩ ?_ ?_
 ·refine aT trivial ?_
  simp[di,b9,b8]
 rintro⟨n,hn,hT⟩
 simp only
 by_cases h0:0<n
 ·obtain⟨a,ha⟩:=getElem?_of_lt (l:=l) (k:=n-1) (by omega)
  have e1:((n:Int)-1).toNat=n-1:=by omega
  (refine aP (aL [] fun K hK=>?_);simp(disch:=omega) only[kc,aM,aa,Hm,aU,aO,aR,aX,aN,ab,aS,cw,bP,cQ,cd,aQ,aZ,aW,e1,aV,ch,ha,fU,cg,packT,cW,b7];apply hK)
  have htk:l.take n=l.take (n-1)++[a]:=by
   have:=List.take_succ_eq_append_getElem (i:=n-1) (l:=l) (by omega)
   rw[show n-1+1=n by omega]at this
   rw[this,(List.getElem?_eq_some_iff.1 ha).2]
  refine iA rfl (fun hz=>bi ?_) (fun hz=>ck ?_)
  ·have hz':a=0:=by simpa using hz
   refine bA ?_
   ((refine bK [] [] (by simp) fun K hK=>?_);simp(disch:=omega) only[kc,aM,aa,cw,aU,aO,aR,aX,aN,ab,aS,cd];apply hK)
   refine⟨⟨n-1,by omega,?_⟩,by simp only;omega,aT trivial ?_⟩
   ·rw[hT,htk,hz',mZ]
   have e:((n-1:Nat):Int)=(n:Int)-1:=by omega
   simp[di,b9,b8,e]
  have hz':a≠0:=by intro e;simp[e]at hz
  have hfin:fE l=l.take n:=by rw[hT,htk,uU hz']
  show da _ _ _ _
  have hlen:(l.take n).length=n:=by simp;omega
  (refine aL [] fun K hK=>?_;simp(disch:=omega) only[kc,aM,aa,cp,gR,aZ,aV,eK,aW,cg,Nat.zero_le,bE,zz vC,and_true,Bb,cQ,dX,kG,cU,aN,ab,eo,J7,bU,bI,ea,gn,gE,hlen,J6 vC];apply hK)
  refine bC ⟨.inr rfl,kQ 21 (eE rfl) ?_ rfl⟩
  simp(disch:=omega) only[kc,cH,Tryz.results61,bH,gT,gh,bD,cQ,eB,eZ,hfin]
  simp[List.take_take]
 have hn0:n=0:=by omega
 subst hn0
 have hfin:fE l=[]:=by rw[hT];simp[fE]
 (refine aP (aL [] fun K hK=>?_);simp(disch:=omega) only[kc,aM,aa,Hm,aU,aO,aR,aX,aN,ab,aS,cp,bP,cQ,Option.map_none,aQ,aZ,b7];apply hK)
 refine iA rfl (fun hz=>by cases hz) (fun hz=>ck ?_)
 show da _ _ _ _
 (refine aL [] fun K hK=>?_;simp(disch:=omega) only[kc,aM,aa,gR,aZ,aV,eK,aW,cg,Nat.le_refl,bE,Nat.zero_le,zz vC,dX,kG,cU,aN,ab,eo,bU,bI,ea,gn,Nat.reduceMul,gI,and_true,cQ];apply hK)
 refine bC ⟨.inr rfl,kQ 21 (eE (f:=fU) (l:=[]) rfl) ?_ rfl⟩
 simp(disch:=omega) only[kc,cH,Tryz.results61,bH,gT,gh,bD,cQ,Nat.add_zero,hfin]
 simp[ls]
section
def iu (H:OH):AV->Prop
 | .sl a _ _ _=>H a≠[]
 | .ptr a _ _ _=>H a≠[]
 |_=>True
def iH (H:OH):TV->Prop
 | .one x=>iu H x
 | .agg cs=> ∀x∈cs,iu H x
 | .fn _ cs=> ∀x∈cs,iu H x
 | .tup ts=> ∀t∈ts,∀x∈t.2,iu H x
def oB (s:AS):Prop:=(∀(t:Nat) x,s.tmps[t]?=some x->iH s.H x)/\ ∀a,∀o∈s.H a,selfO a o
section
variable {P:Program} {s s':AS} {H:OH}
theorem mH {w0 w:World} {O X:Nat->Prop} {a:Act} (h:iW w0 O X s a w):oB s:=by
 obtain⟨_,_,ρ,hinv,htm⟩:=h
 have av: ∀x v,AV.rel ρ s.H (Xo X ρ s.H) w x v->iu s.H x:=fun x v hx=>by
  cases x with
  |p x=>trivial
  |sl a r off len=>obtain⟨o,h1,_⟩:=hx;intro h0;rw[h0]at h1;simp at h1
  |ptr a r i j=>obtain⟨o,_,_,h1,_⟩:=hx;intro h0;rw[h0]at h1;simp at h1
  |junk=>trivial
 have agg: ∀cs v,dL ρ s.H (Xo X ρ s.H) w cs v-> ∀x∈cs,iu s.H x:=fun cs v hc x hx=>by
  obtain⟨vs,_,_,h3⟩:=hc
  obtain⟨k,hk,rfl⟩:=List.getElem_of_mem hx
  obtain⟨u,_,_,h4⟩:=h3 k _ (aD hk)
  exact av _ _ h4
 refine⟨fun t x hx=>?_,fun a o ho=>?_⟩
 ·obtain⟨v,_,hv⟩:=htm t x hx
  cases x with
  |one x=>exact av x v hv
  |agg cs=>exact agg cs v hv
  |fn f cs=>obtain⟨u,h1,h2⟩:=hv;exact agg cs u h1
  |tup ts=>
   obtain⟨vs,_,_,h3⟩:=hv
   intro t ht x hx
   obtain⟨k,hk,rfl⟩:=List.getElem_of_mem ht
   obtain⟨u,_,h4⟩:=h3 k _ _ (aD hk)
   rcases h4 with⟨_,h4⟩|⟨_,y,h5,h4⟩
   ·exact agg _ _ h4 x hx
   have h5:ts[k].2=[y]:=h5
   rw[h5]at hx;simp at hx;subst hx;exact av _ _ h4
 obtain⟨k,hk,rfl⟩:=List.getElem_of_mem ho
 exact hinv.self a k _ (aD hk)
theorem gA (h:oB s) {x:Operand} {t:TV} (hx:s.ev x=some t):iH s.H t:=by
 cases x with
 |tmp k=>exact h.1 k t hx
 |const v=>
  simp only[AS.ev]at hx
  injection hx with hx
  subst hx
  unfold aN
  split
  ·split
   ·intro y hy;simp only[au]at hy;obtain⟨u,_,rfl⟩:=hy;trivial
   trivial
  split<;>trivial
 |global g=>simp only[AS.ev]at hx;injection hx with hx;subst hx;trivial
 |func f=>simp only[AS.ev]at hx;injection hx with hx;subst hx;trivial
theorem lC (h:oB s) {d:Option Tmp} {t:TV} (ht:iH s.H t):oB (s.put d t):=by
 refine⟨fun k x hx=>?_,by rw[jY];exact h.2⟩
 rw[jY]
 cases d with
 |none=>exact h.1 k x hx
 |some d=>
  simp only[AS.put]at hx
  by_cases hk:d=k
  ·subst hk
   rw[List.getElem?_set]at hx
   simp at hx
   obtain⟨_,rfl⟩:=hx
   exact ht
  rw[List.getElem?_set_ne hk]at hx;exact h.1 k x hx
theorem Ct (h:oB s) {op:Op} {t:TV} (ht:aU P s.ev op=some t):iH s.H t:=by
 cases op<;>simp only[aU]at ht<;>try cases ht
 case move x=>exact gA h ht
 case assign x=>exact gA h ht
 case pick c a b=>
  split at ht
  ·exact gA h ht
  ·exact gA h ht
  cases ht
 case binOp op ty x y yt=>
  split at ht
  ·unfold aR at ht
   split at ht
   ·injection ht with ht;subst ht;trivial
   ·injection ht with ht;subst ht;trivial
   cases ht
  split at ht
  ·obtain⟨v,_,rfl⟩:=Option.map_eq_some_iff.1 ht;trivial
  ·unfold rM at ht
   split at ht
   ·split at ht
    ·injection ht with ht;subst ht;trivial
    cases ht
   ·split at ht
    ·injection ht with ht;subst ht;trivial
    cases ht
   cases ht
  cases ht
 case unOp op ty x=>
  split at ht
  ·obtain⟨v,_,rfl⟩:=Option.map_eq_some_iff.1 ht;trivial
  cases ht
 case convert a b x=>
  split at ht
  ·injection ht with ht;subst ht;trivial
  cases ht
 case extract x k=>
  split at ht
  ·rename_i ts hx
   have hl:=gA h hx
   split at ht
   ·rename_i cs hk
    injection ht with ht
    subst ht
    exact hl _ (aE hk)
   ·rename_i y hk
    injection ht with ht
    subst ht
    exact hl _ (aE hk) y (by simp)
   cases ht
  cases ht
theorem ny {t:TypeId} {cs:List AV} {T:TV} (h:packT P t cs=some T) (hc: ∀x∈cs,iu H x):iH H T:=by
 unfold packT at h
 split at h
 ·split at h
  ·injection h with h;subst h;exact fun x hx=>hc x (List.mem_of_mem_take hx)
  cases h
 ·split at h
  ·injection h with h;subst h;exact hc _ (by simp)
  cases h
 cases h
theorem vq {t:TV} {cs:List AV} (h:cellsOf t=some cs) (ht:iH H t): ∀x∈cs,iu H x:=by
 unfold cellsOf at h
 split at h
 ·injection h with h;subst h;intro x hx;simp at hx;subst hx;trivial
 ·injection h with h;subst h;exact ht
 cases h
theorem ue (h:oB s) {pl:List (Nat×Nat)}: ∀(parts:List (Nat×Operand)) (cs cs':List AV),iC pl s.ev cs parts=some cs'->(∀x∈cs,iu s.H x)-> ∀x∈cs',iu s.H x
 |[],cs,cs',hf,hc=>by simp only[iC]at hf;injection hf with hf;subst hf;exact hc
 |(f,x)::rest,cs,cs',hf,hc=>by
  simp only[iC]at hf
  split at hf
  ·rename_i off n ys hp hx
   obtain⟨t,ht,hys⟩:=Option.bind_eq_some_iff.1 hx
   split at hf
   ·refine ue h rest _ cs' hf fun y hy=>?_
    simp only[List.mem_append]at hy
    rcases hy with(hy|hy)|hy
    ·exact hc y (List.mem_of_mem_take hy)
    ·exact vq hys (gA h ht) y hy
    exact hc y (List.mem_of_mem_drop hy)
   cases hf
  cases hf
theorem Dg (h:oB s) {a r i:Nat} {o:OObj} {e:List AV} (ho:(s.H a)[r]?=some o) (he:o.elems[i]?=some e): ∀x∈e,iu s.H x:=fun x hx=>by
 have hs:=h.2 a o (aE ho) e (aE he) x hx
 have hne:s.H a≠[]:=by intro h0;rw[h0]at ho;simp at ho
 cases x with
 |sl b _ _ _=>have hs:b=a:=hs;subst hs;exact hne
 |ptr b _ _ _=>have hs:b=a:=hs;subst hs;exact hne
 |p x=>trivial
 |junk=>trivial
theorem Cu (h:oB s) {op:Op} {t:TV} (ht:aZ P s.ev s.H op=some t):iH s.H t:=by
 cases op
 case load ty x=>
  simp only[aZ]at ht
  split at ht
  ·exact ny ht (fun y hy=>by simp only[au]at hy;obtain⟨z,_,rfl⟩:=hy;trivial)
  ·split at ht
   ·rename_i o ho
    split at ht
    ·rename_i e he
     exact ny ht (fun y hy=>Dg h ho he y (List.mem_of_mem_drop hy))
    cases ht
   cases ht
  cases ht
 case indexAddr ty x ix=>
  simp only[aZ]at ht
  split at ht
  ·split at ht
   ·cases ht
   split at ht
   ·split at ht
    ·split at ht
     ·injection ht with ht;subst ht;trivial
     cases ht
    cases ht
   ·rename_i e a r off len hs hx
    split at ht
    ·split at ht
     ·injection ht with ht;subst ht;have q:=gA h hx;exact q
     cases ht
    cases ht
   ·split at ht
    ·split at ht
     ·split at ht
      ·injection ht with ht;subst ht;trivial
      cases ht
     cases ht
    cases ht
   ·rename_i hx
    split at ht
    ·split at ht
     ·split at ht
      ·injection ht with ht;subst ht;have q:=gA h hx;exact q
      cases ht
     cases ht
    cases ht
   ·split at ht
    ·split at ht
     ·split at ht
      ·injection ht with ht;subst ht;trivial
      cases ht
     cases ht
    cases ht
   cases ht
  cases ht
 case index ty x ix=>
  simp only[aZ]at ht
  split at ht
  ·split at ht
   ·cases ht
   split at ht
   ·rename_i hx
    split at ht
    ·split at ht
     ·exact ny ht (fun y hy=>gA h hx y (List.mem_of_mem_drop hy))
     cases ht
    cases ht
   cases ht
  cases ht
 case fieldAddr ty x f=>
  simp only[aZ]at ht
  split at ht
  ·split at ht
   ·injection ht with ht;subst ht;trivial
   cases ht
  ·rename_i hx
   split at ht
   ·injection ht with ht;subst ht;have q:=gA h hx;exact q
   cases ht
  cases ht
 case field ty x f=>
  simp only[aZ]at ht
  split at ht
  ·rename_i hx
   exact ny ht (fun y hy=>gA h hx y (List.mem_of_mem_drop hy))
  cases ht
 case slice ty x lo hi mx=>
  cases mx with
  |some mx=>
   cases lo with
   |none=>simp only[aZ]at ht;cases ht
   |some lo=>
   cases hi with
   |none=>simp only[aZ]at ht;cases ht
   |some hi=>
   simp only[aZ]at ht
   split at ht
   ·rename_i hx
    split at ht
    ·split at ht
     ·injection ht with ht;subst ht;have q:=gA h hx;exact q
     cases ht
    cases ht
   cases ht
  |none=>
   simp only[aZ]at ht
   split at ht
   ·split at ht
    ·split at ht
     ·injection ht with ht;subst ht;trivial
     cases ht
    cases ht
   ·rename_i hx
    split at ht
    ·split at ht
     ·injection ht with ht;subst ht;have q:=gA h hx;exact q
     split at ht
     ·injection ht with ht;subst ht;trivial
     cases ht
    cases ht
   cases ht
 case build ty parts=>
  simp only[aZ]at ht
  split at ht
  ·split at ht
   ·obtain⟨cs,hcs,rfl⟩:=Option.map_eq_some_iff.1 ht
    exact ue h _ _ _ hcs (fun y hy=>by simp only[au]at hy;obtain⟨z,_,rfl⟩:=hy;trivial)
   cases ht
  cases ht
 case nilCheck x=>
  simp only[aZ]at ht
  split at ht
  ·injection ht with ht;subst ht;trivial
  ·rename_i hx;injection ht with ht;subst ht;have q:=gA h hx;exact q
  cases ht
 case makeFunc fn first captured=>
  cases fn with
  |func f=>
   simp only[aZ]at ht
   split at ht
   ·obtain⟨cs,hcs,rfl⟩:=Option.map_eq_some_iff.1 ht
    obtain⟨ts,hts,hc⟩:=Option.bind_eq_some_iff.1 hcs
    intro x hx
    obtain⟨j,hj,rfl⟩:=List.getElem_of_mem hx
    obtain⟨h1,h2⟩:=(nZ hc).2 j _ (aD hj)
    obtain⟨y,y1,y2⟩:=(fw hts).2 j _ h1
    have q:=gA h y2
    exact q
   cases ht
  |_=>simp only[aZ]at ht;cases ht
 case call c=>
  obtain⟨callee,args,argTypes⟩:=c
  cases callee with
  |builtin b=>
   cases b
   case len=>
    simp only[aZ]at ht
    split at ht
    ·split at ht
     ·injection ht with ht;subst ht;trivial
     ·injection ht with ht;subst ht;trivial
     ·injection ht with ht;subst ht;trivial
     cases ht
    cases ht
   all_goals (simp only[aZ]at ht;cases ht)
  |value f=>simp only[aZ]at ht;cases ht
  |invoke r m=>simp only[aZ]at ht;cases ht
 all_goals (simp only[aZ]at ht;cases ht)
end
end
section
section
variable {P:Program} {s s':AS} {H H':OH}
def wC (H H':OH):Prop:= ∀a,H a≠[]->H' a=H a
def p9 (H H':OH):AV->Prop
 | .sl a _ _ _=>H' a=H a
 | .ptr a _ _ _=>H' a=H a
 |_=>True
def kS (H H':OH):TV->Prop
 | .one x=>p9 H H' x
 | .agg cs=> ∀x∈cs,p9 H H' x
 | .fn _ cs=> ∀x∈cs,p9 H H' x
 | .tup ts=> ∀t∈ts,∀x∈t.2,p9 H H' x
theorem ky {x:AV} (h:iu H x) (g:wC H H'):p9 H H' x:=by
 cases x with
 |sl a _ _ _=>exact g a h
 |ptr a _ _ _=>exact g a h
 |p x=>trivial
 |junk=>trivial
theorem ya {t:TV} (h:iH H t) (g:wC H H'):kS H H' t:=by
 cases t with
 |one x=>exact ky h g
 |agg cs=>exact fun x hx=>ky (h x hx) g
 |fn f cs=>exact fun x hx=>ky (h x hx) g
 |tup ts=>exact fun t ht x hx=>ky (h t ht x hx) g
theorem kz (x:AV):p9 H H x:=by cases x<;>first|rfl|trivial
theorem yb (t:TV):kS H H t:=by
 cases t with
 |one x=>exact kz x
 |agg cs=>exact fun x _=>kz x
 |fn f cs=>exact fun x _=>kz x
 |tup ts=>exact fun t _ x _=>kz x
theorem rH {ev ev':Operand->Option TV} {op:Op} (h: ∀x∈op.operands,ev x=ev' x):aU P ev op=aU P ev' op:=by
 cases op<;>simp only[Op.operands]at h<;>simp only[aU]
 case move x=>exact h x (by simp)
 case assign x=>exact h x (by simp)
 case pick c a b=>rw[h c (by simp),h a (by simp),h b (by simp)]
 case binOp op t x y t'=>rw[h x (by simp),h y (by simp)]
 case unOp op t x=>rw[h x (by simp)]
 case convert a b x=>rw[h x (by simp)]
 case extract x k=>rw[h x (by simp)]
theorem xf (k:Nat->Nat->Bool): ∀(xs ys:List AV),zo (xs.map (bx k)) (ys.map (bx k))=zo xs ys
 |[],[]=>rfl
 |[],_::_=>rfl
 |x::xs,[]=>by
  simp only[List.map_cons,List.map_nil]
  cases x with
  |p x=>cases x with
   |raw v=>cases v<;>rfl
   |sl _=>rfl
   |ptr _=>rfl
  |sl a r off len=>simp only[bx];split<;>rfl
  |ptr a r i j=>simp only[bx];split<;>rfl
  |junk=>rfl
 |x::xs,y::ys=>by
  have ih:=xf k xs ys
  simp only[List.map_cons]
  cases x with
  |p x=>cases x with
   |raw v=>
    cases v
    case int k1 a=>
     cases y with
     |p y=>cases y with
      |raw u=>cases u<;>first|rfl|simp only[bx,zo,ih]
      |sl _=>rfl
      |ptr _=>rfl
     |sl a r off len=>simp only[bx];split<;>rfl
     |ptr a r i j=>simp only[bx];split<;>rfl
     |junk=>rfl
    all_goals rfl
   |sl _=>rfl
   |ptr _=>rfl
  |sl a r off len=>simp only[bx];split<;>rfl
  |ptr a r i j=>simp only[bx];split<;>rfl
  |junk=>rfl
theorem CX (k:Nat->Nat->Bool) (t:TV):aX (bz k t)=aX t:=by
 cases t with
 |one x=>
  cases x with
  |p x=>rfl
  |sl a r off len=>simp only[bz,bx];split<;>rfl
  |ptr a r i j=>simp only[bz,bx];split<;>rfl
  |junk=>rfl
 |agg cs=>rfl
 |fn f cs=>rfl
 |tup ts=>rfl
theorem se (k:Nat->Nat->Bool) (t:Option TV):(t.map (bz k)).bind aX=t.bind aX:=by
 cases t with
 |none=>rfl
 |some t=>exact CX k t
theorem Cs (k:Nat->Nat->Bool) {ev:Operand->Option TV} {op:Op}:aU P (fun x=>(ev x).map (bz k)) op=(aU P ev op).map (bz k):=by
 have key: ∀(t:TV) v,bz k t= .one (.p (.raw v))↔t= .one (.p (.raw v)):=fun t v=>by
  cases t with
  |one x=>
   cases x with
   |p x=>exact Iff.rfl
   |sl a r off len=>simp only[bz,bx];split<;>simp
   |ptr a r i j=>simp only[bz,bx];split<;>simp
   |junk=>simp[bz,bx]
  |agg cs=>simp[bz]
  |fn f cs=>simp[bz]
  |tup ts=>simp[bz]
 cases op<;>simp only[aU]<;>try rfl
 case pick c a b=>
  cases hc:ev c with
  |none=>rfl
  |some t=>
   simp only[am]
   by_cases h1:t= .one (.p (.raw (.bool true)))
   ·subst h1;rfl
   by_cases h2:t= .one (.p (.raw (.bool false)))
   ·subst h2;rfl
   have e1: ∀b,bz k t≠ .one (.p (.raw (.bool b))):=fun b he=>by
    have:=(key t _).1 he
    cases b
    ·exact h2 this
    exact h1 this
   split
   ·rename_i he;injection he with he;exact absurd he (e1 _)
   ·rename_i he;injection he with he;exact absurd he (e1 _)
   split
   ·rename_i he;injection he with he;exact absurd he h1
   ·rename_i he;injection he with he;exact absurd he h2
   rfl
 case binOp op t x y t'=>
  by_cases hnil:aO y=true
  ·rw[if_pos hnil,if_pos hnil]
   unfold aR
   rw[se,se]
   split<;>rfl
  rw[if_neg hnil,if_neg hnil]
  cases hx:ev x with
  |none=>rfl
  |some tx=>
   cases hy:ev y with
   |none=>
    simp only[am,Option.map_none]
    split
    ·rename_i he;cases he
    ·rename_i he;cases he
    rfl
   |some ty=>
    simp only[am]
    by_cases h1: ∃a b,tx= .one (.p (.raw a))/\ty= .one (.p (.raw b))
    ·obtain⟨a,b,rfl,rfl⟩:=h1
     simp only[bz,bx]
     cases aS (rp P t) op a b<;>rfl
    by_cases h2: ∃xs ys,tx= .agg xs/\ty= .agg ys
    ·obtain⟨xs,ys,rfl,rfl⟩:=h2
     simp only[bz,rM,List.length_map,xf]
     split
     ·split<;>rfl
     ·split<;>rfl
     rfl
    have keya: ∀(t:TV) cs,bz k t= .agg cs-> ∃cs',t= .agg cs':=fun t cs ht=>by
     cases t<;>simp[bz]at ht
     exact⟨_,rfl⟩
    split
    ·rename_i a b ha hb
     injection ha with ha
     injection hb with hb
     exact absurd ⟨a,b,(key _ _).1 ha,(key _ _).1 hb⟩ h1
    ·rename_i a b ha hb
     injection ha with ha
     injection hb with hb
     obtain⟨c1,e1⟩:=keya _ _ ha
     obtain⟨c2,e2⟩:=keya _ _ hb
     exact absurd ⟨c1,c2,e1,e2⟩ h2
    split
    ·rename_i a b ha hb
     injection ha with ha
     injection hb with hb
     exact absurd ⟨a,b,ha,hb⟩ h1
    ·rename_i a b ha hb
     injection ha with ha
     injection hb with hb
     exact absurd ⟨a,b,ha,hb⟩ h2
    rfl
 case unOp op t x=>
  cases hx:ev x with
  |none=>rfl
  |some tx=>
   simp only[am]
   by_cases h1: ∃a,tx= .one (.p (.raw a))
   ·obtain⟨a,rfl⟩:=h1
    simp only[bz,bx]
    cases fD op a<;>rfl
   split
   ·rename_i a ha;injection ha with ha;exact absurd ⟨a,(key _ _).1 ha⟩ h1
   split
   ·rename_i a ha;injection ha with ha;exact absurd ⟨a,ha⟩ h1
   rfl
 case convert a b x=>
  cases hx:ev x with
  |none=>rfl
  |some tx=>
   simp only[am]
   by_cases h1: ∃q n,tx= .one (.p (.raw (.int q n)))
   ·obtain⟨q,n,rfl⟩:=h1
    simp only[bz,bx]
    cases P.underlying a with
    |none=>rfl
    |some u=>cases tz P b<;>rfl
   split
   ·rename_i q n _ _ ha _ _;injection ha with ha;exact absurd ⟨_,_,(key _ _).1 ha⟩ h1
   split
   ·rename_i q n _ _ ha _ _;injection ha with ha;exact absurd ⟨_,_,ha⟩ h1
   rfl
 case extract x i=>
  cases hx:ev x with
  |none=>rfl
  |some tx=>
   cases tx with
   |one y=>rfl
   |agg cs=>rfl
   |fn f cs=>rfl
   |tup ts=>
    simp only[am,bz,aH]
    cases hi:ts[i]? with
    |none=>rfl
    |some t=>
     obtain⟨b,cs⟩:=t
     cases b with
     |true=>rfl
     |false=>
      cases cs with
      |nil=>rfl
      |cons y l=>cases l<;>rfl
theorem jm {ev ev':Operand->Option TV} {x:Option Operand} {d:Nat} (h: ∀y,x=some y->ev y=ev' y):eK ev x d=eK ev' x d:=by
 cases x with
 |none=>rfl
 |some y=>simp only[eK,h y rfl]
theorem rO {pl:List (Nat×Nat)} {ev ev':Operand->Option TV}: ∀(parts:List (Nat×Operand)) (cs:List AV),(∀p∈parts,ev p.2=ev' p.2)->iC pl ev cs parts=iC pl ev' cs parts
 |[],cs,_=>rfl
 |(f,x)::rest,cs,h=>by
  simp only[iC,h (f,x) (by simp)]
  split
  ·split
   ·exact rO rest _ (fun p hp=>h p (by simp[hp]))
   rfl
  rfl
theorem um {n:Nat} {ev ev':Operand->Option TV}: ∀(parts:List (Nat×Operand)) (i:Nat),(∀p∈parts,ev p.2=ev' p.2)->gU ev n i parts=gU ev' n i parts
 |[],i,_=>rfl
 |(f,x)::rest,i,h=>by
  simp only[gU,h (f,x) (by simp),um rest (i+1) (fun p hp=>h p (by simp[hp]))]
theorem mD {ev ev':Operand->Option TV}: ∀(l:List Operand),(∀x∈l,ev x=ev' x)->bO ev l=bO ev' l
 |[],_=>rfl
 |x::l,h=>by simp only[bO,h x (by simp),mD l (fun y hy=>h y (by simp[hy]))]
theorem rI {ev ev':Operand->Option TV} {op:Op} (h: ∀x∈op.operands,ev x=ev' x) (hl: ∀x∈op.operands,∀t,ev x=some t->kS H H' t):aZ P ev H op=aZ P ev' H' op:=by
 cases op<;>simp only[Op.operands]at h hl<;>try (simp only[aZ];done)
 case load t x=>
  simp only[aZ,<- h x (by simp)]
  cases hx:ev x with
  |none=>rfl
  |some tx=>
   have:=hl x (by simp) tx hx
   cases tx with
   |one y=>
    cases y with
    |ptr a r i j=>simp only[show H' a=H a from this]
    |p y=>cases y<;>rfl
    |sl a r off len=>rfl
    |junk=>rfl
   |agg cs=>rfl
   |fn f cs=>rfl
   |tup ts=>rfl
 case indexAddr t x ix=>
  simp only[aZ,<- h x (by simp),<- h ix (by simp)]
  cases eQ P t with
  |none=>
   cases hx:ev x with
   |none=>rfl
   |some tx=>
    cases tx with
    |one y=>
     cases y with
     |p y=>
      cases y with
      |raw v=>
       cases v with
       |pointer a=>
        cases a with
        |none=>rfl
        |some a=>
         obtain⟨b,off,sp⟩:=a
         cases sp<;>rfl
       |_=>rfl
      |sl xs=>rfl
      |ptr cs=>rfl
     |sl a r off len=>rfl
     |ptr a r i j=>rfl
     |junk=>rfl
    |agg cs=>rfl
    |fn f cs=>rfl
    |tup ts=>rfl
  |some e=>
   cases hx:ev x with
   |none=>rfl
   |some tx=>
    have:=hl x (by simp) tx hx
    cases tx with
    |one y=>
     cases y with
     |sl a r off len=>simp only[show H' a=H a from this]
     |p y=>cases y<;>rfl
     |ptr a r i j=>rfl
     |junk=>rfl
    |agg cs=>rfl
    |fn f cs=>rfl
    |tup ts=>rfl
 case index t x ix=>simp only[aZ,<- h x (by simp),<- h ix (by simp)]
 case fieldAddr t x f=>simp only[aZ,<- h x (by simp)]
 case field t x f=>simp only[aZ,<- h x (by simp)]
 case slice t x lo hi mx=>
  cases mx with
  |some m=>
   cases lo with
   |none=>simp only[aZ]
   |some lo=>
   cases hi with
   |none=>simp only[aZ]
   |some hi=>
   simp only[aZ,<- h x (by simp)]
   have hlo:eK ev (some lo) 0=eK ev' (some lo) 0:=jm fun y hy=>h y (by injection hy with hy;subst hy;simp)
   have hhi:eK ev (some hi) 0=eK ev' (some hi) 0:=jm fun y hy=>h y (by injection hy with hy;subst hy;simp)
   have hmx:eK ev (some m) 0=eK ev' (some m) 0:=jm fun y hy=>h y (by injection hy with hy;subst hy;simp)
   simp only[hlo,hhi,hmx]
   cases eQ P t with
   |none=>rfl
   |some e=>
    cases hx:ev x with
    |none=>rfl
    |some tx=>
     have:=hl x (by simp) tx hx
     cases tx with
     |one y=>
      cases y with
      |sl a r off len=>simp only[show H' a=H a from this]
      |p y=>cases y<;>rfl
      |ptr a r i j=>rfl
      |junk=>rfl
     |agg cs=>rfl
     |fn f cs=>rfl
     |tup ts=>rfl
  |none=>
   simp only[aZ,<- h x (by simp)]
   have hlo: ∀d,eK ev lo d=eK ev' lo d:=fun d=>jm fun y hy=>h y (by subst hy;simp)
   have hhi: ∀d,eK ev hi d=eK ev' hi d:=fun d=>jm fun y hy=>h y (by subst hy;cases lo<;>simp)
   simp only[hlo,hhi]
   cases eQ P t with
   |none=>rfl
   |some e=>
    cases hx:ev x with
    |none=>rfl
    |some tx=>
     have:=hl x (by simp) tx hx
     cases tx with
     |one y=>
      cases y with
      |sl a r off len=>simp only[show H' a=H a from this]
      |p y=>cases y<;>rfl
      |ptr a r i j=>rfl
      |junk=>rfl
     |agg cs=>rfl
     |fn f cs=>rfl
     |tup ts=>rfl
 case build t parts=>
  simp only[aZ]
  have: ∀pl cs,iC pl ev cs parts.toList=iC pl ev' cs parts.toList:=fun pl cs=>rO _ _ (fun p hp=>h p.2 (by simp only[List.mem_toArray,au];exact⟨p,hp,rfl⟩))
  simp only[this]
 case nilCheck x=>simp only[aZ,<- h x (by simp)]
 case makeFunc fn first captured=>
  cases fn with
  |func f=>
   simp only[aZ]
   rw[mD captured.toList (fun x hx=>h x (by simp at hx⊢;exact .inr hx))]
  |_=>simp only[aZ]
 case call c=>
  obtain⟨callee,⟨args⟩,⟨argTypes⟩⟩:=c
  cases callee with
  |builtin b=>
   cases b<;>try (simp only[aZ];done)
   simp only[aZ]
   simp only[Call.operands]at h
   split
   ·rename_i x t
    rw[h x (by simp)]
   rfl
  |value f=>simp only[aZ]
  |invoke r m=>simp only[aZ]
 all_goals rfl
theorem Kd (x:PV):cq H' (.one (.p x))=cq H (.one (.p x)):=by
 have key: ∀G:OH,cq G (.one (.p x))= .one (.p x)\/(x= .raw (.slice none 0 0)/\cq G (.one (.p x))= .one (.p (.sl []))):=fun G=>by
  unfold cq
  split
  ·rename_i heq;cases heq
  ·rename_i heq;injection heq with heq;injection heq with heq;exact .inr ⟨heq,rfl⟩
  exact .inl rfl
 by_cases hx:x= .raw (.slice none 0 0)
 ·subst hx;rfl
 rcases key H with h1|⟨h1,_⟩
 ·rcases key H' with h2|⟨h2,_⟩
  ·rw[h1,h2]
  exact absurd h2 hx
 exact absurd h1 hx
theorem Kb (x:PV):eo H' (.one (.p x))=eo H (.one (.p x)):=by
 unfold eo
 split
 ·rename_i heq;injection heq with heq;injection heq with heq;subst heq;rfl
 ·rename_i heq;injection heq with heq;injection heq with heq;subst heq;rfl
 ·rename_i heq;cases heq
 rfl
theorem jK {t:TV} (hl:kS H H' t):cq H' t=cq H t/\ ∀b,bs b H' t=bs b H t:=by
 cases t with
 |one x=>
  cases x with
  |sl a r off len=>exact⟨by simp only[cq,show H' a=H a from hl],fun b=>by simp only[bs,show H' a=H a from hl]⟩
  |p x=>exact⟨Kd x,fun b=>rfl⟩
  |ptr a r i j=>exact⟨rfl,fun b=>rfl⟩
  |junk=>exact⟨rfl,fun b=>rfl⟩
 |agg cs=>exact⟨rfl,fun b=>rfl⟩
 |fn f cs=>exact⟨rfl,fun b=>rfl⟩
 |tup ts=>exact⟨rfl,fun b=>rfl⟩
theorem CW {t:TV} (hl:kS H H' t):eo H' t=eo H t:=by
 cases t with
 |one x=>
  cases x with
  |sl a r off len=>simp only[eo,show H' a=H a from hl]
  |p x=>exact Kb x
  |ptr a r i j=>rfl
  |junk=>rfl
 |agg cs=>rfl
 |fn f cs=>rfl
 |tup ts=>rfl
theorem zc {items:List (fh P)} {ow:List Nat} {i d:Nat} {ev ev':Operand->Option TV} {op:Op} (h: ∀x∈op.operands,ev x=ev' x) (hl: ∀x∈op.operands,∀t,ev x=some t->kS H H' t):bI P items ow i d ev H op=bI P items ow i d ev' H' op:=by
 cases op<;>simp only[Op.operands]at h hl<;>try (simp only[bI];done)
 case box e x=>simp only[bI,<- h x (by simp)]
 case makeSlice t l c=>simp only[bI,<- h l (by simp),<- h c (by simp)]
 case buildSlice t n parts=>
  simp only[bI]
  have: ∀n i,gU ev n i parts.toList=gU ev' n i parts.toList:=fun n i=>um _ _ (fun p hp=>h p.2 (by simp only[List.mem_toArray,au];exact⟨p,hp,rfl⟩))
  simp only[this]
 case call c=>
  obtain⟨callee,⟨args⟩,⟨argTypes⟩⟩:=c
  simp only[Call.operands]at h hl
  cases callee with
  |value f=>
   have he:bO ev args=bO ev' args:=mD args (fun x hx=>h x (by simp[hx]))
   cases f<;>try (simp only[bI];done)
   ·rename_i k
    simp only[bI]
    rw[<- he,<- h (.tmp k) (by simp)]
    cases hcl:rr (ev (.tmp k))with
    |none=>cases List.find? (fun x=>x.i==i) items<;>cases bO ev args<;>rfl
    |some fe=>
     obtain⟨f,extra⟩:=fe
     cases hts:bO ev args with
     |none=>cases List.find? (fun x=>x.i==i) items<;>rfl
     |some ts0=>
      have hex: ∀t∈extra,kS H H' t:=fun t ht=>by
       unfold rr at hcl
       split at hcl
       ·rename_i f' cs hk
        injection hcl with hcl
        injection hcl with hcl hcl'
        subst hcl hcl'
        have hs:=hl (.tmp k) (by simp) _ hk
        simp only[au]at ht
        obtain⟨y,hy,rfl⟩:=ht
        exact hs y hy
       ·split at hcl
        ·injection hcl with hcl
         injection hcl with hcl hcl'
         subst hcl hcl'
         simp at ht
        cases hcl
       cases hcl
      have hlv: ∀t∈ts0++extra,kS H H' t:=fun t ht=>by
       rcases List.mem_append.1 ht with ht|ht
       ·obtain⟨j,hj,rfl⟩:=List.getElem_of_mem ht
        obtain⟨x,hx,hxt⟩:=(fw hts).2 j _ (aD hj)
        exact hl x (by simp[aE hx]) _ hxt
       exact hex t ht
      have e1:(ts0++extra).map (cq H')=(ts0++extra).map (cq H):=List.map_congr_left fun t ht=>(jK (hlv t ht)).1
      have e2: ∀b,(ts0++extra).all (bs b H')=(ts0++extra).all (bs b H):=fun b=>by
       rw[Bool.eq_iff_iff]
       simp only[aq]
       exact⟨fun hh t ht=>by rw[<- (jK (hlv t ht)).2 b];exact hh t ht,fun hh t ht=>by rw[(jK (hlv t ht)).2 b];exact hh t ht⟩
      cases List.find? (fun x=>x.i==i) items with
      |none=>rfl
      |some it=>
       have ec:(it.f=f/\(ts0++extra).map (cq H')=it.args/\(ts0++extra).all (bs it.res.plain H')=true/\(!it.res.fam.isEmpty||noRefTV it.res.r)=true)↔(it.f=f/\(ts0++extra).map (cq H)=it.args/\(ts0++extra).all (bs it.res.plain H)=true/\(!it.res.fam.isEmpty||noRefTV it.res.r)=true):=by rw[e1,e2]
       by_cases hc:it.f=f/\(ts0++extra).map (cq H)=it.args/\(ts0++extra).all (bs it.res.plain H)=true/\(!it.res.fam.isEmpty||noRefTV it.res.r)=true
       ·simp only[]
        rw[if_pos hc,if_pos (ec.2 hc)]
       simp only[]
       rw[if_neg hc,if_neg (fun h=>hc (ec.1 h))]
   rename_i f
   simp only[bI]
   rw[<- he]
   cases hts:bO ev args with
   |none=>cases List.find? (fun x=>x.i==i) items<;>rfl
   |some ts=>
    have hlv: ∀t∈ts,kS H H' t:=fun t ht=>by
     obtain⟨k,hk,rfl⟩:=List.getElem_of_mem ht
     obtain⟨x,hx,hxt⟩:=(fw hts).2 k _ (aD hk)
     exact hl x (by simp[aE hx]) _ hxt
    have e1:ts.map (cq H')=ts.map (cq H):=List.map_congr_left fun t ht=>(jK (hlv t ht)).1
    have e2: ∀b,ts.all (bs b H')=ts.all (bs b H):=fun b=>by
     rw[Bool.eq_iff_iff]
     simp only[aq]
     exact⟨fun hh t ht=>by rw[<- (jK (hlv t ht)).2 b];exact hh t ht,fun hh t ht=>by rw[(jK (hlv t ht)).2 b];exact hh t ht⟩
    cases List.find? (fun x=>x.i==i) items with
    |none=>rfl
    |some it=>
     have ec:(it.f=f/\ts.map (cq H')=it.args/\ts.all (bs it.res.plain H')=true/\(!it.res.fam.isEmpty||noRefTV it.res.r)=true)↔(it.f=f/\ts.map (cq H)=it.args/\ts.all (bs it.res.plain H)=true/\(!it.res.fam.isEmpty||noRefTV it.res.r)=true):=by rw[e1,e2]
     by_cases hc:it.f=f/\ts.map (cq H)=it.args/\ts.all (bs it.res.plain H)=true/\(!it.res.fam.isEmpty||noRefTV it.res.r)=true
     ·simp only[]
      rw[if_pos hc,if_pos (ec.2 hc)]
     simp only[]
     rw[if_neg hc,if_neg (fun h=>hc (ec.1 h))]
  |builtin b=>
   cases b<;>try (simp only[bI];done)
   simp only[bI]
   split
   ·rename_i x y t t'
    rw[<- h x (by simp),<- h y (by simp)]
    have e1:(ev y).bind (eo H')=(ev y).bind (eo H):=by
     cases hy:ev y with
     |none=>rfl
     |some ty=>exact CW (hl y (by simp) ty hy)
    rw[e1]
   rfl
  |invoke r m=>simp only[bI]
end
end
end Go.Proofs.YtfgeomlagfomgaaGreatDoor
