/-
  Part 6 of a proof (walks and plain facts).
-/
import Derived.Test.YtpgghglbpcabkaaGreatQ04
import Derived.StillTailTactics
import Derived.Sort.Grow
import Derived.Deep.DeepFit
set_option linter.all false
set_option maxRecDepth 100000
set_option maxHeartbeats 64000000
namespace Go.Proofs.YtpgghglbpcabkaaGreat
open Go.RowKit
section
def Hm:List (Nat×List OObj)->OH
 |[],_=>[]
 |(k,F)::l,a=>if a=k then F else Hm l a
def IT (H:OH):List (Nat×List OObj)->Prop
 |[]=>True
 |(k,F)::l=>H k=F/\IT H l
def bj (ks:List Nat):AV->Bool
 | .sl a _ _ _=>ks.contains a
 | .ptr a _ _ _=>ks.contains a
 |_=>true
def bo (ks:List Nat):TV->Bool
 | .one x=>bj ks x
 | .agg cs=>cs.all (bj ks)
 | .fn _ cs=>cs.all (bj ks)
 | .tup ts=>ts.all fun t=>t.2.all (bj ks)
def b9 (ks:List Nat):List TV->List TV->Prop
 |[],[]=>True
 |x::xs,y::ys=>(y= .one .junk\/(y=x/\bo ks y=true))/\b9 ks xs ys
 |_,_=>False
section
variable {P:Program} {w0 w w':World} {O X:Nat->Prop} {ρ:gm} {H:OH}
theorem As {H:OH}: ∀{l:List (Nat×List OObj)},IT H l-> ∀a,((l.map (·.1)).contains a=true->Hm l a=H a)/\((l.map (·.1)).contains a=false->Hm l a=[])
 |[],_,a=>⟨fun h=>by simp at h,fun _=>rfl⟩
 |(k,F)::l,h,a=>by
  obtain⟨h1,h2⟩:=h
  obtain⟨g1,g2⟩:=As h2 a
  by_cases ha:a=k
  ·subst ha
   exact⟨fun _=>by simp[Hm,h1],fun h=>by simp at h⟩
  ·refine⟨fun h=>?_,fun h=>?_⟩
   ·simp only[Hm,ha,if_false]
    apply g1
    simpa[ha] using h
   ·simp only[Hm,ha,if_false]
    apply g2
    simpa[ha] using h
theorem BM {ks:List Nat}: ∀{l m:List TV},b9 ks l m->m.length=l.length/\ ∀(t:Nat) y,m[t]?=some y->y= .one .junk\/(l[t]?=some y/\bo ks y=true)
 |[],[],_=>⟨rfl,fun t y h=>by simp at h⟩
 |x::xs,y::ys,h=>by
  obtain⟨h1,h2⟩:=h
  obtain⟨g1,g2⟩:=BM h2
  refine⟨by simp[g1],fun t z hz=>?_⟩
  cases t with
  |succ t=>simp at hz⊢;exact g2 t z hz
  |zero=>
   simp at hz
   subst hz
   rcases h1 with h1|⟨h1,h3⟩
   ·exact .inl h1
   ·exact .inr ⟨by simp[h1],h3⟩
 |[],y::ys,h=>h.elim
 |x::xs,[],h=>h.elim
theorem Ij {H':OH} {Y Y':Nat->Prop} {ks:List Nat} (hk: ∀a,ks.contains a=true->H' a=H a) (hY: ∀b,Y' b->Y b) {x:AV} {v:Value} (ho:bj ks x=true) (h:x.rel ρ H Y w v):x.rel ρ H' Y' w v:=by
 cases x with
 |p x=>exact dy.weaken (fun b _ hb=>hY b hb) h
 |sl a r off len=>
  obtain⟨o,h1,h2⟩:=h
  exact⟨o,by rw[hk a ho];exact h1,h2⟩
 |ptr a r i j=>
  obtain⟨o,b,c,h1,h2⟩:=h
  exact⟨o,b,c,by rw[hk a ho];exact h1,h2⟩
 |junk=>trivial
theorem aj {s:AS} {tm:List TV} {l:List (Nat×List OObj)} (hl:IT s.H l) (ht:b9 (l.map (·.1)) s.tmps tm):dG s ⟨tm,Hm l⟩:=by
 rintro w0 O X a w ⟨h1,hsz,ρ,hinv,htm⟩
 obtain⟨t1,t2⟩:=BM ht
 have hk:=fun a=>As hl a
 have live: ∀(a r:Nat) o,(Hm l a)[r]?=some o->(l.map (·.1)).contains a=true/\(s.H a)[r]?=some o:=fun a r o ho=>by
  cases hc:(l.map (·.1)).contains a with
  |false=>rw[(hk a).2 hc]at ho;simp at ho
  |true=>rw[(hk a).1 hc]at ho;exact⟨rfl,ho⟩
 have hXo: ∀b,Xo X ρ (Hm l) b->Xo X ρ s.H b:=fun b hb=>by
  rcases hb with hb|⟨x,y,o,n,g1,g2⟩
  ·exact .inl hb
  ·exact .inr ⟨x,y,o,n,(live x y o g1).2,g2⟩
 have hmap: ∀x v,bj (l.map (·.1)) x=true->AV.rel ρ s.H (Xo X ρ s.H) w x v->AV.rel ρ (Hm l) (Xo X ρ (Hm l)) w x v:=fun x v ho h=>Ij (fun a ha=>(hk a).1 ha) hXo ho h
 have hagg: ∀cs v,cs.all (bj (l.map (·.1)))=true->dv ρ s.H (Xo X ρ s.H) w cs v->dv ρ (Hm l) (Xo X ρ (Hm l)) w cs v:=fun cs v ho h=>by
  simp only[List.all_eq_true]at ho
  obtain⟨vs,g1,g2,g3⟩:=h
  exact⟨vs,g1,g2,fun j x hx=>by obtain⟨u,u1,u2,u3⟩:=g3 j x hx;exact⟨u,u1,u2,hmap x u (ho x (List.mem_of_getElem? hx)) u3⟩⟩
 refine⟨h1,by simp only;omega,ρ,⟨hinv.keep,fun a r o ho=>?_,fun a r a' r' o o' b c c' ho ho'=>hinv.inj a r a' r' o o' b c c' (live a r o ho).2 (live a' r' o' ho').2,fun a r o b c ho=>hinv.old a r o b c (live a r o ho).2,hinv.bar,fun a r o ho=>hinv.self a r o (live a r o ho).2⟩,fun t x hx=>?_⟩
 ·obtain⟨hc,ho'⟩:=live a r o ho
  obtain⟨q1,q2,q3⟩:=hinv.objs a r o ho'
  refine⟨q1,q2,?_⟩
  cases hr:ρ a r with
  |none=>rw[hr]at q3;exact q3
  |some bc=>
   obtain⟨b,c⟩:=bc
   rw[hr]at q3
   obtain⟨cells,p1,p2,p3,p4,p5⟩:=q3
   refine⟨cells,p1,p2,p3,p4,fun i e j x he hx=>?_⟩
   obtain⟨u,u1,u2,u3⟩:=p5 i e j x he hx
   have hs:=hinv.self a r o ho' e (List.mem_of_getElem? he) x (List.mem_of_getElem? hx)
   refine⟨u,u1,u2,hmap x u ?_ u3⟩
   cases x with
   |sl y _ _ _=>have hs:y=a:=hs;subst hs;exact hc
   |ptr y _ _ _=>have hs:y=a:=hs;subst hs;exact hc
   |p y=>rfl
   |junk=>rfl
 ·rcases t2 t x hx with rfl|⟨hx',hok⟩
  ·obtain⟨v,hv⟩: ∃v,a.tmps[t]?=some v:=by
    have:t<tm.length:=(List.getElem?_eq_some_iff.1 hx).1
    exact⟨_,Array.getElem?_eq_getElem (by omega)⟩
   exact⟨v,hv,trivial⟩
  ·obtain⟨v,v1,v2⟩:=htm t x hx'
   refine⟨v,v1,?_⟩
   cases x with
   |one x=>exact hmap x v hok v2
   |agg cs=>exact hagg cs v hok v2
   |fn f cs=>obtain⟨u,h1,h2⟩:=v2;exact⟨u,hagg cs u hok h1,h2⟩
   |tup ts=>
    simp only[bo,List.all_eq_true]at hok
    obtain⟨vs,g1,g2,g3⟩:=v2
    refine⟨vs,g1,g2,fun j b cs hj=>?_⟩
    obtain⟨u,u1,u2⟩:=g3 j b cs hj
    have hall:=hok (b,cs) (List.mem_of_getElem? hj)
    refine⟨u,u1,?_⟩
    rcases u2 with⟨u2,u3⟩|⟨u2,y,rfl,u4⟩
    ·exact .inl ⟨u2,hagg cs u (by simpa only[List.all_eq_true] using hall) u3⟩
    ·exact .inr ⟨u2,y,rfl,hmap y u (hall y (by simp)) u4⟩
theorem fG {s:AS} {k d:Nat} (ty:TypeId) (es:Nat) (hes:0<es) (hd:s.H d=[]) (hk:s.tmps[k]?=some (.raw (.slice none 0 0))):dG s ⟨s.tmps.set k (.one (.sl d 0 0 0)),aJ s.H d [⟨ty,es,[]⟩]⟩:=by
 rintro w0 O X a w ⟨h1,hsz,ρ,hinv,htm⟩
 have htm:di X ρ s a w:=htm
 obtain⟨v,v1,v2⟩:=htm k _ hk
 have hv:=(dM v2).1
 subst hv
 have hnew: ∀(r b c:Nat),(fun _=>none:Nat->Option (Nat×Nat)) r=some (b,c)->w.heap.size<=b:=fun r b c h=>by cases h
 have hmono: ∀x u,AV.rel ρ s.H (Xo X ρ s.H) w x u->AV.rel (newρ ρ d fun _=>none) (aJ s.H d [⟨ty,es,[]⟩]) (Xo X (newρ ρ d fun _=>none) (aJ s.H d [⟨ty,es,[]⟩])) w x u:=fun x u h=>l9 hinv (Ext.refl w) hd hnew h
 refine⟨h1,by simpa using hsz,newρ ρ d fun _=>none,⟨hinv.keep,fun a' r o ho=>?_,fun a' r a'' r' o o' b c c' ho ho' hr hr'=>?_,fun a' r o b c ho hr=>?_,hinv.bar,fun a' r o ho=>?_⟩,fun t x hx=>?_⟩
 ·by_cases ha:a'=d
  ·subst ha
   simp only[cz]at ho
   cases r with
   |succ r=>simp at ho
   |zero=>simp at ho;subst ho;exact⟨by simp,hes,by rw[newρ_eq]⟩
  ·simp only[bO ha]at ho
   exact fk (hinv.objs a' r o ho) (newρ_ne ha r) (fun b c hb=>rfl) hmono
 ·by_cases ha:a'=d
  ·subst ha;rw[newρ_eq]at hr;cases hr
  ·by_cases ha':a''=d
   ·subst ha';rw[newρ_eq]at hr';cases hr'
   ·rw[newρ_ne ha]at hr
    rw[newρ_ne ha']at hr'
    simp only[bO ha]at ho
    simp only[bO ha']at ho'
    exact hinv.inj a' r a'' r' o o' b c c' ho ho' hr hr'
 ·by_cases ha:a'=d
  ·subst ha;rw[newρ_eq]at hr;cases hr
  ·rw[newρ_ne ha]at hr
   simp only[bO ha]at ho
   exact hinv.old a' r o b c ho hr
 ·by_cases ha:a'=d
  ·subst ha
   simp only[cz]at ho
   cases r with
   |succ r=>simp at ho
   |zero=>simp at ho;subst ho;exact fun e he=>by simp at he
  ·simp only[bO ha]at ho
   exact hinv.self a' r o ho
 ·by_cases hkt:k=t
  ·subst hkt
   simp only[List.getElem?_set,if_true]at hx
   split at hx
   ·injection hx with hx
    subst hx
    exact⟨_,v1,⟨ty,es,[]⟩,by show(aJ s.H d [⟨ty,es,[]⟩] d)[0]?=_;rw[cz];rfl,by simp,.inl ⟨by rw[newρ_eq],rfl,rfl,rfl⟩⟩
   ·cases hx
  ·simp only[List.getElem?_set_ne hkt]at hx
   obtain⟨u,u1,u2⟩:=htm t x hx
   exact⟨u,u1,TV.rel_map u2 hmono⟩
theorem mR {Y Z:Nat->Prop} {a r off len:Nat} {o:OObj} {v:Value} {F:AV->PV} (hob:objRel ρ H Y w a r o) (ho:(H a)[r]?=some o) (hcell: ∀e∈o.elems,∀x∈e,∀u,x.rel ρ H Y w u->dy Z w (F x) u) (hZb: ∀b c,ρ a r=some (b,c)-> ¬Z b)
  (h:AV.rel ρ H Y w (.sl a r off len) v):dy Z w (.sl (((o.elems.take (off+len)).drop off).map (List.map F))) v:=by
 obtain⟨o',g1,g2,g3⟩:=h
 rw[ho]at g1
 injection g1 with g1
 subst g1
 obtain⟨q1,q2,q3⟩:=hob
 have hl:(((o.elems.take (off+len)).drop off).map (List.map F)).length=len:=by simp;omega
 rcases g3 with⟨gr,gv,gl,go⟩|⟨b,c,gr,gv⟩
 ·rw[List.length_eq_zero_iff.1 (hl.trans gl),gv]
  exact dy.nil _ _
 ·by_cases hl0:len=0
  ·rw[List.length_eq_zero_iff.1 (hl.trans hl0),gv,hl0]
   exact dy.nil _ _
  ·rw[gr]at q3
   obtain⟨cells,p1,p2,p3,p4,p5⟩:=q3
   have hsub: ∀(i:Nat) e,(((o.elems.take (off+len)).drop off).map (List.map F))[i]?=some e-> ∃e',o.elems[off+i]?=some e'/\e=e'.map F:=fun i e he=>by
    rw[List.getElem?_map]at he
    obtain⟨e',he',rfl⟩:=Option.map_eq_some_iff.1 he
    rw[List.getElem?_drop,List.getElem?_take]at he'
    split at he'
    ·exact⟨e',he',rfl⟩
    ·cases he'
   have hcl: ∀(i:Nat) e (j:Nat) x,(((o.elems.take (off+len)).drop off).map (List.map F))[i]?=some e->e[j]?=some x-> ∃u:Value,cells[(off+i)*o.es+j]?=some u/\dy Z w x u:=fun i e j x he hx=>by
    obtain⟨e',he',rfl⟩:=hsub i e he
    rw[List.getElem?_map]at hx
    obtain⟨x',hx',rfl⟩:=Option.map_eq_some_iff.1 hx
    obtain⟨u,u1,u2,u3⟩:=p5 _ e' j x' he' hx'
    exact⟨u,u1,hcell e' (List.mem_of_getElem? he') x' (List.mem_of_getElem? hx') u u3⟩
   rw[gv]
   have:=dy.sl (X:=Z) (w:=w) b (off*o.es) o.es (c-off) (((o.elems.take (off+len)).drop off).map (List.map F)) (fun i j=>(cells[(off+i)*o.es+j]?).getD undef) (hZb b c gr) (Array.getElem?_eq_some_iff.1 p1).1
    (fun e he=>by
     simp only[List.mem_map]at he
     obtain⟨e',he',rfl⟩:=he
     rw[List.length_map]
     exact q1 e' (List.mem_of_mem_take (List.mem_of_mem_drop he'))) (by omega) (by omega)
    (fun i e j x he hx=>by
     obtain⟨u,u1,_⟩:=hcl i e j x he hx
     rw[cell_of_row _ b _ cells o.ty (0,0) p1,<- Nat.add_mul,u1]
     rfl)
    (fun i e j x he hx=>by
     obtain⟨u,u1,u2⟩:=hcl i e j x he hx
     simp only[u1,Option.getD_some];exact u2)
   rw[hl]at this
   exact this
def ke (H:OH) (a:Nat):AV->PV
 | .p x=>x
 | .sl _ r off len=>match(H a)[r]? with
  |some o=> .sl (((o.elems.take (off+len)).drop off).map (List.map ka))
  |none=> .raw undef
 |_=> .raw undef
def fu (H:OH) (a:Nat):AV->AV
 | .sl b r off len=>if b=a then(match(H a)[r]? with
  |some o=> .p (.sl (((o.elems.take (off+len)).drop off).map (List.map (ke H a))))
  |none=> .junk)else .sl b r off len
 | .ptr b r i j=>if b=a then .junk else .ptr b r i j
 |x=>x
def gH (H:OH) (a:Nat):TV->TV
 | .one x=> .one (fu H a x)
 | .agg cs=> .agg (cs.map (fu H a))
 | .fn f cs=> .fn f (cs.map (fu H a))
 | .tup ts=> .tup (ts.map fun t=>(t.1,t.2.map (fu H a)))
def Bt (o:OObj):Prop:= ∀e∈o.elems,∀x∈e,isPure x=true
def vJ (H:OH) (a:Nat):Prop:= ∀(r:Nat) o,(H a)[r]?=some o-> ∀e∈o.elems,∀x∈e,isPure x=true\/ ∃r' off len o',x= .sl a r' off len/\(H a)[r']?=some o'/\Bt o'
theorem cQ {s:AS} (a:Nat) (hok:vJ s.H a):dG s ⟨s.tmps.map (gH s.H a),aJ s.H a []⟩:=by
 rintro w0 O X act w ⟨h1,hsz,ρ,hinv,htm⟩
 have htm:di X ρ s act w:=htm
 have hna: ∀(x y:Nat) o,(aJ s.H a [] x)[y]?=some o->x≠a/\(s.H x)[y]?=some o:=fun x y o ho=>by
  by_cases hx:x=a
  ·subst hx;rw[cz]at ho;simp at ho
  ·rw[bO hx]at ho;exact⟨hx,ho⟩
 have hXo: ∀b,Xo X ρ (aJ s.H a []) b->Xo X ρ s.H b:=fun b hb=>by
  rcases hb with hb|⟨x,y,o,n,g1,g2⟩
  ·exact .inl hb
  ·exact .inr ⟨x,y,o,n,(hna x y o g1).2,g2⟩
 have hZb: ∀(r:Nat) o,(s.H a)[r]?=some o-> ∀b c,ρ a r=some (b,c)-> ¬Xo X ρ (aJ s.H a []) b:=fun r o ho b c hr hX=>by
  rcases hX with hX|⟨x,y,o',n,g1,g2⟩
  ·exact(hinv.old a r o b c ho hr).2 hX
  ·obtain⟨hx,g1'⟩:=hna x y o' g1
   exact hx (hinv.inj x y a r o' o b n c g1' ho g2 hr).1
 have hpure: ∀x u,isPure x=true->AV.rel ρ s.H (Xo X ρ s.H) w x u->dy (Xo X ρ (aJ s.H a [])) w (ka x) u:=fun x u hp h=>by
  cases x<;>first|exact dy.weaken (fun b _ hb=>hXo b hb) h|cases hp
 have hcell: ∀(r:Nat) o,(s.H a)[r]?=some o-> ∀e∈o.elems,∀x∈e,∀u,AV.rel ρ s.H (Xo X ρ s.H) w x u->dy (Xo X ρ (aJ s.H a [])) w (ke s.H a x) u:=fun r o ho e he x hx u hu=>by
  rcases hok r o ho e he x hx with hp|⟨r',off,len,o',rfl,ho',hpr⟩
  ·have:=hpure x u hp hu
   cases x<;>first|exact this|cases hp
  ·simp only[ke,ho']
   exact mR (hinv.objs a r' o' ho') ho' (fun e he y hy u hu=>hpure y u (hpr e he y hy) hu) (hZb r' o' ho') hu
 have hmap: ∀x v,AV.rel ρ s.H (Xo X ρ s.H) w x v->AV.rel ρ (aJ s.H a []) (Xo X ρ (aJ s.H a [])) w (fu s.H a x) v:=fun x v h=>by
  cases x with
  |p x=>exact dy.weaken (fun b _ hb=>hXo b hb) h
  |sl b r off len=>
   simp only[fu]
   by_cases hb:b=a
   ·subst hb
    rw[if_pos rfl]
    have h':=h
    obtain⟨o,g1,g2,g3⟩:=h
    rw[g1]
    exact mR (hinv.objs b r o g1) g1 (hcell r o g1) (hZb r o g1) h'
   ·rw[if_neg hb]
    obtain⟨o,g1,g2⟩:=h
    exact⟨o,by rw[bO hb];exact g1,g2⟩
  |ptr b r i j=>
   simp only[fu]
   by_cases hb:b=a
   ·subst hb;rw[if_pos rfl];trivial
   ·rw[if_neg hb]
    obtain⟨o,b',c,g1,g2⟩:=h
    exact⟨o,b',c,by rw[bO hb];exact g1,g2⟩
  |junk=>trivial
 have hagg: ∀cs v,dv ρ s.H (Xo X ρ s.H) w cs v->dv ρ (aJ s.H a []) (Xo X ρ (aJ s.H a [])) w (cs.map (fu s.H a)) v:=fun cs v h=>by
  obtain⟨vs,g1,g2,g3⟩:=h
  refine⟨vs,g1,by simpa using g2,fun j x hx=>?_⟩
  rw[List.getElem?_map]at hx
  obtain⟨y,hy,rfl⟩:=Option.map_eq_some_iff.1 hx
  obtain⟨u,u1,u2,u3⟩:=g3 j y hy
  exact⟨u,u1,u2,hmap y u u3⟩
 refine⟨h1,by simpa using hsz,ρ,⟨hinv.keep,fun x y o ho=>?_,fun x y x' y' o o' b c c' ho ho'=>hinv.inj x y x' y' o o' b c c' (hna x y o ho).2 (hna x' y' o' ho').2,fun x y o b c ho=>hinv.old x y o b c (hna x y o ho).2,hinv.bar,fun x y o ho=>hinv.self x y o (hna x y o ho).2⟩,fun t x hx=>?_⟩
 ·obtain⟨hx,ho'⟩:=hna x y o ho
  obtain⟨q1,q2,q3⟩:=hinv.objs x y o ho'
  refine⟨q1,q2,?_⟩
  cases hr:ρ x y with
  |none=>rw[hr]at q3;exact q3
  |some bc=>
   obtain⟨b,c⟩:=bc
   rw[hr]at q3
   obtain⟨cells,p1,p2,p3,p4,p5⟩:=q3
   refine⟨cells,p1,p2,p3,p4,fun i e j z he hz=>?_⟩
   obtain⟨u,u1,u2,u3⟩:=p5 i e j z he hz
   have hs:=hinv.self x y o ho' e (List.mem_of_getElem? he) z (List.mem_of_getElem? hz)
   have:=hmap z u u3
   refine⟨u,u1,u2,?_⟩
   cases z with
   |sl z _ _ _=>have hs:z=x:=hs;subst hs;simpa[fu,hx] using this
   |ptr z _ _ _=>have hs:z=x:=hs;subst hs;simpa[fu,hx] using this
   |p z=>exact this
   |junk=>trivial
 ·simp only[List.getElem?_map]at hx
  obtain⟨y,hy,rfl⟩:=Option.map_eq_some_iff.1 hx
  obtain⟨v,v1,v2⟩:=htm t y hy
  refine⟨v,v1,?_⟩
  cases y with
  |one x=>exact hmap x v v2
  |agg cs=>exact hagg cs v v2
  |fn f cs=>obtain⟨u,h1,h2⟩:=v2;exact⟨u,hagg cs u h1,h2⟩
  |tup ts=>
   obtain⟨vs,g1,g2,g3⟩:=v2
   refine⟨vs,g1,by simpa using g2,fun j b cs hj=>?_⟩
   rw[List.getElem?_map]at hj
   obtain⟨z,hz,hzz⟩:=Option.map_eq_some_iff.1 hj
   obtain⟨b',cs'⟩:=z
   simp at hzz
   obtain⟨rfl,rfl⟩:=hzz
   obtain⟨u,u1,u2⟩:=g3 j b' cs' hz
   refine⟨u,u1,?_⟩
   rcases u2 with⟨u2,u3⟩|⟨u2,q,rfl,u4⟩
   ·exact .inl ⟨u2,hagg _ _ u3⟩
   ·exact .inr ⟨u2,_,rfl,hmap q u u4⟩
end
end
section
section
variable {P:Program} {s:AS} {Q:Exit->AS->Prop} {x y z:Code}
theorem DE (items:List (ar P)) (ow:List Nat) {id:Nat} {ops:Array Oper} (hl:s.tmps.length<=1000000) (h: ∀K:AS->Prop,(∀s',bT P y Q s'->K s')->eE P (items.map ar.a) ow (dC ops ops.toList 0) (some s) K):bT P (.seq (.region id ops false) y) Q s:=
 ae (qU items ow hl (h _ fun _ h=>h))
theorem aa {P:Program} {s:AS} {Q:Exit->AS->Prop} {y:Code} (items:List (ar P)) {id:Nat} {ops:Array Oper} (h: ∀K:AS->Prop,(∀s',bT P y Q s'->K s')->eE P (items.map ar.a) [] (dC ops ops.toList 0) (some s) K) (hl:s.tmps.length<=1000000:=by simp):bT P (.seq (.region id ops false) y) Q s:=DE items [] hl h
theorem aU (items:List (ar P)) (ow:List Nat) {id:Nat} {ops:Array Oper} (hl:s.tmps.length<=1000000) (h: ∀K:AS->Prop,(∀s',Q .normal s'->K s')->eE P (items.map ar.a) ow (dC ops ops.toList 0) (some s) K):bT P (.region id ops false) Q s:=
 qU items ow hl (h _ fun _ h=>h)
theorem Gr {G:Type} (St:G->AS) (μ:G->Nat) (g0:G) {id:Nat} (h0:dG s (St g0))
  (round: ∀g,bT P x (lJ (fun s'=> ∃g',μ g'<μ g/\dG s' (St g')) (nA id (lJ (bT P y Q) Q))) (St g)):bT P (.seq (.block id (.loop x)) y) Q s:=
 ae (aI (w8 St μ g0 h0 round))
theorem bD {G:Type} (St:G->AS) (μ:G->Nat) (g0:G) {id:Nat} (h0:dG s (St g0))
  (round: ∀g,bT P x (lJ (fun s'=> ∃g',μ g'<μ g/\dG s' (St g')) (nA id Q)) (St g)):bT P (.block id (.loop x)) Q s:=
 aI (w8 St μ g0 h0 round)
theorem bC {n:Int} (h1: -9223372036854775808<=n) (h2:n<=9223372036854775807):IntKind.i64.wrap n=n:=IntWalk.i64_in _ (by omega)
theorem dS {n:Int} (h1:0<=n) (h2:n<18446744073709551616):IntKind.u64.wrap n=n:=by rw[IntKind.wrap_u64];omega
theorem BN {n:Int} (h1:0<=n) (h2:n<4294967296):IntKind.u32.wrap n=n:=by rw[IntKind.wrap_u32];omega
theorem B8 {f:FuncId} {args:List TV} {res:CallRes} (k:Nat) (xs:List (List PV)) (hk:args[k]?=some (.one (.p (.sl xs)))) (h:xs.length<=9223372036854775807->CallC P f args res) (hc:callable P f=true):CallC P f args res:=by
 refine⟨hc,fun X w vs hX hvs hargs=>?_⟩
 obtain⟨v,_,hr⟩:=hargs k _ hk
 have hr:dy X w (.sl xs) v:=hr
 refine(h ?_).2 X w vs hX hvs hargs
 cases hr with
 |nil a c=>simp
 |sl b off es cap xs f hX hb hes hcap hm hc hr=>exact hm
end
end
section
def ls {α:Type} (f:α->List PV) (l:List α):List (List PV):=l.map f
def lc {α:Type} (f:α->List PV) (l:List α):List (List AV):=l.map fun x=>(f x).map AV.p
section
variable {α:Type} {f:α->List PV}
theorem aR (l:List α):(ls f l).length=l.length:=by simp[ls]
theorem eJ (l:List α):(lc f l).length=l.length:=by simp[lc]
theorem bG (l:List α) (i:Nat):(ls f l)[i]?=(l[i]?).map f:=by simp[ls]
theorem cb (l:List α) (i:Nat):(lc f l)[i]?=(l[i]?).map fun x=>(f x).map AV.p:=by simp[lc]
theorem Bc (l:List α) (i:Nat):(ls f l).take i=ls f (l.take i):=by simp[ls]
theorem eB (l:List α) (i:Nat):(lc f l).take i=lc f (l.take i):=by simp[lc]
theorem A9 (l:List α) (i:Nat):(lc f l).drop i=lc f (l.drop i):=by simp[lc]
theorem EK (l:List α):(ls f l).map (List.map AV.p)=lc f l:=by simp[ls,lc]
theorem G7 (l:List PV):(l.map AV.p).map ka=l:=by rw[List.map_map];exact(List.map_congr_left (fun _ _=>rfl)).trans (List.map_id l)
theorem Ba (l:List α):(lc f l).map (List.map ka)=ls f l:=by
 simp only[ls,lc,List.map_map]
 exact List.map_congr_left fun x _=>G7 (f x)
theorem d8 (H:OH) (a:Nat) (l:List α):(lc f l).map (List.map (ke H a))=ls f l:=by
 simp only[ls,lc,List.map_map]
 refine List.map_congr_left fun x _=>?_
 show((f x).map AV.p).map (ke H a)=f x
 rw[List.map_map];exact(List.map_congr_left (fun _ _=>rfl)).trans (List.map_id _)
theorem eI (l:List α):((lc f l).all fun e=>e.all isPure)=true:=by
 simp[lc,isPure]
theorem Bb (x:α) (l:List α):ls f (x::l)=f x::ls f l:=rfl
theorem jt:ls f []=[]:=rfl
theorem EF (l:List α) (i:Nat) (x:α):(lc f l).set i ((f x).map AV.p)=lc f (l.set i x):=by simp[lc,List.map_set]
theorem zI {n:Nat} (hf: ∀x,(f x).length=n) (l:List α):(∀c∈ls f l,c.length=n)=True:=by
 simp only[eq_iff_iff,iff_true]
 intro c hc
 obtain⟨x,_,rfl⟩:=List.mem_map.1 hc
 exact hf x
theorem Jt {n:Nat} (hf: ∀x,(f x).length=n) (l:List α):(∀c∈lc f l,c.length=n)=True:=by
 simp only[eq_iff_iff,iff_true]
 intro c hc
 obtain⟨x,_,rfl⟩:=List.mem_map.1 hc
 rw[List.length_map];exact hf x
theorem em (k:Nat->Nat->Bool) (l:List α):(lc f l).map (List.map (aT k))=lc f l:=by
 simp only[lc,List.map_map]
 refine List.map_congr_left fun x _=>?_
 show((f x).map AV.p).map (aT k)=_
 rw[List.map_map];exact List.map_congr_left (fun _ _=>rfl)
theorem pL (d:Nat) (l:List α):(lc f l).map (List.map (aE d))=lc f l:=by
 simp only[lc,List.map_map]
 refine List.map_congr_left fun x _=>?_
 show((f x).map AV.p).map (aE d)=_
 rw[List.map_map];exact List.map_congr_left (fun _ _=>rfl)
theorem ao {z:Int} (h:0<=z):xN z=some z.toNat:=if_pos h
theorem jv (t:TypeId) (n:Nat) (l:List α):Bt ⟨t,n,lc f l⟩:=fun e he x hx=>by
 obtain⟨y,_,rfl⟩:=List.mem_map.1 he
 obtain⟨z,_,rfl⟩:=List.mem_map.1 hx
 rfl
theorem dH {H:OH} {a:Nat} {t:TypeId} {n:Nat} {l:List α} (h:H a=[⟨t,n,lc f l⟩]):vJ H a:=fun r o ho e he x hx=>by
 rw[h]at ho
 cases r with
 |succ r=>simp at ho
 |zero=>simp at ho;subst ho;exact .inl (jv t n l e he x hx)
end
theorem eZ {β:Type} (p:β->Prop):(∀e∈([]:List β),p e)=True:=by simp
theorem ef {β:Type} (p:β->Prop) (x:β) (l:List β):(∀e∈x::l,p e)=(p x/\ ∀e∈l,p e):=by simp
theorem bH {c:Prop} [Decidable c] (h:c) {β:Type} (a b:β):(if c then a else b)=a:=if_pos h
theorem cP {c:Prop} [Decidable c] (h: ¬c) {β:Type} (a b:β):(if c then a else b)=b:=if_neg h
theorem bA {c:Prop} [Decidable c] (h:c):decide c=true:=decide_eq_true h
theorem bf {c:Prop} [Decidable c] (h: ¬c):decide c=false:=decide_eq_false h
def fU (n:Nat):List PV:=[.raw (.int .u32 (n:Int))]
theorem vI (n:Nat):(fU n).length=1:=rfl
def fI (z:Int):List PV:=[.raw (.int .i64 z)]
def fN (z:Nat):List PV:=[.raw (.int .i64 (z:Int))]
theorem sA {d:Nat} {t:TV} (h:noRefTV t=true):mg d t/\aG 0 t=t:=by
 have av: ∀x,am x=true->fE d x/\aE 0 x=x:=fun x hx=>by cases x<;>first|exact⟨trivial,rfl⟩|cases hx
 cases t with
 |one x=>exact⟨(av x h).1,by simp only[aG,(av x h).2]⟩
 |agg cs=>
  simp only[noRefTV,List.all_eq_true]at h
  exact⟨fun x hx=>(av x (h x hx)).1,by simp only[aG];congr 1;exact(List.map_congr_left fun x hx=>(av x (h x hx)).2).trans (List.map_id _)⟩
 |fn f cs=>
  simp only[noRefTV,List.all_eq_true]at h
  exact⟨fun x hx=>(av x (h x hx)).1,by simp only[aG];congr 1;exact(List.map_congr_left fun x hx=>(av x (h x hx)).2).trans (List.map_id _)⟩
 |tup ts=>
  simp only[noRefTV,List.all_eq_true]at h
  refine⟨fun t ht x hx=>(av x (h t ht x hx)).1,?_⟩
  simp only[aG]
  congr 1
  refine(List.map_congr_left fun t ht=>?_).trans (List.map_id _)
  show(t.1,t.2.map (aE 0))=t
  rw[(List.map_congr_left fun x hx=>(av x (h t ht x hx)).2).trans (List.map_id t.2)]
theorem iI (l:List Nat) (a:Nat):lc fU l++[[AV.p (.raw (.int .u32 (a:Int)))]]=lc fU (l++[a]):=by simp[lc,fU]
theorem xG (l:List Int) (a:Int):lc fI l++[[AV.p (.raw (.int .i64 a))]]=lc fI (l++[a]):=by simp[lc,fI]
theorem lZ (l:List Nat) (a:Nat):lc fN l++[[AV.p (.raw (.int .i64 (a:Int)))]]=lc fN (l++[a]):=by simp[lc,fN]
theorem pc {P:Program} {fn:Func} {s:AS} {r:TV} {d:Nat} (hd:s.H d=[]) (h:bE P s fn.results.toList=some r) (hp:noRefTV r=true):ql P fn ⟨[],r⟩ s:=
 ⟨r,d,h,(sA hp).1,by rw[hd];rfl,(sA (d:=0) hp).2.symm⟩
theorem lk {P:Program} {fn:Func} {s:AS} {r:TV} (d:Nat) (hok:vJ s.H d) (h:bE P ⟨s.tmps.map (gH s.H d),aJ s.H d []⟩ fn.results.toList=some r) (hp:noRefTV r=true): ∃s',dG s s'/\ql P fn ⟨[],r⟩ s':=
 ⟨_,cQ d hok,pc (d:=d) (by simp[aJ]) h hp⟩
theorem aO {P:Program} {fn:Func} {s:AS} {r:TV} (hd:s.H 1000=[]) (h:bE P s fn.results.toList=some r) (hp:noRefTV r=true): ∃s',dG s s'/\ql P fn ⟨[],r⟩ s':=
 ⟨_,dG.refl _,pc hd h hp⟩
end
theorem bN:mY Tryz.prog 118=some false:=by kernel_rfl
theorem fQ:mY Tryz.prog 128=some true:=by kernel_rfl
theorem fF:mY Tryz.prog 2=some false:=by kernel_rfl
theorem tz:mY Tryz.prog 22=some false:=by kernel_rfl
theorem tA:mY Tryz.prog 23=some false:=by kernel_rfl
theorem rm:mY Tryz.prog 3=some false:=by kernel_rfl
theorem yv:mY Tryz.prog 32=some true:=by kernel_rfl
theorem ce:mY Tryz.prog 35=some false:=by kernel_rfl
theorem cE:mY Tryz.prog 4=some false:=by kernel_rfl
theorem BG:mY Tryz.prog 5=some false:=by kernel_rfl
theorem cj:mY Tryz.prog 51=some false:=by kernel_rfl
theorem aW:mY Tryz.prog 53=some true:=by kernel_rfl
theorem cu:mY Tryz.prog 91=some false:=by kernel_rfl
theorem tB:rG Tryz.prog 3=false:=by kernel_rfl
theorem eR:rG Tryz.prog 4=true:=by kernel_rfl
theorem eA:DT Tryz.prog 118=some 4:=by kernel_rfl
theorem j8:DT Tryz.prog 2=some 8:=by kernel_rfl
theorem tC:DT Tryz.prog 3=some 8:=by kernel_rfl
theorem jT:DT Tryz.prog 35=some 24:=by kernel_rfl
theorem lC:DT Tryz.prog 53=some 32:=by kernel_rfl
theorem pp:DT Tryz.prog 91=some 24:=by kernel_rfl
theorem mt:iu Tryz.prog 128 0=some (0,53):=by kernel_rfl
theorem mu:iu Tryz.prog 128 1=some (2,53):=by kernel_rfl
theorem Ak:iu Tryz.prog 32 0=some (0,5):=by kernel_rfl
theorem Al:iu Tryz.prog 32 1=some (1,5):=by kernel_rfl
theorem Am:iu Tryz.prog 32 2=some (2,23):=by kernel_rfl
theorem oh:iu Tryz.prog 45 0=some (0,23):=by kernel_rfl
theorem ol:iu Tryz.prog 45 1=some (1,3):=by kernel_rfl
theorem bP:iu Tryz.prog 53 0=some (0,4):=by kernel_rfl
theorem bU:iu Tryz.prog 53 1=some (1,51):=by kernel_rfl
theorem cJ:xD Tryz.prog 118=some .u32:=by kernel_rfl
theorem ro:xD Tryz.prog 2=some .i64:=by kernel_rfl
theorem BH:xD Tryz.prog 3=some .i64:=by kernel_rfl
theorem Il:xD Tryz.prog 5=some .u8:=by kernel_rfl
theorem cn:xD Tryz.prog 88=some .u64:=by kernel_rfl
theorem qa:oY Tryz.prog 128=some [(0,2),(2,2)]:=by kernel_rfl
theorem yw:oY Tryz.prog 45=some [(0,1),(1,1)]:=by kernel_rfl
theorem fO:oY Tryz.prog 53=some [(0,1),(1,1)]:=by kernel_rfl
theorem fh:fb Tryz.prog 134=some 3:=by kernel_rfl
theorem aL:fb Tryz.prog 22=some 35:=by kernel_rfl
theorem oo:fb Tryz.prog 23=some 79:=by kernel_rfl
theorem bM:fb Tryz.prog 35=some 2:=by kernel_rfl
theorem aZ:fb Tryz.prog 48=some 91:=by kernel_rfl
theorem an:fb Tryz.prog 51=some 118:=by kernel_rfl
theorem bL:fb Tryz.prog 91=some 53:=by kernel_rfl
theorem bs:kD Tryz.prog 118=some 1:=by kernel_rfl
theorem eW:kD Tryz.prog 128=some 4:=by kernel_rfl
theorem dL:kD Tryz.prog 2=some 1:=by kernel_rfl
theorem wK:kD Tryz.prog 22=some 1:=by kernel_rfl
theorem wL:kD Tryz.prog 23=some 1:=by kernel_rfl
theorem lD:kD Tryz.prog 3=some 1:=by kernel_rfl
theorem BI:kD Tryz.prog 32=some 4:=by kernel_rfl
theorem b7:kD Tryz.prog 35=some 1:=by kernel_rfl
theorem db:kD Tryz.prog 4=some 1:=by kernel_rfl
theorem FW:kD Tryz.prog 5=some 1:=by kernel_rfl
theorem cH:kD Tryz.prog 51=some 1:=by kernel_rfl
theorem aM:kD Tryz.prog 53=some 2:=by kernel_rfl
theorem cw:kD Tryz.prog 91=some 1:=by kernel_rfl
theorem dn:iM Tryz.prog 118=some [(.int .u32 0)]:=by kernel_rfl
theorem eF:iM Tryz.prog 128=some [(.bool false),(.slice none 0 0),(.bool false),(.slice none 0 0)]:=by kernel_rfl
theorem gK:iM Tryz.prog 2=some [(.int .i64 0)]:=by kernel_rfl
theorem mv:iM Tryz.prog 3=some [(.int .i64 0)]:=by kernel_rfl
theorem gX:iM Tryz.prog 35=some [(.slice none 0 0)]:=by kernel_rfl
theorem u9:iM Tryz.prog 45=some [(.slice none 0 0),(.int .i64 0)]:=by kernel_rfl
theorem bi:iM Tryz.prog 53=some [(.bool false),(.slice none 0 0)]:=by kernel_rfl
theorem kG:iM Tryz.prog 91=some [(.slice none 0 0)]:=by kernel_rfl
theorem bY:Tryz.prog.follows .mixedOrders=true:=by kernel_rfl
def natV:List Nat->Nat
 |[]=>0
 |a::l=>a+4294967296*natV l
def Lmb (l:List Nat):Prop:= ∀a∈l,a<4294967296
def nj (l:List Nat):Prop:=l.getLast?≠some 0
def eH:List Nat->List Nat
 |[]=>[]
 |a::l=>match eH l with
  |[]=>if a=0 then[]else[a]
  |b::m=>a::b::m
theorem iJ (x y:List Nat):natV (x++y)=natV x+4294967296^x.length*natV y:=by
 induction x with
 |nil=>simp[natV]
 |cons a l ih=>simp[natV,ih,Nat.pow_succ,Nat.mul_add,Nat.mul_assoc,Nat.add_assoc,Nat.mul_comm]
theorem gp {l:List Nat} (h:Lmb l):natV l<4294967296^l.length:=by
 induction l with
 |nil=>simp[natV]
 |cons a l ih=>
  have ha:=h a List.mem_cons_self
  have:=ih (fun b hb=>h b (List.mem_cons_of_mem _ hb))
  rw[List.length_cons,Nat.pow_succ,natV]
  have h2:4294967296*(natV l+1)<=4294967296*4294967296^l.length:=Nat.mul_le_mul_left _ this
  rw[Nat.mul_comm (4294967296^l.length)]
  omega
theorem CT (l:List Nat):natV (eH l)=natV l:=by
 induction l with
 |nil=>rfl
 |cons a l ih=>
  unfold eH
  split
  ·rename_i h
   rw[h]at ih
   simp[natV]at ih
   split
   ·rename_i h0;simp[natV,<- ih,h0]
   ·simp[natV,<- ih]
  ·rename_i b m h
   rw[h]at ih
   simp[natV,<- ih]
theorem FT (l:List Nat):nj (eH l):=by
 induction l with
 |nil=>simp[nj,eH]
 |cons a l ih=>
  unfold eH
  split
  ·split
   ·simp[nj]
   ·rename_i h0;simp[nj,h0]
  ·rename_i b m h
   rw[h]at ih
   unfold nj at*
   rw[List.getLast?_cons_cons];exact ih
theorem FU (l:List Nat):(eH l).length<=l.length:=by
 induction l with
 |nil=>simp[eH]
 |cons a l ih=>
  unfold eH
  split
  ·split<;>simp
  ·rename_i b m h;rw[h]at ih;simp at ih⊢;omega
theorem oF {a:Nat} {l:List Nat} (h:nj (a::l)):nj l:=by
 cases l with
 |nil=>simp[nj]
 |cons b m=>unfold nj at*;rw[List.getLast?_cons_cons]at h;exact h
theorem qG {l:List Nat} (h:nj l):eH l=l:=by
 induction l with
 |nil=>rfl
 |cons a l ih=>
  have e:=ih (oF h)
  unfold eH
  rw[e]
  cases l with
  |nil=>simp[nj]at h;simp[h]
  |cons b m=>rfl
theorem ms (l:List Nat):eH (l++[0])=eH l:=by
 induction l with
 |nil=>simp[eH]
 |cons a l ih=>rw[List.cons_append,eH,ih];rfl
theorem u5 {l:List Nat} {a:Nat} (h:a≠0):eH (l++[a])=l++[a]:=qG (by simp[nj,h])
theorem FV {l:List Nat} (h:Lmb l):Lmb (eH l):=by
 induction l with
 |nil=>exact h
 |cons a l ih=>
  have ih:=ih (fun b hb=>h b (List.mem_cons_of_mem _ hb))
  unfold eH
  split
  ·split
   ·intro b hb;simp at hb
   ·intro b hb;simp at hb;subst hb;exact h _ List.mem_cons_self
  ·rename_i b m hh
   rw[hh]at ih
   intro c hc
   rcases List.mem_cons.1 hc with rfl|hc
   ·exact h _ List.mem_cons_self
   ·exact ih c hc
theorem rL {l:List Nat} (h:nj l) (hne:l≠[]):4294967296^(l.length-1)<=natV l:=by
 induction l with
 |nil=>exact absurd rfl hne
 |cons a l ih=>
  cases l with
  |nil=>simp[nj]at h;simp[natV];omega
  |cons b m=>
   have:=ih (oF h) (by simp)
   simp only[List.length_cons,Nat.add_sub_cancel]at this⊢
   rw[natV,Nat.pow_succ,Nat.mul_comm (4294967296^m.length)]
   have h2:=Nat.mul_le_mul_left 4294967296 this
   omega
theorem yZ {l:List Nat} {k:Nat} (h:nj l) (hv:natV l<4294967296^k):l.length<=k:=by
 by_cases hne:l=[]
 ·subst hne;simp
 ·have:=rL h hne
  have h2:4294967296^(l.length-1)<4294967296^k:=Nat.lt_of_le_of_lt this hv
  have:=(Nat.pow_lt_pow_iff_right (by omega:1<4294967296)).1 h2
  omega
theorem Gy {l m:List Nat} (hl:Lmb l) (hm:Lmb m) (cl:nj l) (cm:nj m) (h:natV l=natV m):l=m:=by
 induction l generalizing m with
 |nil=>
  cases m with
  |nil=>rfl
  |cons b m=>
   have:=rL cm (by simp)
   have:0<4294967296^((b::m).length-1):=Nat.pow_pos (by omega)
   rw[<- h]at*
   simp[natV]at*
 |cons a l ih=>
  cases m with
  |nil=>
   have:=rL cl (by simp)
   have:0<4294967296^((a::l).length-1):=Nat.pow_pos (by omega)
   rw[h]at*
   simp[natV]at*
  |cons b m=>
   have ha:=hl a List.mem_cons_self
   have hb:=hm b List.mem_cons_self
   simp only[natV]at h
   have e1:a=b:=by omega
   have e2:natV l=natV m:=by omega
   rw[e1,ih (fun c hc=>hl c (List.mem_cons_of_mem _ hc)) (fun c hc=>hm c (List.mem_cons_of_mem _ hc)) (oF cl) (oF cm) e2]
def Gn (w:World) (A:Option Addr) (l:List Nat):Prop:=RdI .u32 w A (l.map fun n:Nat=>(n:Int))
theorem Gn.ext {w w':World} {A:Option Addr} {l:List Nat} (h:Gn w A l) (e:Ext w w'):Gn w' A l:=RdI.ext h e
theorem Gn.nil (w:World) (A:Option Addr):Gn w A []:=RdI.nil _ _ _
theorem Gn.at_ {w:World} {A:Option Addr} {l:List Nat} (h:Gn w A l) {i z:Nat} (hi:l[i]?=some z):
  ∃b off,A=some ⟨b,off,none⟩/\w.cell? ⟨b,off+i,none⟩=some (.int .u32 (z:Int)):=RdI.at_ h (by simp[hi])
def gE (neg:Bool) (n:Nat):Int:=if neg then -(n:Int)else n
def wW (w:World) (v:Value) (z:Int) (k:Nat):Prop:=
 ∃neg A c l,v= .agg #[.bool neg,.slice A l.length c]/\l.length<=c/\Gn w A l/\Lmb l/\nj l/\z=gE neg (natV l)/\l.length<=k/\(l=[]->neg=false)
theorem wW.ext {w w':World} {v:Value} {z:Int} {k:Nat} (h:wW w v z k) (e:Ext w w'):wW w' v z k:=by
 obtain⟨neg,A,c,l,h1,h2,h3,h4⟩:=h
 exact⟨neg,A,c,l,h1,h2,h3.ext e,h4⟩
theorem wW.mono {w:World} {v:Value} {z:Int} {k k':Nat} (h:wW w v z k) (e:k<=k'):wW w v z k':=by
 obtain⟨neg,A,c,l,h1,h2,h3,h4,h5,h6,h7,h8⟩:=h
 exact⟨neg,A,c,l,h1,h2,h3,h4,h5,h6,by omega,h8⟩
theorem wW.zero (w:World) (k:Nat):wW w (.agg #[.bool false,.slice none 0 0]) 0 k:=
 ⟨false,none,0,[],rfl,by simp,Gn.nil _ _,by intro a h;simp at h,by simp[nj],rfl,by simp,fun _=>rfl⟩
theorem CG (a:Int) (w:World):
  Calls Tryz.prog 111 #[.int .i64 a] w fun e w'=>e= .returned (.bool false)/\w=w':=by
 go_enter Tryz.func111,Tryz.ntmps111
 go_wp2
 go_ret
 exact⟨by simp,rfl⟩
def nG (a b:Int):Int:=if a<b then -1 else if b<a then 1 else 0
theorem lU (a b:Int) (w:World):
  Calls Tryz.prog 75 #[.int .i64 a,.int .i64 b] w fun e w'=>e= .returned (.int .i64 (nG a b))/\w=w':=by
 go_enter Tryz.func75,Tryz.ntmps75
 go_wp2_with (go_at_call 111;refine(CG _ _).mono ?_;rintro e w' ⟨rfl,rfl⟩)
 all_goals
  go_ret
  exact⟨gN (by unfold nG;(repeat' split)<;>omega),rfl⟩
def d6:List Int->List Int->Int
 |[],[]=>0
 |[],_::_=> -1
 |_::_,[]=>1
 |a::x,b::y=>if a<b then -1 else if b<a then 1 else d6 x y
theorem un {x y:List Int} {k:Nat} {a b:Int} (ha:x[k]?=some a) (hb:y[k]?=some b):
  d6 (x.drop k) (y.drop k)=if a<b then -1 else if b<a then 1 else d6 (x.drop (k+1)) (y.drop (k+1)):=by
 obtain⟨h1,rfl⟩:=List.getElem?_eq_some_iff.1 ha
 obtain⟨h2,rfl⟩:=List.getElem?_eq_some_iff.1 hb
 rw[List.drop_eq_getElem_cons h1,List.drop_eq_getElem_cons h2]
 rfl
theorem uo {x y:List Int} {k:Nat} (h1:k>=x.length) (h2:k<y.length):d6 (x.drop k) (y.drop k)= -1:=by
 rw[List.drop_of_length_le h1,List.drop_eq_getElem_cons h2];rfl
theorem rP {x y:List Int} {k:Nat} (h1:k<x.length) (h2:k>=y.length):d6 (x.drop k) (y.drop k)=1:=by
 rw[List.drop_of_length_le h2,List.drop_eq_getElem_cons h1];rfl
theorem um {x y:List Int} {k:Nat} (h1:k>=x.length) (h2:k>=y.length):d6 (x.drop k) (y.drop k)=0:=by
 rw[List.drop_of_length_le h1,List.drop_of_length_le h2];rfl
theorem GC {a b:Int} {r:Int} (h:(nG a b !=0)=true):nG a b=if a<b then -1 else if b<a then 1 else r:=by
 unfold nG at*;(repeat' split)<;>simp_all
theorem GB {a b:Int} {r:Int} (h:(nG a b !=0)=false):(if a<b then -1 else if b<a then 1 else r)=r:=by
 unfold nG at*;(repeat' split)<;>simp_all
theorem Kf {a b:Int} {r:Int} (h:(a !=b)=true) (h':a<b): -1=if a<b then -1 else if b<a then 1 else r:=by simp[h']
theorem Ke {a b:Int} {r:Int} (h:(a !=b)=true) (h': ¬a<b):1=if a<b then -1 else if b<a then 1 else r:=by
 have:a≠b:=by simpa using h
 rw[if_neg h',if_pos (by omega)]
theorem GQ {a b:Int} {r:Int} (h:(a !=b)=false):(if a<b then -1 else if b<a then 1 else r)=r:=by
 have:a=b:=by simpa using h
 rw[if_neg (by omega),if_neg (by omega)]
theorem pi (A B:Option Addr) (c d:Nat) (x y:List Int) (w:World) (hx:RdI .i64 w A x) (hy:RdI .i64 w B y) (lx:x.length<=9223372036854775807) (ly:y.length<=9223372036854775807):
  Calls Tryz.prog 112 #[.slice A x.length c,.slice B y.length d] w fun e w'=>e= .returned (.int .i64 (d6 x y))/\w=w':=by
 have HX:=Lib.hid hx
 have HY:=Lib.hid hy
 clear hx hy
 go_enter Tryz.func112,Tryz.ntmps112
 go_wp2_with fail
 go_loop [11,5,6,7,8] (fun i _ _ _ _=> ∃k:Nat,k<=x.length/\i= .int .i64 k/\Hid (d6 (x.drop k) (y.drop k)=d6 x y)) (fun i _ _ _ _=>x.length-(intOf i).toNat)
 case atStart=>exact⟨0,Nat.zero_le _,rfl,Lib.hid rfl⟩
 case round=>
  obtain⟨k,hk,rfl,HR⟩:=hrel
  by_cases hlt:k<x.length
  ·obtain⟨a,ha⟩:=getElem?_of_lt hlt
   obtain⟨b,off,rfl,hc⟩:=HX.out.at_ ha
   have HA:=Lib.hid ha
   clear ha
   by_cases hly:k<y.length
   ·obtain⟨a',ha'⟩:=getElem?_of_lt hly
    obtain⟨b',off',rfl,hc'⟩:=HY.out.at_ ha'
    have HA':=Lib.hid ha'
    clear ha'
    have hD:=Lib.hid (un HA.out HA'.out)
    go_wp2_with (go_at_call 75;refine(lU _ _ _).mono ?_;rintro e w' ⟨rfl,rfl⟩)
    ·go_ret
     have hne:(nG a a' !=0)=true:=by assumption
     exact⟨gN (by rw[<- HR.out,hD.out];exact GC hne),rfl⟩
    ·go_round
     case rel=>
      have he:(nG a a' !=0)=false:=by assumption
      exact⟨k+1,by omega,by go_num,Lib.hid (by rw[<- HR.out,hD.out];exact(GB he).symm)⟩
     case measure=>simp[intOf];omega
   ·go_wp2_with fail
    go_ret
    exact⟨gN (by rw[<- HR.out,rP hlt (by omega)]),rfl⟩
  ·have hk':k=x.length:=by omega
   subst hk'
   go_wp2_with fail
   all_goals
    go_ret
    exact⟨gN (by rw[<- HR.out];first|rw[uo (by omega) (by omega)]|rw[um (by omega) (by omega)]),rfl⟩
theorem mc (A B:Option Addr) (c d:Nat) (x y:List Int) (w:World) (hx:RdI .i64 w A x) (hy:RdI .i64 w B y) (lx:x.length<=9223372036854775807) (ly:y.length<=9223372036854775807):
  Calls Tryz.prog 17 #[.slice A x.length c,.slice B y.length d] w fun e w'=>e= .returned (.int .i64 (d6 x y))/\ ∃n,w'=w.drewN n:=by
 have HX:=Lib.hid hx
 have HY:=Lib.hid hy
 clear hx hy
 go_enter Tryz.func17,Tryz.ntmps17
 go_wp2_with fail
 go_loopw [5] (fun i wr=> ∃k n:Nat,k<=x.length/\k<=y.length/\i= .int .i64 k/\wr=w.drewN n/\Hid (d6 (x.drop k) (y.drop k)=d6 x y)) (fun i _=>x.length-(intOf i).toNat)
 case atStart=>exact⟨0,0,Nat.zero_le _,Nat.zero_le _,rfl,rfl,Lib.hid rfl⟩
 case round=>
  obtain⟨k,n,hk,hky,rfl,rfl,HR⟩:=hrel
  by_cases hlt:k<x.length
  ·obtain⟨a,ha⟩:=getElem?_of_lt hlt
   obtain⟨b,off,rfl,hc⟩:=HX.out.at_ ha
   have HA:=Lib.hid ha
   clear ha
   by_cases hly:k<y.length
   ·obtain⟨a',ha'⟩:=getElem?_of_lt hly
    obtain⟨b',off',rfl,hc'⟩:=HY.out.at_ ha'
    have HA':=Lib.hid ha'
    clear ha'
    have hD:=Lib.hid (un HA.out HA'.out)
    go_wp2_with fail
    go_quiet (fail)
    go_wp2_with fail
    ·go_quiet (fail)
     have hne:(a !=a')=true:=by assumption
     go_wp2_with fail
     all_goals
      go_ret
      exact⟨gN (by rw[<- HR.out,hD.out];first|exact Kf hne (by omega)|exact Ke hne (by omega)),_,by rw[World.drewN_drewN,World.drewN_drewN]⟩
    ·have he:(a !=a')=false:=by assumption
     go_roundw
     case rel=>exact⟨k+1,_,by omega,by omega,by go_num,rfl,Lib.hid (by rw[<- HR.out,hD.out];exact(GQ he).symm)⟩
     case measure=>simp[intOf];omega
   ·go_wp2_with fail
    all_goals
     go_ret
     exact⟨gN (by rw[<- HR.out,rP hlt (by omega)]),_,rfl⟩
  ·by_cases hly:k<y.length
   ·go_wp2_with fail
    all_goals
     go_ret
     exact⟨gN (by rw[<- HR.out,uo (by omega) (by omega)]),_,rfl⟩
   ·go_wp2_with fail
    all_goals
     go_ret
     exact⟨gN (by rw[<- HR.out,um (by omega) (by omega)]),_,rfl⟩
theorem tH (A B:Option Addr) (c d:Nat) (x y:List Int) (w:World) (hx:RdI .i64 w A x) (hy:RdI .i64 w B y) (lx:x.length<=9223372036854775807) (ly:y.length<=9223372036854775807):
  Calls Tryz.prog 76 #[.slice A x.length c,.slice B y.length d] w fun e w'=>e= .returned (.int .i64 (d6 x y))/\w=w':=by
 go_enter Tryz.func76,Tryz.ntmps76
 go_wp2_with (go_at_call 112;refine(pi A B c d x y _ hx hy lx ly).mono ?_;rintro e w' ⟨rfl,rfl⟩)
 go_ret
 exact⟨rfl,rfl⟩
def Gc:List Int->Int
 |[]=>0
 |a::l=>if a !=0 then a else Gc l
theorem Fa {x:List Int} {k:Nat} {a:Int} (h:x[k]?=some a):Gc (x.drop k)=if a !=0 then a else Gc (x.drop (k+1)):=by
 obtain⟨h1,rfl⟩:=List.getElem?_eq_some_iff.1 h
 rw[List.drop_eq_getElem_cons h1]
 rfl
theorem Cf (A:Option Addr) (c:Nat) (x:List Int) (w:World) (hx:RdI .i64 w A x) (lx:x.length<=9223372036854775807):
  Calls Tryz.prog 74 #[.slice A x.length c] w fun e w'=>e= .returned (.int .i64 (Gc x))/\w=w':=by
 have HX:=Lib.hid hx
 clear hx
 go_enter Tryz.func74,Tryz.ntmps74
 go_wp2_with fail
 go_loop [8,5] (fun i _=> ∃k:Nat,k<=x.length/\i= .int .i64 k/\Hid (Gc (x.drop k)=Gc x)) (fun i _=>x.length-(intOf i).toNat)
 case atStart=>exact⟨0,Nat.zero_le _,rfl,Lib.hid rfl⟩
 case round=>
  obtain⟨k,hk,rfl,HR⟩:=hrel
  by_cases hlt:k<x.length
  ·obtain⟨a,ha⟩:=getElem?_of_lt hlt
   obtain⟨b,off,rfl,hc⟩:=HX.out.at_ ha
   have HA:=Lib.hid (Fa ha)
   clear ha
   by_cases h0:(a !=0)=true
   ·go_wp2_with fail
    go_ret
    exact⟨gN (by rw[<- HR.out,HA.out,if_pos h0]),rfl⟩
   ·have h0':(a !=0)=false:=by simpa using h0
    have H0:=Lib.hid h0'
    clear h0
    go_wp2_with fail
    go_round
    case rel=>exact⟨k+1,by omega,by go_num,Lib.hid (by rw[<- HR.out,HA.out,if_neg (by rw[H0.out];simp)])⟩
    case measure=>simp[intOf];omega
  ·go_wp2_with fail
   go_ret
   exact⟨gN (by rw[<- HR.out,List.drop_of_length_le (by omega)];rfl),rfl⟩
theorem qJ (a b:Int) (w:World):
  Calls Tryz.prog 75 #[.int .i64 a,.int .i64 b] w fun e w'=>e= .returned (.int .i64 (nG a b))/\w'=w:=
 (lU a b w).mono fun _ _ ⟨h1,h2⟩=>⟨h1,h2.symm⟩
theorem qS (A B:Option Addr) (c d:Nat) (x y:List Int) (w:World) (hx:RdI .i64 w A x) (hy:RdI .i64 w B y) (lx:x.length<=9223372036854775807) (ly:y.length<=9223372036854775807):
  Calls Tryz.prog 76 #[.slice A x.length c,.slice B y.length d] w fun e w'=>e= .returned (.int .i64 (d6 x y))/\w'=w:=
 (tH A B c d x y w hx hy lx ly).mono fun _ _ ⟨h1,h2⟩=>⟨h1,h2.symm⟩
def Cd (k1:Int) (x:List Int) (k2:Int) (y:List Int):Int:=Gc [nG k1 k2,d6 x y]
theorem dV {P:Program} {id:Nat} {Q:Exit->Act->World->Prop} {a:Act} {w:World} {l:List Oper} (n:Nat) (hm:P.follows .mixedOrders=true) (hB:Region.lexTailB .any l.toArray n=true)
  (h:wpStill P l.toArray w.drew (fun a'=>wpList P l.toArray Q (l.drop n) a' w.drew) (l.take n) a):(Code.region id l.toArray true).wp P Q a w:=wp_region_still_tail n hm hB h
theorem zw (w:World) (os:Array Obj) (o:Obj):(Sort.grow w os).alloc o=Sort.grow w (os.push o):=by
 unfold Sort.grow World.alloc;simp
theorem Er (w:World) (a b:Obj):((w.alloc a).alloc b).drew=Sort.grow (w.drewN 1) #[a,b]:=by
 unfold Sort.grow
 rw[show(w.drewN 1).heap++ #[a,b]=(w.heap.push a).push b from by
  show w.heap++ #[a,b]=_
  apply Array.ext'
  simp]
 rfl
theorem u6 (w:World) (a b c d:Value) (t:TypeId):
  ((w.alloc (.cells #[a,b] t)).alloc (.cells #[c,d] t)).drew.cell? ⟨w.heap.size,0,none⟩=some a/\((w.alloc (.cells #[a,b] t)).alloc (.cells #[c,d] t)).drew.cell? ⟨w.heap.size,1,none⟩=some b/\
  ((w.alloc (.cells #[a,b] t)).alloc (.cells #[c,d] t)).drew.cell? ⟨w.heap.size+1,0,none⟩=some c/\((w.alloc (.cells #[a,b] t)).alloc (.cells #[c,d] t)).drew.cell? ⟨w.heap.size+1,1,none⟩=some d/\
  Ext w ((w.alloc (.cells #[a,b] t)).alloc (.cells #[c,d] t)).drew/\ ∃os,((w.alloc (.cells #[a,b] t)).alloc (.cells #[c,d] t)).drew=Sort.grow (w.drewN 1) os:=
 ⟨by go_simp,by go_simp,by go_simp,by go_simp,(((Ext.refl _).alloc _).alloc _).drew,_,Er w _ _⟩
theorem jH (k1 k2:Int) (A B:Option Addr) (c d:Nat) (x y:List Int) (w:World) (hx:RdI .i64 w A x) (hy:RdI .i64 w B y) (lx:x.length<=9223372036854775807) (ly:y.length<=9223372036854775807):
  Calls Tryz.prog 35 #[.agg #[.int .i64 k1,.slice A x.length c],.agg #[.int .i64 k2,.slice B y.length d]] w fun e w'=>
   e= .returned (.int .i64 (Cd k1 x k2 y))/\ ∃q os,w'=Sort.grow (w.drewN q) os:=by
 have HX:=Lib.hid hx
 have HY:=Lib.hid hy
 clear hx hy
 go_enter Tryz.func35,Tryz.ntmps35
 go_wp2_with fail
 obtain⟨c1,c2,c3,c4,he,hg⟩:=u6 w (.int .i64 k1) (.slice A x.length c) (.int .i64 k2) (.slice B y.length d) 74
 have HE:=Lib.hid he
 have HG:=Lib.hid hg
 clear he hg
 generalize(w.alloc (.cells #[.int .i64 k1,.slice A x.length c] 74)).alloc (.cells #[.int .i64 k2,.slice B y.length d] 74)=w2 at*
 refine dV 10 (by kernel_rfl) (by kernel_rfl) ?_
 simp only[List.take_succ_cons,List.take_zero,List.drop_succ_cons,List.drop_zero]
 generalize w2.drew=w3 at*
 iterate 4 still_step
 still_call (qJ _ _ _)
 iterate 4 still_step
 still_call (qS A B c d x y _ (HX.out.ext HE.out) (HY.out.ext HE.out) lx ly)
 refine wpStill_nil ?_
 have hor:=Cf (some ⟨w3.heap.size,0,none⟩) 2 [nG k1 k2,d6 x y] (w3.alloc (.cells #[.int .i64 (nG k1 k2),.int .i64 (d6 x y)] 3)) (fun _=>⟨w3.heap.size,0,rfl,fun i v hv=>by
  match i,hv with
  |0,hv=>simp at hv;subst hv;go_simp
  |1,hv=>simp at hv;subst hv;go_simp⟩) (by simp)
 rw[show[nG k1 k2,d6 x y].length=2 from rfl]at hor
 have HOR:=Lib.hid hor
 clear hor
 go_wp2_with fail
 refine HOR.out.mono ?_
 rintro e w' ⟨rfl,rfl⟩
 go_wp2_with fail
 go_ret
 obtain⟨os,rfl⟩:=HG.out
 exact⟨rfl,1,_,zw _ _ _⟩
theorem Tryz.inU32:(Tryz.prog.info? 118).map (fun i=>(i.zero,i.size,i.bytes))=some (some (.int .u32 0),1,4):=by kernel_rfl
def sg (z:Int):Int:=if z<0 then -1 else if z=0 then 0 else 1
theorem u7 (u:Nat):natV [u%4294967296,u/4294967296]=u:=by simp[natV];omega
def gQ (a b:Nat):Int:=if a<b then -1 else if a=b then 0 else 1
theorem ss {l:List Nat} {k a:Nat} (h:l[k]?=some a):natV l=natV (l.take k)+4294967296^k*(a+4294967296*natV (l.drop (k+1))):=by
 have hk:=(List.getElem?_eq_some_iff.1 h).1
 conv=>lhs;rw[<- List.take_append_drop k l]
 rw[iJ,List.length_take,Nat.min_eq_left (by omega),List.drop_eq_getElem_cons hk,natV,(List.getElem?_eq_some_iff.1 h).2]
theorem EI {l:List Nat} (h:Lmb l) (k:Nat):Lmb (l.take k):=fun a ha=>h a (List.mem_of_mem_take ha)
theorem lf {l m:List Nat} {k a b:Nat} (hl:Lmb l) (ha:l[k]?=some a) (hb:m[k]?=some b) (hd:l.drop (k+1)=m.drop (k+1)) (hab:a<b):natV l<natV m:=by
 have hk:=(List.getElem?_eq_some_iff.1 ha).1
 rw[ss ha,ss hb,hd]
 have h1:=gp (EI hl k)
 rw[List.length_take,Nat.min_eq_left (by omega)]at h1
 have h2:4294967296^k*(a+1+4294967296*natV (m.drop (k+1)))<=4294967296^k*(b+4294967296*natV (m.drop (k+1))):=Nat.mul_le_mul_left _ (by omega)
 have e:4294967296^k*(a+1+4294967296*natV (m.drop (k+1)))=4294967296^k+4294967296^k*(a+4294967296*natV (m.drop (k+1))):=by grind
 omega
theorem iL {l m:List Nat} (hl:Lmb l) (hm:nj m) (h:l.length<m.length):natV l<natV m:=by
 have h1:=gp hl
 have h2:=rL hm (by intro e;rw[e]at h;simp at h)
 have h3:4294967296^l.length<=4294967296^(m.length-1):=Nat.pow_le_pow_right (by omega) (by omega)
 omega
theorem mH {a b:Nat} (h:a<b):gQ a b= -1:=by simp[gQ,h]
theorem qV {a b:Nat} (h:b<a):gQ a b=1:=by unfold gQ;rw[if_neg (by omega),if_neg (by omega)]
theorem uv {l m:List Nat} {k a:Nat} (ha:l[k]?=some a) (hb:m[k]?=some a) (hd:l.drop (k+1)=m.drop (k+1)):l.drop k=m.drop k:=by
 obtain⟨h1,rfl⟩:=List.getElem?_eq_some_iff.1 ha
 obtain⟨h2,h3⟩:=List.getElem?_eq_some_iff.1 hb
 rw[List.drop_eq_getElem_cons h1,List.drop_eq_getElem_cons h2,hd,h3]
theorem kc:(∀(P:Program) (items:List (eQ P)) (ow:List Nat) (s:AS) (Q:AS->Prop),eE P items ow [] (some s) Q=Q s)/\
  (∀(P:Program) (items:List (eQ P)) (ow:List Nat) (st:Gp) (l:List Gp) (s:AS) (Q:AS->Prop),eE P items ow (st::l) (some s) Q=eE P items ow l (dR P items ow st s) Q)/\
  (∀{P:Program} {items:List (eQ P)} {ow:List Nat} {i:Nat} {d:Option Tmp} {s:AS} (x:Operand),dR P items ow ⟨i,d,.move x,none⟩ s=(s.ev x).map (s.put d))/\
  (∀{P:Program} {items:List (eQ P)} {ow:List Nat} {i:Nat} {d:Option Tmp} {s:AS} (x:Operand),dR P items ow ⟨i,d,.assign x,none⟩ s=(s.ev x).map (s.put d))/\
  (∀{P:Program} {items:List (eQ P)} {ow:List Nat} {i:Nat} {d:Option Tmp} {s:AS} (op:BinOp) (t t':TypeId) (x y:Operand),dR P items ow ⟨i,d,.binOp op t x y t',none⟩ s=(ak P s.ev (.binOp op t x y t')).map (s.put d))/\
  (∀{P:Program} {items:List (eQ P)} {ow:List Nat} {i:Nat} {d:Option Tmp} {s:AS} (t:TypeId) (x:Operand),dR P items ow ⟨i,d,.load t x,none⟩ s=(au P s.ev s.H (.load t x)).map (s.put d))/\
  (∀{α:Type} {a:α} {l:List α},(a::l)[0]?=some a)/\
  (∀{α:Type} {a:α} {i:Nat} {l:List α},(a::l)[i+1]?=l[i]?)/\
  (∀{α:Type} {x:α} {xs:List α} {a:α},(x::xs).set 0 a=a::xs)/\
  (∀{α:Type} {x:α} {xs:List α} {i:Nat} {a:α},(x::xs).set (i+1) a=x::xs.set i a)/\
  (∀{α β:Type} {f:α->β},List.map f []=[])/\
  (∀{α β:Type} {f:α->β} {a:α} {l:List α},List.map f (a::l)=f a::List.map f l)/\
  (∀{α β:Type} (a:α) (f:α->β),Option.map f (some a)=some (f a))/\
  (∀{α:Type} {a:α} {l:List α} {f:α->Bool},(a::l).all f=(f a&&l.all f))/\
  (∀{α:Type} {f:α->Bool},([]:List α).all f=true)/\
  (∀{α:Type} {a:α} {xs:List α},(a::xs).length=xs.length+1)/\
  (∀{α:Type},([]:List α).length=0)/\
  (∀n:Nat,0+n=n)/\
  (∀b:Bool,(b&&b)=b)/\
  (∀{α:Type} {_:Decidable True} (t e:α),(if True then t else e)=t)/\
  (∀{α:Type} {_:Decidable False} (t e:α),(if False then t else e)=e)/\
  (∀{α:Type} (xs:List α),[]++xs=xs)/\
  (∀{α:Type} {a:α} {xs ys:List α},a::xs++ys=a::(xs++ys))/\
  (∀{α:Type} (xs:List α),xs++[]=xs)/\
  (∀{α β:Type} (a:α) (f:α->Option β),(some a).bind f=f a)/\
  (∀{α:Type},([]:List α).isEmpty=true)/\
  ((!true)=false)/\
  (∀{α:Type} {l:List α},List.drop 0 l=l)/\
  (∀{α:Type} {l:List α},List.take 0 l=[])/\
  (∀{α:Type} {a:α} {l:List α} {i:Nat},List.drop (i+1) (a::l)=List.drop i l)/\
  (∀{α:Type} {a:α} {l:List α} {i:Nat},List.take (i+1) (a::l)=a::List.take i l)/\
  (∀b:Bool,(b||true)=true)/\
  (∀p:Prop,(p/\p)=p)/\
  (∀p:Prop,(True/\p)=p)/\
  (∀b:Bool,(b&&true)=b)/\
  (∀b:Bool,(b&&false)=false)/\
  (∀{α:Type} [BEq α] [ReflBEq α] (a:α),(a==a)=true)/\
  ((false=true)=False)/\
  (∀{α:Type} {xs:List α} {i:Nat},xs.toArray[i]?=xs[i]?)/\
  (∀n:Nat,(n:Int).toNat=n)/\
  (∀(ops:Array Oper) (x:Nat),dC ops [] x=[])/\
  (∀(ops:Array Oper) (x:Nat) (o:Oper) (l:List Oper),dC ops (o::l) x=ab ops o x::dC ops l (x+1))/\
  (∀(s:AS) (t:Tmp),s.ev (.tmp t)=s.tmps[t]?)/\
  (∀(s:AS) (v:Value),s.ev (.const v)=some (ac v))/\
  (∀(s:AS) (g:Nat),s.ev (.global g)=some (.raw (.pointer (some ⟨g,0,none⟩))))/\
  (∀(s:AS) (f:FuncId),s.ev (.func f)=some (.raw (.func (.func f) #[] #[])))/\
  (∀(s:AS) (d:Tmp) (t:TV),s.put (some d) t={s with tmps:=s.tmps.set d t})/\
  (∀(s:AS) (t:TV),s.put none t=s):=
 ⟨@Fu,@uU,@E9,@zS,@Hf,@E8,@List.getElem?_cons_zero,@List.getElem?_cons_succ,@List.set_cons_zero,@List.set_cons_succ,@List.map_nil,@List.map_cons,@Option.map_some,@List.all_cons,@List.all_nil,@List.length_cons,@List.length_nil,@Nat.zero_add,@Bool.and_self,@if_true,@if_false,@List.nil_append,@List.cons_append,@List.append_nil,@Option.bind_some,@List.isEmpty_nil,@Bool.not_true,@List.drop_zero,@List.take_zero,@List.drop_succ_cons,@List.take_succ_cons,@Bool.or_true,@and_self,@true_and,@Bool.and_true,@Bool.and_false,@beq_self_eq_true,@Bool.false_eq_true,@List.getElem?_toArray,@Int.toNat_natCast,by intros;rfl,by intros;rfl,by intros;rfl,by intros;rfl,by intros;rfl,by intros;rfl,by intros;rfl,by intros;rfl⟩
abbrev jk:TV:= .one .junk
abbrev ca (l:List Nat):TV:= .one (.p (.sl (ls fU l)))
theorem iS (l:List Nat) (hb:l.length<=1073741824):CallC Tryz.prog 96 [ca l] ⟨[],ca (eH l)⟩:=by
 refine ax Tryz.func96 rfl (by kernel_rfl) ?_;rw[Tryz.ntmps96]
 (refine aa [] fun K hK=>?_;simp(disch:=omega) only[kc,ab,List.replicate,ac,Value.oneCell'];apply hK)
 (refine aa [] fun K hK=>?_;simp(disch:=omega) only[kc,ab,Nat.reduceAdd,aw,au,an,aR];apply hK)
 refine Gr (G:={n:Nat//n<=l.length/\eH l=eH (l.take n)}) (fun n=>⟨[ca l,jk,.raw (.slice none 0 0),.raw (.int .i64 n.1),jk,jk,jk,jk,jk,jk,jk,jk,jk,jk,jk,jk,jk,jk,jk,jk,jk,jk],Hm []⟩) (fun n=>n.1) ⟨l.length,Nat.le_refl _,by simp⟩ ?_ ?_
 ·refine aj trivial ?_
  simp[b9,bo,bj]
 ·rintro⟨n,hn,hT⟩
  simp only
  by_cases h0:0<n
  ·obtain⟨a,ha⟩:=getElem?_of_lt (l:=l) (k:=n-1) (by omega)
   have e1:((n:Int)-1).toNat=n-1:=by omega
   (refine ae (aa [] fun K hK=>?_);simp(disch:=omega) only[kc,ab,Nat.reduceAdd,Hm,ak,ac,Value.oneCell',ah,bA,aB,bH,bC,ag,au,ao,e1,an,bG,ha,fU,bs,aA,bN,aQ];apply hK)
   have htk:l.take n=l.take (n-1)++[a]:=by
    have:=List.take_succ_eq_append_getElem (i:=n-1) (l:=l) (by omega)
    rw[show n-1+1=n by omega]at this
    rw[this,(List.getElem?_eq_some_iff.1 ha).2]
   refine af rfl (fun hz=>aq ?_) (fun hz=>bv ?_)
   ·have hz':a=0:=by simpa using hz
    refine aI ?_
    ((refine aU [] [] (by simp) fun K hK=>?_);simp(disch:=omega) only[kc,ab,Nat.reduceAdd,bA,ak,ac,Value.oneCell',ah,bC];apply hK)
    refine⟨⟨n-1,by omega,?_⟩,by simp only;omega,aj trivial ?_⟩
    ·rw[hT,htk,hz',ms]
    ·have e:((n-1:Nat):Int)=(n:Int)-1:=by omega
     simp[b9,bo,bj,e]
   ·have hz':a≠0:=by intro e;simp[e]at hz
    have hfin:eH l=l.take n:=by rw[hT,htk,u5 hz']
    show bT _ _ _ _
    have hlen:(l.take n).length=n:=by simp;omega
    (refine aa [] fun K hK=>?_;simp(disch:=omega) only[kc,ab,Nat.reduceAdd,bf,jh,au,an,gC,ao,bs,Nat.zero_le,aR,zI vI,and_true,Bc,bH,cW,iX,bJ,ac,Value.oneCell',newsOf,EK,aN,aC,dn,eA,eJ,hlen,Jt vI];apply hK)
    refine ay ⟨.inr rfl,lk 21 (dH rfl) ?_ rfl⟩
    simp(disch:=omega) only[kc,bE,Tryz.results96,aP,gH,fu,aJ,bH,eB,d8,hfin]
    simp[List.take_take]
  ·have hn0:n=0:=by omega
   subst hn0
   have hfin:eH l=[]:=by rw[hT];simp[eH]
   (refine ae (aa [] fun K hK=>?_);simp(disch:=omega) only[kc,ab,Nat.reduceAdd,Hm,ak,ac,Value.oneCell',ah,bf,aB,Option.map_none,ag,au,aQ];apply hK)
   refine af rfl (fun hz=>by cases hz) (fun hz=>bv ?_)
   show bT _ _ _ _
   (refine aa [] fun K hK=>?_;simp(disch:=omega) only[kc,ab,Nat.reduceAdd,jh,au,an,gC,ao,bs,Nat.le_refl,aR,Nat.zero_le,zI vI,cW,iX,bJ,ac,Value.oneCell',newsOf,aN,aC,dn,eA,Nat.reduceMul,eZ,and_true,bH];apply hK)
   refine ay ⟨.inr rfl,lk 21 (dH (f:=fU) (l:=[]) rfl) ?_ rfl⟩
   simp(disch:=omega) only[kc,bE,Tryz.results96,aP,gH,fu,aJ,bH,Nat.add_zero,hfin]
   simp[ls]
section
def gD (H:OH):AV->Prop
 | .sl a _ _ _=>H a≠[]
 | .ptr a _ _ _=>H a≠[]
 |_=>True
def gS (H:OH):TV->Prop
 | .one x=>gD H x
 | .agg cs=> ∀x∈cs,gD H x
 | .fn _ cs=> ∀x∈cs,gD H x
 | .tup ts=> ∀t∈ts,∀x∈t.2,gD H x
def ou (s:AS):Prop:=(∀(t:Nat) x,s.tmps[t]?=some x->gS s.H x)/\ ∀a,∀o∈s.H a,selfO a o
section
variable {P:Program} {s s':AS} {H:OH}
theorem l4 {w0 w:World} {O X:Nat->Prop} {a:Act} (h:ik w0 O X s a w):ou s:=by
 obtain⟨_,_,ρ,hinv,htm⟩:=h
 have av: ∀x v,AV.rel ρ s.H (Xo X ρ s.H) w x v->gD s.H x:=fun x v hx=>by
  cases x with
  |p x=>trivial
  |sl a r off len=>obtain⟨o,h1,_⟩:=hx;intro h0;rw[h0]at h1;simp at h1
  |ptr a r i j=>obtain⟨o,_,_,h1,_⟩:=hx;intro h0;rw[h0]at h1;simp at h1
  |junk=>trivial
 have agg: ∀cs v,dv ρ s.H (Xo X ρ s.H) w cs v-> ∀x∈cs,gD s.H x:=fun cs v hc x hx=>by
  obtain⟨vs,_,_,h3⟩:=hc
  obtain⟨k,hk,rfl⟩:=List.getElem_of_mem hx
  obtain⟨u,_,_,h4⟩:=h3 k _ (List.getElem?_eq_getElem hk)
  exact av _ _ h4
 refine⟨fun t x hx=>?_,fun a o ho=>?_⟩
 ·obtain⟨v,_,hv⟩:=htm t x hx
  cases x with
  |one x=>exact av x v hv
  |agg cs=>exact agg cs v hv
  |fn f cs=>obtain⟨u,h1,h2⟩:=hv;exact agg cs u h1
  |tup ts=>
   obtain⟨vs,_,_,h3⟩:=hv
   intro t ht x hx
   obtain⟨k,hk,rfl⟩:=List.getElem_of_mem ht
   obtain⟨u,_,h4⟩:=h3 k _ _ (List.getElem?_eq_getElem hk)
   rcases h4 with⟨_,h4⟩|⟨_,y,h5,h4⟩
   ·exact agg _ _ h4 x hx
   ·have h5:ts[k].2=[y]:=h5
    rw[h5]at hx;simp at hx;subst hx;exact av _ _ h4
 ·obtain⟨k,hk,rfl⟩:=List.getElem_of_mem ho
  exact hinv.self a k _ (List.getElem?_eq_getElem hk)
theorem gn (h:ou s) {x:Operand} {t:TV} (hx:s.ev x=some t):gS s.H t:=by
 cases x with
 |tmp k=>exact h.1 k t hx
 |const v=>
  simp only[AS.ev]at hx
  injection hx with hx
  subst hx
  unfold ac
  split
  ·split
   ·intro y hy;simp only[List.mem_map]at hy;obtain⟨u,_,rfl⟩:=hy;trivial
   ·trivial
  ·split<;>trivial
 |global g=>simp only[AS.ev]at hx;injection hx with hx;subst hx;trivial
 |func f=>simp only[AS.ev]at hx;injection hx with hx;subst hx;trivial
theorem kx (h:ou s) {d:Option Tmp} {t:TV} (ht:gS s.H t):ou (s.put d t):=by
 refine⟨fun k x hx=>?_,by rw[jw];exact h.2⟩
 rw[jw]
 cases d with
 |none=>exact h.1 k x hx
 |some d=>
  simp only[AS.put]at hx
  by_cases hk:d=k
  ·subst hk
   rw[List.getElem?_set]at hx
   simp at hx
   obtain⟨_,rfl⟩:=hx
   exact ht
  ·rw[List.getElem?_set_ne hk]at hx;exact h.1 k x hx
theorem Ct (h:ou s) {op:Op} {t:TV} (ht:ak P s.ev op=some t):gS s.H t:=by
 cases op<;>simp only[ak]at ht<;>try cases ht
 case move x=>exact gn h ht
 case assign x=>exact gn h ht
 case pick c a b=>
  split at ht
  ·exact gn h ht
  ·exact gn h ht
  ·cases ht
 case binOp op ty x y yt=>
  split at ht
  ·obtain⟨v,_,rfl⟩:=Option.map_eq_some_iff.1 ht;trivial
  ·cases ht
 case unOp op ty x=>
  split at ht
  ·obtain⟨v,_,rfl⟩:=Option.map_eq_some_iff.1 ht;trivial
  ·cases ht
 case convert a b x=>
  split at ht
  ·injection ht with ht;subst ht;trivial
  ·cases ht
 case extract x k=>
  split at ht
  ·rename_i ts hx
   have hl:=gn h hx
   split at ht
   ·rename_i cs hk
    injection ht with ht
    subst ht
    exact hl _ (List.mem_of_getElem? hk)
   ·rename_i y hk
    injection ht with ht
    subst ht
    exact hl _ (List.mem_of_getElem? hk) y (by simp)
   ·cases ht
  ·cases ht
theorem pP {t:TypeId} {cs:List AV} {T:TV} (h:aA P t cs=some T) (hc: ∀x∈cs,gD H x):gS H T:=by
 unfold aA at h
 split at h
 ·split at h
  ·injection h with h;subst h;exact fun x hx=>hc x (List.mem_of_mem_take hx)
  ·cases h
 ·split at h
  ·injection h with h;subst h;exact hc _ (by simp)
  ·cases h
 ·cases h
theorem vu {t:TV} {cs:List AV} (h:cellsOf t=some cs) (ht:gS H t): ∀x∈cs,gD H x:=by
 unfold cellsOf at h
 split at h
 ·injection h with h;subst h;intro x hx;simp at hx;subst hx;trivial
 ·injection h with h;subst h;exact ht
 ·cases h
theorem uw (h:ou s) {pl:List (Nat×Nat)}: ∀(parts:List (Nat×Operand)) (cs cs':List AV),fm pl s.ev cs parts=some cs'->(∀x∈cs,gD s.H x)-> ∀x∈cs',gD s.H x
 |[],cs,cs',hf,hc=>by simp only[fm]at hf;injection hf with hf;subst hf;exact hc
 |(f,x)::rest,cs,cs',hf,hc=>by
  simp only[fm]at hf
  split at hf
  ·rename_i off n ys hp hx
   obtain⟨t,ht,hys⟩:=Option.bind_eq_some_iff.1 hx
   split at hf
   ·refine uw h rest _ cs' hf fun y hy=>?_
    simp only[List.mem_append]at hy
    rcases hy with(hy|hy)|hy
    ·exact hc y (List.mem_of_mem_take hy)
    ·exact vu hys (gn h ht) y hy
    ·exact hc y (List.mem_of_mem_drop hy)
   ·cases hf
  ·cases hf
theorem Df (h:ou s) {a r i:Nat} {o:OObj} {e:List AV} (ho:(s.H a)[r]?=some o) (he:o.elems[i]?=some e): ∀x∈e,gD s.H x:=fun x hx=>by
 have hs:=h.2 a o (List.mem_of_getElem? ho) e (List.mem_of_getElem? he) x hx
 have hne:s.H a≠[]:=by intro h0;rw[h0]at ho;simp at ho
 cases x with
 |sl b _ _ _=>have hs:b=a:=hs;subst hs;exact hne
 |ptr b _ _ _=>have hs:b=a:=hs;subst hs;exact hne
 |p x=>trivial
 |junk=>trivial
theorem Cu (h:ou s) {op:Op} {t:TV} (ht:au P s.ev s.H op=some t):gS s.H t:=by
 cases op
 case load ty x=>
  simp only[au]at ht
  split at ht
  ·exact pP ht (fun y hy=>by simp only[List.mem_map]at hy;obtain⟨z,_,rfl⟩:=hy;trivial)
  ·split at ht
   ·rename_i o ho
    split at ht
    ·rename_i e he
     exact pP ht (fun y hy=>Df h ho he y (List.mem_of_mem_drop hy))
    ·cases ht
   ·cases ht
  ·cases ht
 case indexAddr ty x ix=>
  simp only[au]at ht
  split at ht
  ·split at ht
   ·cases ht
   ·split at ht
    ·split at ht
     ·split at ht
      ·injection ht with ht;subst ht;trivial
      ·cases ht
     ·cases ht
    ·rename_i e a r off len hs hx
     split at ht
     ·split at ht
      ·injection ht with ht;subst ht;have q:=gn h hx;exact q
      ·cases ht
     ·cases ht
    ·cases ht
  ·cases ht
 case fieldAddr ty x f=>
  simp only[au]at ht
  split at ht
  ·split at ht
   ·injection ht with ht;subst ht;trivial
   ·cases ht
  ·rename_i hx
   split at ht
   ·injection ht with ht;subst ht;have q:=gn h hx;exact q
   ·cases ht
  ·cases ht
 case field ty x f=>
  simp only[au]at ht
  split at ht
  ·rename_i hx
   exact pP ht (fun y hy=>gn h hx y (List.mem_of_mem_drop hy))
  ·cases ht
 case slice ty x lo hi mx=>
  cases mx with
  |some _=>simp only[au]at ht;cases ht
  |none=>
   simp only[au]at ht
   split at ht
   ·split at ht
    ·split at ht
     ·injection ht with ht;subst ht;trivial
     ·cases ht
    ·cases ht
   ·rename_i hx
    split at ht
    ·split at ht
     ·injection ht with ht;subst ht;have q:=gn h hx;exact q
     ·split at ht
      ·injection ht with ht;subst ht;trivial
      ·cases ht
    ·cases ht
   ·cases ht
 case build ty parts=>
  simp only[au]at ht
  split at ht
  ·split at ht
   ·obtain⟨cs,hcs,rfl⟩:=Option.map_eq_some_iff.1 ht
    exact uw h _ _ _ hcs (fun y hy=>by simp only[List.mem_map]at hy;obtain⟨z,_,rfl⟩:=hy;trivial)
   ·cases ht
  ·cases ht
 case nilCheck x=>
  simp only[au]at ht
  split at ht
  ·injection ht with ht;subst ht;trivial
  ·rename_i hx;injection ht with ht;subst ht;have q:=gn h hx;exact q
  ·cases ht
 case makeFunc fn first captured=>
  cases fn with
  |func f=>
   simp only[au]at ht
   split at ht
   ·obtain⟨cs,hcs,rfl⟩:=Option.map_eq_some_iff.1 ht
    obtain⟨ts,hts,hc⟩:=Option.bind_eq_some_iff.1 hcs
    intro x hx
    obtain⟨j,hj,rfl⟩:=List.getElem_of_mem hx
    obtain⟨h1,h2⟩:=(nE hc).2 j _ (List.getElem?_eq_getElem hj)
    obtain⟨y,y1,y2⟩:=(fi hts).2 j _ h1
    have q:=gn h y2
    exact q
   ·cases ht
  |_=>simp only[au]at ht;cases ht
 case call c=>
  obtain⟨callee,args,argTypes⟩:=c
  cases callee with
  |builtin b=>
   cases b
   case len=>
    simp only[au]at ht
    split at ht
    ·split at ht
     ·injection ht with ht;subst ht;trivial
     ·injection ht with ht;subst ht;trivial
     ·injection ht with ht;subst ht;trivial
     ·cases ht
    ·cases ht
   all_goals (simp only[au]at ht;cases ht)
  |value f=>simp only[au]at ht;cases ht
  |invoke r m=>simp only[au]at ht;cases ht
 all_goals (simp only[au]at ht;cases ht)
end
end
section
section
variable {P:Program} {s s':AS} {H H':OH}
def wU (H H':OH):Prop:= ∀a,H a≠[]->H' a=H a
def pY (H H':OH):AV->Prop
 | .sl a _ _ _=>H' a=H a
 | .ptr a _ _ _=>H' a=H a
 |_=>True
def j6 (H H':OH):TV->Prop
 | .one x=>pY H H' x
 | .agg cs=> ∀x∈cs,pY H H' x
 | .fn _ cs=> ∀x∈cs,pY H H' x
 | .tup ts=> ∀t∈ts,∀x∈t.2,pY H H' x
theorem jR {x:AV} (h:gD H x) (g:wU H H'):pY H H' x:=by
 cases x with
 |sl a _ _ _=>exact g a h
 |ptr a _ _ _=>exact g a h
 |p x=>trivial
 |junk=>trivial
theorem yd {t:TV} (h:gS H t) (g:wU H H'):j6 H H' t:=by
 cases t with
 |one x=>exact jR h g
 |agg cs=>exact fun x hx=>jR (h x hx) g
 |fn f cs=>exact fun x hx=>jR (h x hx) g
 |tup ts=>exact fun t ht x hx=>jR (h t ht x hx) g
theorem jS (x:AV):pY H H x:=by cases x<;>first|rfl|trivial
theorem ye (t:TV):j6 H H t:=by
 cases t with
 |one x=>exact jS x
 |agg cs=>exact fun x _=>jS x
 |fn f cs=>exact fun x _=>jS x
 |tup ts=>exact fun t _ x _=>jS x
theorem rU {ev ev':Operand->Option TV} {op:Op} (h: ∀x∈op.operands,ev x=ev' x):ak P ev op=ak P ev' op:=by
 cases op<;>simp only[Op.operands]at h<;>simp only[ak]
 case move x=>exact h x (by simp)
 case assign x=>exact h x (by simp)
 case pick c a b=>rw[h c (by simp),h a (by simp),h b (by simp)]
 case binOp op t x y t'=>rw[h x (by simp),h y (by simp)]
 case unOp op t x=>rw[h x (by simp)]
 case convert a b x=>rw[h x (by simp)]
 case extract x k=>rw[h x (by simp)]
theorem Cs (k:Nat->Nat->Bool) {ev:Operand->Option TV} {op:Op}:ak P (fun x=>(ev x).map (aS k)) op=(ak P ev op).map (aS k):=by
 have key: ∀(t:TV) v,aS k t= .one (.p (.raw v))↔t= .one (.p (.raw v)):=fun t v=>by
  cases t with
  |one x=>
   cases x with
   |p x=>exact Iff.rfl
   |sl a r off len=>simp only[aS,aT];split<;>simp
   |ptr a r i j=>simp only[aS,aT];split<;>simp
   |junk=>simp[aS,aT]
  |agg cs=>simp[aS]
  |fn f cs=>simp[aS]
  |tup ts=>simp[aS]
 cases op<;>simp only[ak]<;>try rfl
 case pick c a b=>
  cases hc:ev c with
  |none=>rfl
  |some t=>
   simp only[Option.map_some]
   by_cases h1:t= .one (.p (.raw (.bool true)))
   ·subst h1;rfl
   ·by_cases h2:t= .one (.p (.raw (.bool false)))
    ·subst h2;rfl
    ·have e1: ∀b,aS k t≠ .one (.p (.raw (.bool b))):=fun b he=>by
      have:=(key t _).1 he
      cases b
      ·exact h2 this
      ·exact h1 this
     split
     ·rename_i he;injection he with he;exact absurd he (e1 _)
     ·rename_i he;injection he with he;exact absurd he (e1 _)
     ·split
      ·rename_i he;injection he with he;exact absurd he h1
      ·rename_i he;injection he with he;exact absurd he h2
      ·rfl
 case binOp op t x y t'=>
  cases hx:ev x with
  |none=>rfl
  |some tx=>
   cases hy:ev y with
   |none=>
    simp only[Option.map_some,Option.map_none]
    split
    ·rename_i he;cases he
    ·rfl
   |some ty=>
    simp only[Option.map_some]
    by_cases h1: ∃a b,tx= .one (.p (.raw a))/\ty= .one (.p (.raw b))
    ·obtain⟨a,b,rfl,rfl⟩:=h1
     simp only[aS,aT]
     cases ah (rG P t) op a b<;>rfl
    ·split
     ·rename_i a b ha hb
      injection ha with ha
      injection hb with hb
      exact absurd ⟨a,b,(key _ _).1 ha,(key _ _).1 hb⟩ h1
     ·split
      ·rename_i a b ha hb
       injection ha with ha
       injection hb with hb
       exact absurd ⟨a,b,ha,hb⟩ h1
      ·rfl
 case unOp op t x=>
  cases hx:ev x with
  |none=>rfl
  |some tx=>
   simp only[Option.map_some]
   by_cases h1: ∃a,tx= .one (.p (.raw a))
   ·obtain⟨a,rfl⟩:=h1
    simp only[aS,aT]
    cases dc op a<;>rfl
   ·split
    ·rename_i a ha;injection ha with ha;exact absurd ⟨a,(key _ _).1 ha⟩ h1
    ·split
     ·rename_i a ha;injection ha with ha;exact absurd ⟨a,ha⟩ h1
     ·rfl
 case convert a b x=>
  cases hx:ev x with
  |none=>rfl
  |some tx=>
   simp only[Option.map_some]
   by_cases h1: ∃q n,tx= .one (.p (.raw (.int q n)))
   ·obtain⟨q,n,rfl⟩:=h1
    simp only[aS,aT]
    cases P.underlying a with
    |none=>rfl
    |some u=>cases xD P b<;>rfl
   ·split
    ·rename_i q n _ _ ha _ _;injection ha with ha;exact absurd ⟨_,_,(key _ _).1 ha⟩ h1
    ·split
     ·rename_i q n _ _ ha _ _;injection ha with ha;exact absurd ⟨_,_,ha⟩ h1
     ·rfl
 case extract x i=>
  cases hx:ev x with
  |none=>rfl
  |some tx=>
   cases tx with
   |one y=>rfl
   |agg cs=>rfl
   |fn f cs=>rfl
   |tup ts=>
    simp only[Option.map_some,aS,List.getElem?_map]
    cases hi:ts[i]? with
    |none=>rfl
    |some t=>
     obtain⟨b,cs⟩:=t
     cases b with
     |true=>rfl
     |false=>
      cases cs with
      |nil=>rfl
      |cons y l=>cases l<;>rfl
theorem qo {ev ev':Operand->Option TV} {x:Option Operand} {d:Nat} (h: ∀y,x=some y->ev y=ev' y):gC ev x d=gC ev' x d:=by
 cases x with
 |none=>rfl
 |some y=>simp only[gC,h y rfl]
theorem rZ {pl:List (Nat×Nat)} {ev ev':Operand->Option TV}: ∀(parts:List (Nat×Operand)) (cs:List AV),(∀p∈parts,ev p.2=ev' p.2)->fm pl ev cs parts=fm pl ev' cs parts
 |[],cs,_=>rfl
 |(f,x)::rest,cs,h=>by
  simp only[fm,h (f,x) (by simp)]
  split
  ·split
   ·exact rZ rest _ (fun p hp=>h p (by simp[hp]))
   ·rfl
  ·rfl
theorem uA {n:Nat} {ev ev':Operand->Option TV}: ∀(parts:List (Nat×Operand)) (i:Nat),(∀p∈parts,ev p.2=ev' p.2)->fW ev n i parts=fW ev' n i parts
 |[],i,_=>rfl
 |(f,x)::rest,i,h=>by
  simp only[fW,h (f,x) (by simp),uA rest (i+1) (fun p hp=>h p (by simp[hp]))]
theorem lW {ev ev':Operand->Option TV}: ∀(l:List Operand),(∀x∈l,ev x=ev' x)->aD ev l=aD ev' l
 |[],_=>rfl
 |x::l,h=>by simp only[aD,h x (by simp),lW l (fun y hy=>h y (by simp[hy]))]
theorem rV {ev ev':Operand->Option TV} {op:Op} (h: ∀x∈op.operands,ev x=ev' x) (hl: ∀x∈op.operands,∀t,ev x=some t->j6 H H' t):au P ev H op=au P ev' H' op:=by
 cases op<;>simp only[Op.operands]at h hl<;>try (simp only[au];done)
 case load t x=>
  simp only[au,<- h x (by simp)]
  cases hx:ev x with
  |none=>rfl
  |some tx=>
   have:=hl x (by simp) tx hx
   cases tx with
   |one y=>
    cases y with
    |ptr a r i j=>simp only[show H' a=H a from this]
    |p y=>cases y<;>rfl
    |sl a r off len=>rfl
    |junk=>rfl
   |agg cs=>rfl
   |fn f cs=>rfl
   |tup ts=>rfl
 case indexAddr t x ix=>
  simp only[au,<- h x (by simp),<- h ix (by simp)]
  cases fb P t with
  |none=>rfl
  |some e=>
   cases hx:ev x with
   |none=>rfl
   |some tx=>
    have:=hl x (by simp) tx hx
    cases tx with
    |one y=>
     cases y with
     |sl a r off len=>simp only[show H' a=H a from this]
     |p y=>cases y<;>rfl
     |ptr a r i j=>rfl
     |junk=>rfl
    |agg cs=>rfl
    |fn f cs=>rfl
    |tup ts=>rfl
 case fieldAddr t x f=>simp only[au,<- h x (by simp)]
 case field t x f=>simp only[au,<- h x (by simp)]
 case slice t x lo hi mx=>
  cases mx with
  |some m=>simp only[au]
  |none=>
   simp only[au,<- h x (by simp)]
   have hlo: ∀d,gC ev lo d=gC ev' lo d:=fun d=>qo fun y hy=>h y (by subst hy;simp)
   have hhi: ∀d,gC ev hi d=gC ev' hi d:=fun d=>qo fun y hy=>h y (by subst hy;cases lo<;>simp)
   simp only[hlo,hhi]
   cases fb P t with
   |none=>rfl
   |some e=>
    cases hx:ev x with
    |none=>rfl
    |some tx=>
     have:=hl x (by simp) tx hx
     cases tx with
     |one y=>
      cases y with
      |sl a r off len=>simp only[show H' a=H a from this]
      |p y=>cases y<;>rfl
      |ptr a r i j=>rfl
      |junk=>rfl
     |agg cs=>rfl
     |fn f cs=>rfl
     |tup ts=>rfl
 case build t parts=>
  simp only[au]
  have: ∀pl cs,fm pl ev cs parts.toList=fm pl ev' cs parts.toList:=fun pl cs=>rZ _ _ (fun p hp=>h p.2 (by simp only[List.mem_toArray,List.mem_map];exact⟨p,hp,rfl⟩))
  simp only[this]
 case nilCheck x=>simp only[au,<- h x (by simp)]
 case makeFunc fn first captured=>
  cases fn with
  |func f=>
   simp only[au]
   rw[lW captured.toList (fun x hx=>h x (by simp at hx⊢;exact .inr hx))]
  |_=>simp only[au]
 case call c=>
  obtain⟨callee,⟨args⟩,⟨argTypes⟩⟩:=c
  cases callee with
  |builtin b=>
   cases b<;>try (simp only[au];done)
   simp only[au]
   simp only[Call.operands]at h
   split
   ·rename_i x t
    rw[h x (by simp)]
   ·rfl
  |value f=>simp only[au]
  |invoke r m=>simp only[au]
 all_goals rfl
theorem Jx (x:PV):aX H' (.one (.p x))=aX H (.one (.p x)):=by
 have key: ∀G:OH,aX G (.one (.p x))= .one (.p x)\/(x= .raw (.slice none 0 0)/\aX G (.one (.p x))= .one (.p (.sl []))):=fun G=>by
  unfold aX
  split
  ·rename_i heq;cases heq
  ·rename_i heq;injection heq with heq;injection heq with heq;exact .inr ⟨heq,rfl⟩
  ·exact .inl rfl
 by_cases hx:x= .raw (.slice none 0 0)
 ·subst hx;rfl
 ·rcases key H with h1|⟨h1,_⟩
  ·rcases key H' with h2|⟨h2,_⟩
   ·rw[h1,h2]
   ·exact absurd h2 hx
  ·exact absurd h1 hx
theorem Jw (x:PV):newsOf H' (.one (.p x))=newsOf H (.one (.p x)):=by
 unfold newsOf
 split
 ·rename_i heq;injection heq with heq;injection heq with heq;subst heq;rfl
 ·rename_i heq;injection heq with heq;injection heq with heq;subst heq;rfl
 ·rename_i heq;cases heq
 ·rfl
theorem jg {t:TV} (hl:j6 H H' t):aX H' t=aX H t/\ ∀b,ap b H' t=ap b H t:=by
 cases t with
 |one x=>
  cases x with
  |sl a r off len=>exact⟨by simp only[aX,show H' a=H a from hl],fun b=>by simp only[ap,show H' a=H a from hl]⟩
  |p x=>exact⟨Jx x,fun b=>rfl⟩
  |ptr a r i j=>exact⟨rfl,fun b=>rfl⟩
  |junk=>exact⟨rfl,fun b=>rfl⟩
 |agg cs=>exact⟨rfl,fun b=>rfl⟩
 |fn f cs=>exact⟨rfl,fun b=>rfl⟩
 |tup ts=>exact⟨rfl,fun b=>rfl⟩
theorem CU {t:TV} (hl:j6 H H' t):newsOf H' t=newsOf H t:=by
 cases t with
 |one x=>
  cases x with
  |sl a r off len=>simp only[newsOf,show H' a=H a from hl]
  |p x=>exact Jw x
  |ptr a r i j=>rfl
  |junk=>rfl
 |agg cs=>rfl
 |fn f cs=>rfl
 |tup ts=>rfl
theorem ze {items:List (eQ P)} {ow:List Nat} {i d:Nat} {ev ev':Operand->Option TV} {op:Op} (h: ∀x∈op.operands,ev x=ev' x) (hl: ∀x∈op.operands,∀t,ev x=some t->j6 H H' t):aC P items ow i d ev H op=aC P items ow i d ev' H' op:=by
 cases op<;>simp only[Op.operands]at h hl<;>try (simp only[aC];done)
 case box e x=>simp only[aC,<- h x (by simp)]
 case makeSlice t l c=>simp only[aC,<- h l (by simp),<- h c (by simp)]
 case buildSlice t n parts=>
  simp only[aC]
  have: ∀n i,fW ev n i parts.toList=fW ev' n i parts.toList:=fun n i=>uA _ _ (fun p hp=>h p.2 (by simp only[List.mem_toArray,List.mem_map];exact⟨p,hp,rfl⟩))
  simp only[this]
 case call c=>
  obtain⟨callee,⟨args⟩,⟨argTypes⟩⟩:=c
  simp only[Call.operands]at h hl
  cases callee with
  |value f=>
   have he:aD ev args=aD ev' args:=lW args (fun x hx=>h x (by simp[hx]))
   cases f<;>try (simp only[aC];done)
   ·rename_i k
    simp only[aC]
    rw[<- he,<- h (.tmp k) (by simp)]
    cases hcl:B6 (ev (.tmp k))with
    |none=>cases List.find? (fun x=>x.i==i) items<;>cases aD ev args<;>rfl
    |some fe=>
     obtain⟨f,extra⟩:=fe
     cases hts:aD ev args with
     |none=>cases List.find? (fun x=>x.i==i) items<;>rfl
     |some ts0=>
      have hex: ∀t∈extra,j6 H H' t:=fun t ht=>by
       unfold B6 at hcl
       split at hcl
       ·rename_i f' cs hk
        injection hcl with hcl
        injection hcl with hcl hcl'
        subst hcl hcl'
        have hs:=hl (.tmp k) (by simp) _ hk
        simp only[List.mem_map]at ht
        obtain⟨y,hy,rfl⟩:=ht
        exact hs y hy
       ·split at hcl
        ·injection hcl with hcl
         injection hcl with hcl hcl'
         subst hcl hcl'
         simp at ht
        ·cases hcl
       ·cases hcl
      have hlv: ∀t∈ts0++extra,j6 H H' t:=fun t ht=>by
       rcases List.mem_append.1 ht with ht|ht
       ·obtain⟨j,hj,rfl⟩:=List.getElem_of_mem ht
        obtain⟨x,hx,hxt⟩:=(fi hts).2 j _ (List.getElem?_eq_getElem hj)
        exact hl x (by simp[List.mem_of_getElem? hx]) _ hxt
       ·exact hex t ht
      have e1:(ts0++extra).map (aX H')=(ts0++extra).map (aX H):=List.map_congr_left fun t ht=>(jg (hlv t ht)).1
      have e2: ∀b,(ts0++extra).all (ap b H')=(ts0++extra).all (ap b H):=fun b=>by
       rw[Bool.eq_iff_iff]
       simp only[List.all_eq_true]
       exact⟨fun hh t ht=>by rw[<- (jg (hlv t ht)).2 b];exact hh t ht,fun hh t ht=>by rw[(jg (hlv t ht)).2 b];exact hh t ht⟩
      cases List.find? (fun x=>x.i==i) items with
      |none=>rfl
      |some it=>
       have ec:(it.f=f/\(ts0++extra).map (aX H')=it.args/\(ts0++extra).all (ap it.res.plain H')=true/\(!it.res.fam.isEmpty||noRefTV it.res.r)=true)↔(it.f=f/\(ts0++extra).map (aX H)=it.args/\(ts0++extra).all (ap it.res.plain H)=true/\(!it.res.fam.isEmpty||noRefTV it.res.r)=true):=by rw[e1,e2]
       by_cases hc:it.f=f/\(ts0++extra).map (aX H)=it.args/\(ts0++extra).all (ap it.res.plain H)=true/\(!it.res.fam.isEmpty||noRefTV it.res.r)=true
       ·simp only[]
        rw[if_pos hc,if_pos (ec.2 hc)]
       ·simp only[]
        rw[if_neg hc,if_neg (fun h=>hc (ec.1 h))]
   rename_i f
   simp only[aC]
   rw[<- he]
   cases hts:aD ev args with
   |none=>cases List.find? (fun x=>x.i==i) items<;>rfl
   |some ts=>
    have hlv: ∀t∈ts,j6 H H' t:=fun t ht=>by
     obtain⟨k,hk,rfl⟩:=List.getElem_of_mem ht
     obtain⟨x,hx,hxt⟩:=(fi hts).2 k _ (List.getElem?_eq_getElem hk)
     exact hl x (by simp[List.mem_of_getElem? hx]) _ hxt
    have e1:ts.map (aX H')=ts.map (aX H):=List.map_congr_left fun t ht=>(jg (hlv t ht)).1
    have e2: ∀b,ts.all (ap b H')=ts.all (ap b H):=fun b=>by
     rw[Bool.eq_iff_iff]
     simp only[List.all_eq_true]
     exact⟨fun hh t ht=>by rw[<- (jg (hlv t ht)).2 b];exact hh t ht,fun hh t ht=>by rw[(jg (hlv t ht)).2 b];exact hh t ht⟩
    cases List.find? (fun x=>x.i==i) items with
    |none=>rfl
    |some it=>
     have ec:(it.f=f/\ts.map (aX H')=it.args/\ts.all (ap it.res.plain H')=true/\(!it.res.fam.isEmpty||noRefTV it.res.r)=true)↔(it.f=f/\ts.map (aX H)=it.args/\ts.all (ap it.res.plain H)=true/\(!it.res.fam.isEmpty||noRefTV it.res.r)=true):=by rw[e1,e2]
     by_cases hc:it.f=f/\ts.map (aX H)=it.args/\ts.all (ap it.res.plain H)=true/\(!it.res.fam.isEmpty||noRefTV it.res.r)=true
     ·simp only[]
      rw[if_pos hc,if_pos (ec.2 hc)]
     ·simp only[]
      rw[if_neg hc,if_neg (fun h=>hc (ec.1 h))]
  |builtin b=>
   cases b<;>try (simp only[aC];done)
   simp only[aC]
   split
   ·rename_i x y t t'
    rw[<- h x (by simp),<- h y (by simp)]
    have e1:(ev y).bind (newsOf H')=(ev y).bind (newsOf H):=by
     cases hy:ev y with
     |none=>rfl
     |some ty=>exact CU (hl y (by simp) ty hy)
    rw[e1]
   ·rfl
  |invoke r m=>simp only[aC]
end
end
end Go.Proofs.YtpgghglbpcabkaaGreat
