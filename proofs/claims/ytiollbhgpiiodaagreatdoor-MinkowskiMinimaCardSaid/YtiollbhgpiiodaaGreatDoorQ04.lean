/-
  Part 5 of a proof (walks and plain facts).
-/
import Derived.Test.YtiollbhgpiiodaaGreatDoorQ03
set_option linter.all false
set_option maxRecDepth 100000
set_option maxHeartbeats 64000000
open List renaming all_eq_true → ai
open Go.Result renaming andThen_ok → aj
open List renaming mem_map → ak
open List renaming getElem?_append_left → ap
open List renaming getElem?_append_right → aq
open List renaming mem_of_getElem? → aw
open List renaming length_map → ax
open List renaming getElem?_map → az
namespace Go.Proofs.YtiollbhgpiiodaaGreatDoor
open Go.RowKit
section
section
variable {P:Program} {w0 w w':World} {O X:Nat->Prop} {ρ:Rho} {H:OH}
theorem FT {xs us:List Value} {elems news:List (List AV)} {es:Nat} {R:AV->Value->Prop} (hx:xs.length=elems.length*es) (hel: ∀e∈elems,e.length=es)
  (h1: ∀(i:Nat) e (j:Nat) x,elems[i]?=some e->e[j]?=some x-> ∃u:Value,xs[i*es+j]?=some u/\u.oneCell'=true/\R x u)
  (h2: ∀(i:Nat) e (j:Nat) x,news[i]?=some e->e[j]?=some x-> ∃u:Value,us[i*es+j]?=some u/\u.oneCell'=true/\R x u):
  ∀(i:Nat) e (j:Nat) x,(elems++news)[i]?=some e->e[j]?=some x-> ∃u:Value,(xs++us)[i*es+j]?=some u/\u.oneCell'=true/\R x u:=by
 intro i e j x he hx';by_cases hi:i<elems.length
 ·rw[ap hi]at he;obtain⟨u,u1,u2⟩:=h1 i e j x he hx';exact⟨u,by rw[ap (List.getElem?_eq_some_iff.1 u1).1];exact u1,u2⟩
 rw[aq (by omega)]at he;obtain⟨u,u1,u2⟩:=h2 _ e j x he hx';refine⟨u,?_,u2⟩;have hm:elems.length*es<=i*es:=Nat.mul_le_mul_right _ (by omega);rw[aq (by omega),hx,<- u1]
 congr 1
 rw[Nat.mul_sub_right_distrib];omega
theorem GX {ρ':Rho} {H':OH} {Y':Nat->Prop} {a r n:Nat} {o:OObj} {v:Value} {ys:List Value} (hown:w'.ownsRow 0 o.ty o.es v n ys) (hn:o.elems.length=n) (hes:0<o.es) (hel: ∀e∈o.elems,e.length=o.es)
  (hcell: ∀(i:Nat) e (j:Nat) x,o.elems[i]?=some e->e[j]?=some x-> ∃u:Value,ys[i*o.es+j]?=some u/\u.oneCell'=true/\x.rel ρ' H' Y' w' u)
  (hρ:ρ' a r=none->v= .slice none 0 0) (hρ2: ∀g cap cur,v= .slice (some ⟨g,0,none⟩) n cap->w'.heap[g]?=some (.cells cur o.ty (0,0))->ρ' a r=some (g,cap)) (hnil:v= .slice none 0 0->ρ' a r=none):objRel ρ' H' Y' w' a r o:=by
 refine⟨hel,hes,?_⟩;obtain⟨hl,h2⟩:=hown;rcases h2 with⟨hv,h0⟩|⟨g,cap,cur,hv,_,hh,hnc,hm,hs,ht⟩
 ·rw[hnil hv];exact List.length_eq_zero_iff.1 (by omega)
 rw[hρ2 g cap cur hv hh];refine⟨cur,hh,hs,by omega,hm,fun i e j x he hx=>?_⟩;obtain⟨u,u1,u2,u3⟩:=hcell i e j x he hx;refine⟨u,?_,u2,u3⟩;rw[<- ht,List.getElem?_take]at u1;split at u1
 ·simpa using u1
 cases u1
theorem GZ {ρ':Rho} {H':OH} {Y':Nat->Prop} {a r n:Nat} {o:OObj} {v:Value} {ys:List Value} (hown:w'.ownsRow 0 o.ty o.es v n ys) (hn:o.elems.length=n) (ho:(H' a)[r]?=some o)
  (hρ2: ∀g cap cur,v= .slice (some ⟨g,0,none⟩) n cap->w'.heap[g]?=some (.cells cur o.ty (0,0))->ρ' a r=some (g,cap)) (hnil:v= .slice none 0 0->ρ' a r=none):AV.rel ρ' H' Y' w' (.sl a r 0 n) v:=by
 refine⟨o,ho,by omega,?_⟩;obtain⟨hl,h2⟩:=hown;rcases h2 with⟨hv,h0⟩|⟨g,cap,cur,hv,_,hh,hcap,_⟩
 ·exact .inl ⟨hnil hv,hv,h0,rfl⟩
 exact .inr ⟨g,cap,cap,hρ2 g cap cur hv hh,by rw[hv,Nat.zero_mul],by omega,fun _=>rfl⟩
def valρ:Value->Option (Nat×Nat)
 | .slice (some a) _ cap=>some (a.block,cap)
 |_=>none
theorem Et (h:w.grownBy w' none):Ext w w':=⟨h.os,h.tape,h.output,h.size,fun k hk=>h.block k hk (by simp)⟩
theorem DU {s:AS} {act:Act} (h1:act.defers=[]) (hsz:act.tmps.size=s.tmps.length) (hinv:Inv w0 O X s.H ρ w) (htm:bY X ρ s act w) {d:Nat} {e:TypeId} {es:Nat} {news:List (List AV)} {us:List Value} {vs v':Value} (hd:s.H d=[])
  (hes:0<es) (hel: ∀x∈news,x.length=es) (hsrc:FN ρ s.H (Xo X ρ s.H) w vs news es us) (hown:w'.ownsRow 0 e es v' news.length us) (hg:w.grownBy w' none) (hb:v'.ownBlock=none\/v'.ownBlock=some w.heap.size):
  fW w0 O X (AS.put ⟨s.tmps,be s.H d [⟨e,es,news⟩]⟩ (some d) (.one (.sl d 0 0 news.length))) (act.put (some d) v') w':=by
 obtain⟨_,hul,_,hp,hcell⟩:=hsrc;have hext:=Et hg;have hvb: ∀g c,valρ v'=some (g,c)->g=w.heap.size:=fun g c h=>by
  rcases hown.2 with⟨hv,_⟩|⟨g',cap,cur,hv,_⟩
  ·rw[hv]at h;cases h
  rw[hv]at h hb;simp[valρ]at h;simp[Value.ownBlock]at hb;omega
 have hnew: ∀(r b c':Nat),(if r=0 then valρ v' else none)=some (b,c')->w.heap.size<=b:=fun r b c' h=>by
  split at h
  ·have:=hvb b c' h;omega
  cases h
 have hρ2: ∀(g cap:Nat) (cur:Array Value),v'= .slice (some ⟨g,0,none⟩) news.length cap->w'.heap[g]?=some (.cells cur e (0,0))->newρ ρ d (fun r=>if r=0 then valρ v' else none) d 0=some (g,cap):=fun g cap cur hv _=>by
  rw[newρ_eq,if_pos rfl,hv];rfl
 have hnil:v'= .slice none 0 0->newρ ρ d (fun r=>if r=0 then valρ v' else none) d 0=none:=fun hv=>by rw[newρ_eq,if_pos rfl,hv];rfl
 refine Ab h1 hsz hinv htm hext hd (fun r=>if r=0 then valρ v' else none) hnew (fun r r' b c c' h h'=>?_) (fun r o ho=>?_) (fun r o ho=>?_) ?_
 ·split at h
  ·split at h'
   ·omega
   cases h'
  cases h
 ·cases r with
  |succ r=>simp at ho
  |zero=>simp at ho;subst ho;exact fun x hx y hy=>fV (hp x hx y hy)
 ·cases r with
  |succ r=>simp at ho
  |zero=>
   simp at ho;subst ho;refine GX (o:=⟨e,es,news⟩) hown rfl hes hel (fun i x j y hx hy=>?_) (fun h=>?_) hρ2 hnil
   ·obtain⟨u,u1,u2,u3⟩:=hcell i x j y hx hy;exact⟨u,u1,u2,nP hinv hext hd hnew u3⟩
   rcases hown.2 with⟨hv,_⟩|⟨g',cap,cur,hv,_,hh,_⟩
   ·exact hv
   rw[hρ2 g' cap cur hv hh]at h;cases h
 exact GZ (Y':=Xo X (newρ ρ d (fun r=>if r=0 then valρ v' else none)) (be s.H d [⟨e,es,news⟩])) (o:=⟨e,es,news⟩) hown rfl (by rw[bF];rfl) hρ2 hnil
theorem DV {s:AS} {act:Act} (hinv:Inv w0 O X s.H ρ w) (htm:bY X ρ s act w) {a r:Nat} {o:OObj} {news:List (List AV)} {xs us:List Value} {v vs v':Value} (ho:(s.H a)[r]?=some o)
  (hel: ∀x∈news,x.length=o.es) (hxs: ∀(i:Nat) e (j:Nat) x,o.elems[i]?=some e->e[j]?=some x-> ∃u:Value,xs[i*o.es+j]?=some u/\u.oneCell'=true/\x.rel ρ s.H (Xo X ρ s.H) w u) (hxl:xs.length=o.elems.length*o.es)
  (hvb:v.ownBlock=(ρ a r).map (·.1))
  (hsrc:FN ρ s.H (Xo X ρ s.H) w vs news o.es us) (hown:w'.ownsRow 0 o.ty o.es v' (o.elems.length+news.length) (xs++us)) (hg:w.grownBy w' v.ownBlock) (hb:v'.ownBlock=v.ownBlock\/v'.ownBlock=some w.heap.size):
  let k:Nat->Nat->Bool:=fun x y=>x==a&&y==r
  let H':=be s.H a (((s.H a).map (iz k)).set r {o with elems:=o.elems++news})
  (∀e∈o.elems,∀x∈e,isPure x=true)->
  ∃ρ',Inv w0 O X H' ρ' w'/\bY X ρ' ⟨s.tmps.map (bo k),H'⟩ act w'/\AV.rel ρ' H' (Xo X ρ' H') w' (.sl a r 0 (o.elems.length+news.length)) v':=by
 intro k H' hpo;obtain⟨_,hul,_,hp,hcell⟩:=hsrc;obtain⟨q1,q2,q3⟩:=hinv.objs a r o ho;have hrl:r<(s.H a).length:=(List.getElem?_eq_some_iff.1 ho).1;have hH'a: ∀r':Nat,(H' a)[r']?=if r'=r then some {o with elems:=o.elems++news}else((s.H a)[r']?).map (iz k):=fun r'=>by
  show(be _ _ _ a)[r']?=_;rw[bF];by_cases hr:r'=r
  ·subst hr;rw[if_pos rfl,List.getElem?_set];simp[hrl]
  rw[if_neg hr,List.getElem?_set_ne (Ne.symm hr),az]
 have hH'n: ∀a',a'≠a->H' a'=s.H a':=fun a' ha=>aZ ha
 generalize hρ':(fun x y=>if x=a/\y=r then valρ v' else ρ x y:Rho)=ρ';have hρ0:ρ' a r=valρ v':=by rw[<- hρ'];exact if_pos ⟨rfl,rfl⟩
 have hρn: ∀x y,¬(x=a/\y=r)->ρ' x y=ρ x y:=fun x y h=>by rw[<- hρ'];exact if_neg h
 have hval: ∀g c,valρ v'=some (g,c)->(∃c0,ρ a r=some (g,c0))\/g=w.heap.size:=fun g c h=>by
  rcases hown.2 with⟨hv,_⟩|⟨g',cap,cur,hv,_⟩
  ·rw[hv]at h;cases h
  rw[hv]at h hb;simp[valρ]at h;rcases hb with hb|hb
  ·left;rw[hvb]at hb;cases hr:ρ a r with
   |none=>rw[hr]at hb;simp[Value.ownBlock]at hb
   |some bc=>
    obtain⟨b0,c0⟩:=bc;rw[hr]at hb;simp[Value.ownBlock]at hb;exact⟨c0,by rw[<- h.1,hb]⟩
  right;simp[Value.ownBlock]at hb;omega
 -- a live row of H' other than (a, r) is one of H, killed or not
 have back: ∀(x y:Nat) o1,(H' x)[y]?=some o1-> ¬(x=a/\y=r)-> ∃o2,(s.H x)[y]?=some o2/\o1.ty=o2.ty/\o1.es=o2.es/\o1.elems.length=o2.elems.length/\(o1=o2/\x≠a\/o1=iz k o2):=fun x y o1 ho1 hne=>by
  by_cases hx:x=a
  ·subst hx;rw[hH'a,if_neg (fun h=>hne ⟨rfl,h⟩)]at ho1;obtain⟨o2,g1,g2⟩:=Option.map_eq_some_iff.1 ho1;exact⟨o2,g1,by rw[<- g2];rfl,by rw[<- g2];rfl,by rw[<- g2];simp[iz],.inr g2.symm⟩
  rw[hH'n x hx]at ho1;exact⟨o1,ho1,rfl,rfl,rfl,.inl ⟨rfl,hx⟩⟩
 have live: ∀(x y:Nat) o1,(s.H x)[y]?=some o1-> ¬(x=a/\y=r)-> ∃o2,(H' x)[y]?=some o2/\o2.es=o1.es/\o2.elems.length=o1.elems.length:=fun x y o1 ho1 hne=>by
  by_cases hx:x=a
  ·subst hx;refine⟨iz k o1,?_,rfl,by simp[iz]⟩;rw[hH'a,if_neg (fun h=>hne ⟨rfl,h⟩),ho1];rfl
  exact⟨o1,by rw[hH'n x hx];exact ho1,rfl,rfl⟩
 have hXback: ∀b,b<w.heap.size->Xo X ρ' H' b->Xo X ρ s.H b:=fun b hb hX=>by
  rcases hX with hX|⟨x,y,o1,c,g1,g2⟩
  ·exact .inl hX
  by_cases hxy:x=a/\y=r
  ·obtain⟨rfl,rfl⟩:=hxy;rw[hρ0]at g2;rcases hval b c g2 with⟨c0,hc0⟩|hh
   ·exact .inr ⟨x,y,o,c0,ho,hc0⟩
   omega
  obtain⟨o2,k1,_⟩:=back x y o1 g1 hxy;rw[hρn x y hxy]at g2;exact .inr ⟨x,y,o2,c,k1,g2⟩
 have mono: ∀x v,AV.rel ρ s.H (Xo X ρ s.H) w x v->AV.rel ρ' H' (Xo X ρ' H') w' (bs k x) v:=fun x u hx=>by
  cases x with
  |p x=>
   have z1:cu (fun b=>Xo X ρ s.H b\/Xo X ρ' H' b) w x u:=cu.weaken (fun b hb hz=>hz.elim id (hXback b hb)) hx;have z2:cu (fun b=>Xo X ρ s.H b\/Xo X ρ' H' b) w' x u:=cu.stays ⟨hg.size,fun p z hp hz=>by
    have hlt:=oC hz;unfold World.cell? at hz⊢;rw[hg.block _ hlt (fun hrow=>?_)]
    ·exact hz
    apply hp;left;rw[hvb]at hrow;cases hr:ρ a r with
    |none=>rw[hr]at hrow;cases hrow
    |some bc=>
     rw[hr]at hrow;simp at hrow;exact .inr ⟨a,r,o,bc.2,ho,by rw[hr,hrow]⟩⟩ z1
   exact cu.weaken (fun b _ hz=> .inr hz) z2
  |sl x y off len=>
   simp only[bs];by_cases hxy:x=a/\y=r
   ·obtain⟨rfl,rfl⟩:=hxy;simp[k];trivial
   have:k x y=false:=by simp[k];omega
   simp only[this,Bool.false_eq_true,if_false];obtain⟨o1,h1,h2,h3⟩:=hx;obtain⟨o2,g1,g2,g3⟩:=live x y o1 h1 hxy;exact⟨o2,g1,by omega,by rw[hρn x y hxy,g2];exact h3⟩
  |ptr x y i j=>
   simp only[bs];by_cases hxy:x=a/\y=r
   ·obtain⟨rfl,rfl⟩:=hxy;simp[k];trivial
   have:k x y=false:=by simp[k];omega
   simp only[this,Bool.false_eq_true,if_false];obtain⟨o1,b,c,h1,h2,h3,h4⟩:=hx;obtain⟨o2,g1,g2,g3⟩:=live x y o1 h1 hxy;exact⟨o2,b,c,g1,by rw[hρn x y hxy];exact h2,by omega,by rw[g2];exact h4⟩
  |junk=>trivial
 have monop: ∀x v,isPure x=true->AV.rel ρ s.H (Xo X ρ s.H) w x v->AV.rel ρ' H' (Xo X ρ' H') w' x v:=fun x u hpx hx=>by
  have:=mono x u hx;cases x<;>first|exact this|cases hpx
 have hnil:v'= .slice none 0 0->ρ' a r=none:=fun hv=>by rw[hρ0,hv];rfl
 have hρ2: ∀(g cap:Nat) (cur:Array Value),v'= .slice (some ⟨g,0,none⟩) (o.elems.length+news.length) cap->w'.heap[g]?=some (.cells cur o.ty (0,0))->ρ' a r=some (g,cap):=fun g cap cur hv _=>by rw[hρ0,hv];rfl
 have hlen:(o.elems++news).length=o.elems.length+news.length:=by simp
 have hobk: ∀bc,ρ a r=some bc->bc.1<w.heap.size:=fun bc h=>bP (hinv.objs a r o ho) (b:=bc.1) (c:=bc.2) h
 refine⟨ρ',⟨?_,fun x y o1 ho1=>?_,fun x y x' y' o1 o2 b c c' ho1 ho2 hr1 hr2=>?_,fun x y o1 b c ho1 hr1=>?_,fun b hb=>Nat.lt_of_lt_of_le (hinv.bar b hb) hg.size,fun x y o1 ho1=>?_⟩,GA htm mono,?_⟩
 ·refine⟨hg.os.trans hinv.keep.os,hg.tape.trans hinv.keep.tape,hg.output.trans hinv.keep.output,Nat.le_trans hinv.keep.size hg.size,fun j hj hO=>?_⟩;rw[hg.block j (Nat.lt_of_lt_of_le hj hinv.keep.size) (fun hrow=>?_)]
  ·exact hinv.keep.block j hj hO
  rw[hvb]at hrow;cases hr:ρ a r with
  |none=>rw[hr]at hrow;cases hrow
  |some bc=>
   rw[hr]at hrow;simp at hrow;rcases(hinv.old a r o bc.1 bc.2 ho hr).1 with h|h
   ·omega
   exact hO (hrow▸h)
 ·by_cases hxy:x=a/\y=r
  ·obtain⟨rfl,rfl⟩:=hxy;rw[hH'a,if_pos rfl]at ho1;injection ho1 with ho1
   subst ho1;refine GX (o:={o with elems:=o.elems++news}) hown hlen q2 (fun e he=>?_) (FT hxl q1 (fun i e j z he hz=>?_) (fun i e j z he hz=>?_)) (fun h=>?_) hρ2 hnil
   ·rcases List.mem_append.1 he with he|he
    ·exact q1 e he
    exact hel e he
   ·obtain⟨u,u1,u2,u3⟩:=hxs i e j z he hz;exact⟨u,u1,u2,monop z u (hpo e (aw he) z (aw hz)) u3⟩
   ·obtain⟨u,u1,u2,u3⟩:=hcell i e j z he hz;exact⟨u,u1,u2,monop z u (hp e (aw he) z (aw hz)) u3⟩
   rcases hown.2 with⟨hv,_⟩|⟨g',cap,cur,hv,_,hh,_⟩
   ·exact hv
   rw[hρ2 g' cap cur hv hh]at h;cases h
  obtain⟨o2,g1,g2,g3,g4,g5⟩:=back x y o1 ho1 hxy;have hblk: ∀b c,ρ x y=some (b,c)->w'.heap[b]?=w.heap[b]?:=fun b c hb=>hg.block b (bP (hinv.objs x y o2 g1) hb) (fun hrow=>by
   rw[hvb]at hrow;cases hr:ρ a r with
   |none=>rw[hr]at hrow;cases hrow
   |some bc=>
    rw[hr]at hrow;simp at hrow;exact hxy (hinv.inj x y a r o2 o b c bc.2 g1 ho hb (by rw[hr,hrow])))
  rcases g5 with⟨rfl,hxa⟩|rfl
  ·have hself:=hinv.self x y o1 g1;obtain⟨z1,z2,z3⟩:=hinv.objs x y o1 g1;refine⟨z1,z2,?_⟩;rw[hρn x y hxy];cases hr:ρ x y with
   |none=>rw[hr]at z3;exact z3
   |some bc=>
    obtain⟨b,c⟩:=bc;rw[hr]at z3;obtain⟨cells,p1,p2,p3,p4,p5⟩:=z3;refine⟨cells,by rw[hblk b c hr];exact p1,p2,p3,p4,fun i e j z he hz=>?_⟩;obtain⟨u,u1,u2,u3⟩:=p5 i e j z he hz;refine⟨u,u1,u2,?_⟩;have hs:=hself e (aw he) z (aw hz);have:=mono z u u3;cases z with
    |sl z1 z2 off len=>have hs:z1=x:=hs;have:k z1 z2=false:=(by simp[k];omega);rename_i hm;simpa[bs,this] using hm
    |ptr z1 z2 i j=>have hs:z1=x:=hs;have:k z1 z2=false:=(by simp[k];omega);rename_i hm;simpa[bs,this] using hm
    |p z=>exact this
    |junk=>trivial
  obtain⟨z1,z2,z3⟩:=hinv.objs x y o2 g1;refine⟨fun e he=>?_,z2,?_⟩
  ·simp only[iz,ak]at he;obtain⟨e',he',rfl⟩:=he;rw[ax];exact z1 e' he'
  rw[hρn x y hxy];cases hr:ρ x y with
  |none=>rw[hr]at z3;simp[iz,z3]
  |some bc=>
   obtain⟨b,c⟩:=bc;rw[hr]at z3;obtain⟨cells,p1,p2,p3,p4,p5⟩:=z3;refine⟨cells,by rw[hblk b c hr];exact p1,p2,by simpa[iz] using p3,p4,fun i e j z he hz=>?_⟩;simp only[iz,az]at he;obtain⟨e',he',rfl⟩:=Option.map_eq_some_iff.1 he;rw[az]at hz;obtain⟨z',hz',rfl⟩:=Option.map_eq_some_iff.1 hz;obtain⟨u,u1,u2,u3⟩:=p5 i e' j z' he' hz';exact⟨u,u1,u2,mono z' u u3⟩
 ·by_cases h1:x=a/\y=r
  ·obtain⟨rfl,rfl⟩:=h1;by_cases h2:x'=x/\y'=y
   ·omega
   exfalso;rw[hρ0]at hr1;rw[hρn x' y' h2]at hr2;obtain⟨o2',g1,_⟩:=back x' y' o2 ho2 h2;rcases hval b c hr1 with⟨c0,hc0⟩|hh
   ·have:=hinv.inj x' y' x y o2' o b c' c0 g1 ho hr2 hc0;omega
   have:=bP (hinv.objs x' y' o2' g1) hr2;omega
  by_cases h2:x'=a/\y'=r
  ·exfalso;obtain⟨rfl,rfl⟩:=h2;rw[hρ0]at hr2;rw[hρn x y h1]at hr1;obtain⟨o1',g1,_⟩:=back x y o1 ho1 h1;rcases hval b c' hr2 with⟨c0,hc0⟩|hh
   ·have:=hinv.inj x y x' y' o1' o b c c0 g1 ho hr1 hc0;omega
   have:=bP (hinv.objs x y o1' g1) hr1;omega
  rw[hρn x y h1]at hr1;rw[hρn x' y' h2]at hr2;obtain⟨o1',g1,_⟩:=back x y o1 ho1 h1;obtain⟨o2',g2,_⟩:=back x' y' o2 ho2 h2;exact hinv.inj x y x' y' o1' o2' b c c' g1 g2 hr1 hr2
 ·by_cases h1:x=a/\y=r
  ·obtain⟨rfl,rfl⟩:=h1;rw[hρ0]at hr1;rcases hval b c hr1 with⟨c0,hc0⟩|hh
   ·exact hinv.old x y o b c0 ho hc0
   have:=hinv.keep.size;exact⟨.inl (by omega),fun hX=>by have:=hinv.bar b hX;omega⟩
  rw[hρn x y h1]at hr1;obtain⟨o1',g1,_⟩:=back x y o1 ho1 h1;exact hinv.old x y o1' b c g1 hr1
 ·by_cases h1:x=a/\y=r
  ·obtain⟨rfl,rfl⟩:=h1;rw[hH'a,if_pos rfl]at ho1;injection ho1 with ho1
   subst ho1;intro e he z hz;rcases List.mem_append.1 he with he|he
   ·exact hinv.self x y o ho e he z hz
   exact fV (hp e he z hz)
  obtain⟨o2,g1,g2,g3,g4,g5⟩:=back x y o1 ho1 h1;rcases g5 with⟨rfl,_⟩|rfl
  ·exact hinv.self x y o1 g1
  intro e he z hz;simp only[iz,ak]at he;obtain⟨e',he',rfl⟩:=he;simp only[ak]at hz;obtain⟨z',hz',rfl⟩:=hz;have:=hinv.self x y o2 g1 e' he' z' hz';cases z' with
  |sl z1 z2 off len=>simp only[bs];split;trivial;exact this
  |ptr z1 z2 i j=>simp only[bs];split;trivial;exact this
  |p z=>trivial
  |junk=>trivial
 exact GZ (o:={o with elems:=o.elems++news}) hown hlen (by rw[hH'a,if_pos rfl]) hρ2 hnil
end
end
section
section
variable {P:Program} {w0 w w':World} {O X:Nat->Prop} {ρ:Rho} {H:OH}
theorem jJ (x:AV):bs (fun _ _=>false) x=x:=by cases x<;>rfl
theorem mq (t:TV):bo (fun _ _=>false) t=t:=by
 cases t with
 |one x=>simp[bo,jJ]
 |agg cs=>simp only[bo];congr 1;rw[show bs (fun _ _=>false)=id from funext jJ];simp
 |fn f cs=>simp only[bo];congr 1;rw[show bs (fun _ _=>false)=id from funext jJ];simp
 |tup ts=>simp only[bo];congr 1;rw[show bs (fun _ _=>false)=id from funext jJ];simp
theorem lL (l:List TV):l.map (bo fun _ _=>false)=l:=by
 rw[show bo (fun _ _=>false)=id from funext mq];simp
theorem uq {ρc:Rho} {F:List OObj} {Y:Nat->Prop} {d:Nat} {ρ':Rho} {H':OH} {Y':Nat->Prop} (hF: ∀(r:Nat) o,F[r]?=some o->(H' d)[r]?=some (renO d o)/\ρ' d r=ρc 0 r)
  (hY: ∀b,b<w.heap.size->Y' b->Xo Y ρc (famH 0 F) b) {x:AV} {v:Value} (h:x.rel ρc (famH 0 F) (Xo Y ρc (famH 0 F)) w v):(dq d x).rel ρ' H' Y' w v:=by
 cases x with
 |p x=>exact cu.weaken hY h
 |sl a r off len=>
  obtain⟨o,h1,h2,h3⟩:=h;by_cases ha:a=0
  ·subst ha;obtain⟨f1,f2⟩:=hF r o h1;exact⟨renO d o,f1,by simpa[renO] using h2,ku (by decide) h3 f2⟩
  simp[famH,ha]at h1
 |ptr a r i j=>
  obtain⟨o,b,c,h1,h2,h3,h4⟩:=h;by_cases ha:a=0
  ·subst ha;obtain⟨f1,f2⟩:=hF r o h1;exact⟨renO d o,b,c,f1,by rw[f2];exact h2,by simpa[renO] using h3,h4⟩
  simp[famH,ha]at h1
 |junk=>trivial
theorem oZ {ρ':Rho} {H':OH} {Y Y':Nat->Prop} {d:Nat} {t:TV} {v:Value} (h:t.rel ρ H Y w v) (hk: ∀x v,x.rel ρ H Y w v->AV.rel ρ' H' Y' w' (dq d x) v):(renTV d t).rel ρ' H' Y' w' v:=by
 have agg: ∀cs v,bX ρ H Y w cs v->bX ρ' H' Y' w' (cs.map (dq d)) v:=fun cs v h=>by
  obtain⟨vs,h1,h2,h3⟩:=h;refine⟨vs,h1,by simpa using h2,fun j x hx=>?_⟩;rw[az]at hx;obtain⟨y,hy,rfl⟩:=Option.map_eq_some_iff.1 hx;obtain⟨u,u1,u2,u3⟩:=h3 j y hy;exact⟨u,u1,u2,hk _ _ u3⟩
 cases t with
 |one x=>exact hk _ _ h
 |agg cs=>exact agg cs v h
 |fn f cs=>obtain⟨u,h1,h2⟩:=h;exact⟨u,agg cs u h1,h2⟩
 |tup ts=>
  obtain⟨vs,h1,h2,h3⟩:=h;refine⟨vs,h1,by simpa using h2,fun j b cs hx=>?_⟩;rw[az]at hx;obtain⟨y,hy,hyy⟩:=Option.map_eq_some_iff.1 hx;obtain⟨b',cs'⟩:=y;simp at hyy;obtain⟨rfl,rfl⟩:=hyy;obtain⟨u,u1,u2⟩:=h3 j b' cs' hy;refine⟨u,u1,?_⟩;rcases u2 with⟨u2,u3⟩|⟨u2,x,rfl,u4⟩
  ·exact .inl ⟨u2,agg _ _ u3⟩
  exact .inr ⟨u2,_,rfl,hk _ _ u4⟩
theorem Jx {Z:Nat->Prop} {x:AV} {v:Value} (hp:isPure x=true) (h:x.rel ρ H Z w v):cu Z w (unP x) v:=by
 cases x<;>first|exact h|cases hp
theorem yo {own:Bool} {Y Z:Nat->Prop} (hob: ∀(a r:Nat) (o:OObj),(H a)[r]?=some o->objRel ρ H Y w a r o) (hZ: ∀b,Z b->Y b) (hZo:own=true-> ∀(a r:Nat) (o:OObj) (b c:Nat),(H a)[r]?=some o->ρ a r=some (b,c)-> ¬Z b) {t:TV} {v:Value} (h:t.rel ρ H Y w v) (hn:eE own H t=true):
  (ia H t).rel (fun _ _=>none) (fun _=>[]) Z w v:=by
 have wk: ∀x u,cu Y w x u->cu Z w x u:=fun x u h=>cu.weaken (fun b _ hb=>hZ b hb) h
 unfold eE at hn;split at hn
 ·rename_i a r off len;simp only[Bool.and_eq_true]at hn;obtain⟨ho1,hn⟩:=hn;obtain⟨o,g1,g2,g3⟩:=h;rw[g1]at hn;simp only[ai]at hn;simp only[ia,g1];show cu _ _ _ _;obtain⟨q1,q2,q3⟩:=hob a r o g1;have hl:(((o.elems.take (off+len)).drop off).map (List.map unP)).length=len:=by simp;omega
  rcases g3 with⟨gr,gv,gl,go⟩|⟨b,c,cap,gr,gv,hcap,_⟩
  ·rw[List.length_eq_zero_iff.1 (hl.trans gl),gv];exact cu.nil _ _
  by_cases hl0:len=0
  ·rw[List.length_eq_zero_iff.1 (hl.trans hl0),gv,hl0];exact cu.nil _ _
  rw[gr]at q3;obtain⟨cells,p1,p2,p3,p4,p5⟩:=q3;have hsub: ∀(i:Nat) e,(((o.elems.take (off+len)).drop off).map (List.map unP))[i]?=some e-> ∃e',o.elems[off+i]?=some e'/\e=e'.map unP:=fun i e he=>by
   rw[az]at he;obtain⟨e',he',rfl⟩:=Option.map_eq_some_iff.1 he;rw[List.getElem?_drop,List.getElem?_take]at he';split at he'
   ·exact⟨e',he',rfl⟩
   cases he'
  have hcell: ∀(i:Nat) e (j:Nat) x,(((o.elems.take (off+len)).drop off).map (List.map unP))[i]?=some e->e[j]?=some x-> ∃u:Value,cells[(off+i)*o.es+j]?=some u/\cu Z w x u:=fun i e j x he hx=>by
   obtain⟨e',he',rfl⟩:=hsub i e he;rw[az]at hx;obtain⟨x',hx',rfl⟩:=Option.map_eq_some_iff.1 hx;obtain⟨u,u1,u2,u3⟩:=p5 _ e' j x' he' hx';exact⟨u,u1,wk _ _ (Jx (hn e' (aw he') x' (aw hx')) u3)⟩
  rw[gv];have:=cu.sl (X:=Z) (w:=w) b (off*o.es) o.es cap (((o.elems.take (off+len)).drop off).map (List.map unP)) (fun i j=>(cells[(off+i)*o.es+j]?).getD undef) (hZo ho1 a r o b c g1 gr) (Array.getElem?_eq_some_iff.1 p1).1
   (fun e he=>by
    simp only[ak]at he;obtain⟨e',he',rfl⟩:=he;rw[ax];exact q1 e' (List.mem_of_mem_take (List.mem_of_mem_drop he'))) (by omega) (by omega)
   (fun i e j x he hx=>by
    obtain⟨u,u1,_⟩:=hcell i e j x he hx;rw[cell_of_row _ b _ cells o.ty (0,0) p1,<- Nat.add_mul,u1];rfl)
   (fun i e j x he hx=>by
    obtain⟨u,u1,u2⟩:=hcell i e j x he hx;simp only[u1,Option.getD_some];exact u2)
  rw[hl]at this;exact this
 ·rename_i x;unfold ia;split
  ·rename_i heq;cases heq
  ·rename_i heq;injection heq with heq
   injection heq with heq
   subst heq;have:=(bO h).1;subst this;exact cu.nil _ _
  exact wk _ _ h
 ·rename_i cs;simp only[ai]at hn;obtain⟨vs,h1,h2,h3⟩:=h;refine⟨vs,h1,h2,fun j x hx=>?_⟩;obtain⟨u,u1,u2,u3⟩:=h3 j x hx;refine⟨u,u1,u2,?_⟩;have hp:=hn x (aw hx);cases x<;>first|exact wk _ _ u3|cases hp
 ·rename_i f cs;simp only[ai]at hn;obtain⟨u0,⟨vs,h1,h2,h3⟩,h4⟩:=h;refine⟨u0,⟨vs,h1,h2,fun j x hx=>?_⟩,h4⟩;obtain⟨u,u1,u2,u3⟩:=h3 j x hx;refine⟨u,u1,u2,?_⟩;have hp:=hn x (aw hx);cases x<;>first|exact wk _ _ u3|cases hp
 cases hn
theorem qW {own:Bool} {Y Z:Nat->Prop} (hob: ∀(a r:Nat) (o:OObj),(H a)[r]?=some o->objRel ρ H Y w a r o) (hZ: ∀b,Z b->Y b) (hZo:own=true-> ∀b,¬Z b) {t:TV} {v:Value} (h:t.rel ρ H Y w v) (hn:eE own H t=true):
  (ia H t).rel (fun _ _=>none) (fun _=>[]) Z w v:=
 yo hob hZ (fun h _ _ _ b _ _ _=>hZo h b) h hn
end
end
section
section
variable {P:Program} {w0 w w':World} {O X:Nat->Prop} {ρ:Rho} {H:OH}
theorem ij {Y:Nat->Prop}:TV.rel ρ H Y w .undef undef:=⟨#[],rfl,rfl,fun j b cs h=>by simp at h⟩
theorem wV {s:AS} {a:Act} (h1:a.defers=[]) (hsz:a.tmps.size=s.tmps.length) (hinv:Inv w0 O X s.H ρ w) (htm:bY X ρ s a w) {o:Oper} {t:TypeId} {ad x:Operand} (ho:o.op= .store t ad x)
  {fa r i j n:Nat} {ob:OObj} {e cs:List AV} (had:s.ev ad=some (.one (.ptr fa r i j))) (hn:szO P t=some n) (hob:(s.H fa)[r]?=some ob) (he:ob.elems[i]?=some e) (hcs:cs.length=n) (hj:j+n<=e.length)
  (hx:ns ρ s.H (Xo X ρ s.H) w cs (a.eval x).cells) (hself: ∀y∈cs,cW fa y) {K:Act->World->Prop} {Q:Exit->Act->World->Prop}
  (hK: ∀v w',fW w0 O X (AS.put ⟨s.tmps,be s.H fa ((s.H fa).set r {ob with elems:=ob.elems.set i (dp e j cs)})⟩ o.dst .undef) (a.put o.dst v) w'->K (a.put o.dst v) w'):o.wp P a w K Q:=by
 obtain⟨ob',b,c,g1,g2,g3,g4⟩:=cz htm ad _ had;rw[hob]at g1;injection g1 with g1
 subst g1;obtain⟨x1,x2⟩:=hx;have hvl:(a.eval x).cells.toList.length=cs.length:=by simpa using x1
 obtain⟨cells,c1,c2,c3,c4⟩:=JQ h1 hsz hinv htm (vs:=(a.eval x).cells.toList) (j:=j) hob g2 he (by omega) hvl (fun k y hy=>by
  obtain⟨u,u1,u2⟩:=x2 k y hy;exact⟨u,by simpa using u1,u2⟩) hself
 have hone: ∀u∈(a.eval x).cells,u.oneCell'=true:=fun u hu=>by
  obtain⟨k,hk,rfl⟩:=Array.getElem_of_mem hu;obtain⟨y,hy⟩:=getElem?_of_lt (l:=cs) (k:=k) (by rw[<- x1];exact hk);obtain⟨u,u1,u2,_⟩:=x2 k y hy;rw[Array.getElem?_eq_getElem hk]at u1;injection u1 with u1
  rw[u1];exact u2
 have hrun:=CS (P:=P) (t:=t) (v:=a.eval x) (by rw[hn,x1,hcs]) c1 (by simpa using c2) hone;unfold Oper.wp execOp;simp only[ho,g4];rw[UY hrun];refine hK undef _ (gT (ρ:=ρ) h1 hsz ?_ ?_ ij)
 ·simpa using c3
 simpa using c4
theorem Ee {s:AS} {a:Act} (h1:a.defers=[]) (hsz:a.tmps.size=s.tmps.length) (hinv:Inv w0 O X s.H ρ w) (htm:bY X ρ s a w) {o:Oper} {q:Dz} (h:gG P s.ev s.H o.op=some q) {K:Act->World->Prop} {Q:Exit->Act->World->Prop}
  (hK: ∀v w',fW w0 O X (AS.put ⟨s.tmps.map (bo q.k),q.H⟩ o.dst q.t) (a.put o.dst v) w'->K (a.put o.dst v) w'):o.wp P a w K Q:=by
 cases ho:o.op<;>rw[ho]at h<;>simp only[gG]at h<;>try cases h
 case store t ad x=>
  split at h
  ·rename_i fa r i j n had hn;split at h
   ·rename_i ob hob;split at h
    ·rename_i e he;split at h
     ·rename_i a' r' off len hx;split at h
      ·rename_i haa;subst haa;split at h
       ·rename_i hc;injection h with h
        subst h;simp only[lL]at hK;have hxr:=cz htm x _ hx;have hone:(a.eval x).oneCell'=true:=by
         obtain⟨_,_,_,h3⟩:=hxr;rcases h3 with⟨_,h3,_⟩|⟨_,_,_,_,h3,_⟩<;>rw[h3]<;>rfl
        refine wV h1 hsz hinv htm ho had hn hob he (cs:=[.sl a' r' off len]) (by simp;omega) (by omega) ⟨by rw[lH hone];rfl,fun k y hy=>?_⟩ (fun y hy=>by simp at hy;subst hy;rfl) hK;cases k with
        |succ k=>simp at hy
        |zero=>simp at hy;subst hy;exact⟨a.eval x,by rw[lH hone];rfl,hone,hxr⟩
       cases h
      rename_i haa;split at h
      ·rename_i o2 hH;split at h
       ·rename_i hc;obtain⟨c0,c1,c2,c3,c4,c5,c6⟩:=hc;injection h with h
        subst h;subst c1 c2;simp only[ai]at c6;obtain⟨m1,m2,m3⟩:=I4 hinv (a:=fa) (b:=a') c0 haa hH c6;have htm1:=GA htm m2;have hxr:=m3 _ _ _ (cz htm x _ hx);have hone:(a.eval x).oneCell'=true:=by
         obtain⟨_,_,_,h3⟩:=hxr;rcases h3 with⟨_,h3,_⟩|⟨_,_,_,_,h3,_⟩<;>rw[h3]<;>rfl
        have hrl:r<(s.H fa).length:=(List.getElem?_eq_some_iff.1 hob).1;have hH1:be (be s.H fa (s.H fa++[o2])) a' [] fa=s.H fa++[o2]:=by rw[aZ (Ne.symm haa),bF]
        have had1:AS.ev ⟨s.tmps.map (bo fun x _=>x==a'),be (be s.H fa (s.H fa++[o2])) a' []⟩ ad=some (.one (.ptr fa r i j)):=by
         cases ad with
         |tmp k=>
          simp only[AS.ev,az]at had⊢;rw[had];simp[bo,bs,Ne.symm haa]
         |const v=>exact had
         |global g=>exact had
         |func f=>exact had
        refine wV (s:=⟨s.tmps.map (bo fun x _=>x==a'),be (be s.H fa (s.H fa++[o2])) a' []⟩) (a:=a) h1 (by simpa using hsz) m1 htm1 ho had1 hn (by show(be (be s.H fa (s.H fa++[o2])) a' [] fa)[r]?=some ob;rw[hH1,ap hrl];exact hob) he (cs:=[.sl fa (s.H fa).length 0 len]) (by simp;omega) (by omega) ⟨by rw[lH hone];rfl,fun k y hy=>?_⟩ (fun y hy=>by simp at hy;subst hy;rfl) ?_
        ·cases k with
         |succ k=>simp at hy
         |zero=>simp at hy;subst hy;exact⟨a.eval x,by rw[lH hone];rfl,hone,hxr⟩
        intro v w2 hrel;refine hK v w2 ?_;have e1:be (be (be s.H fa (s.H fa++[o2])) a' []) fa ((be (be s.H fa (s.H fa++[o2])) a' [] fa).set r {ob with elems:=ob.elems.set i (dp e j [.sl fa (s.H fa).length 0 len])})=
          be (be s.H fa ((s.H fa).set r {ob with elems:=ob.elems.set i (dp e j [.sl fa (s.H fa).length 0 len])}++[o2])) a' []:=by
         funext z;rw[hH1];by_cases hz1:z=fa
         ·subst hz1;rw[bF,aZ (Ne.symm haa),bF,List.set_append_left _ _ hrl]
         rw[aZ hz1];by_cases hz2:z=a'
         ·subst hz2;rw[bF,bF]
         rw[aZ hz2,aZ hz1,aZ hz2,aZ hz1]
        simp only[e1]at hrel;exact hrel
       cases h
      cases h
     ·rename_i v hv hx;split at h
      ·rename_i cs hcs;split at h
       ·rename_i hc;obtain⟨c1,c2,c3⟩:=hc;injection h with h
        subst h;simp only[lL]at hK;simp only[ai]at c3;exact wV h1 hsz hinv htm ho had hn hob he c1 c2 (kK hcs (cz htm x _ hx)) (fun y hy=>fV (c3 y hy)) hK
       cases h
      cases h
     cases h
    cases h
   cases h
  cases h
 case call c=>
  obtain⟨callee,⟨args⟩,⟨argTypes⟩⟩:=c;split at h
  ·rename_i sx x t t' hcal hargs hty;simp only at hcal hargs hty;subst hcal hargs hty;split at h
   ·rename_i fa r off len news e hs hx hsl;split at h
    ·rename_i ob z sz by_ hob hz hszo hby;split at h
     ·rename_i hc;obtain⟨c0,rfl,rfl,rfl,c4,rfl,rfl,c7,c8,c9,c10⟩:=hc;injection h with h
      subst h;simp only[ai]at c4;obtain⟨tx,htx,hnews⟩:=Option.bind_eq_some_iff.1 hx;have hobj:=hinv.objs fa r ob hob;have hpos:0<ob.es:=hobj.2.1;obtain⟨us,hsrc⟩:=pW hinv.objs hnews (cz htm x tx htx) c10 hpos;obtain⟨xs,hown,hxs,hvb⟩:=GY c0 hobj hob (cz htm sx _ hs);obtain⟨⟨A,cc,hv,hrd⟩,hul,hone,hpu,hcell⟩:=id hsrc;obtain⟨ti,zv,hti,hzv,hzc⟩:=iV hz;obtain⟨ti',hti',hsz'⟩:=oo hszo;rw[hti]at hti';injection hti' with hti';subst hti'
      obtain⟨ti',hti',hby'⟩:=qy hby;rw[hti]at hti';injection hti' with hti';subst hti'
      obtain⟨v',w1,hrun,hown',hg,hblk⟩:=lw (P:=P) w 0 t o.type ob.ty zv ob.es by_ (dQ hsl) (by rw[hti];simp[hzv,hsz',hby']) (by rw[<- c9,<- hzc];simp) hpos _ _ xs hown A news.length cc us hrd hul hone (by unfold maxLen;omega) c7 (Nat.zero_le _);obtain⟨ρ',i1,i2,i3⟩:=DV hinv htm hob c10 hxs hown.1 hvb hsrc hown' hg hblk (fun e he x hx=>c4 e he x hx);unfold Oper.wp execOp;have hrun':(execOp a.eval o).run P w= .ok (.value v') w1:=by
       unfold execOp;simp only[ho,resolve,invoke,builtin,Sem.run_bind,Sem.run_pure,aj,List.map_toArray,List.map_cons,List.map_nil,hv,hrun]
      unfold execOp at hrun';rw[hrun'];exact hK v' w1 (gT h1 (by simpa using hsz) i1 i2 i3)
     cases h
    cases h
   cases h
  cases h
end
end
section
section
variable {P:Program} {w0 w w':World} {O X:Nat->Prop} {ρ:Rho} {H:OH}
theorem pm {f : FuncId} (h : callable P f = true) : ∃ fn, P.funcs[f]? = some fn /\ fn.body.isNone = false /\ (fn.name == "runtime.NumGoroutine") = false := by
 unfold callable at h;split at h
 ·rename_i fn hf;simp only[Bool.and_eq_true,Bool.not_eq_true']at h;exact⟨fn,hf,by cases hb:fn.body<;>simp_all,h.2⟩
 cases h
theorem iD {o:Oper} {c:Call} {f:FuncId} {e:Operand->Value} (ho:o.op= .call c) (hc:c.callee= .value (.func f)) (he:e (.func f)= .func (.func f) #[] #[]) (hf:callable P f=true):
  (execOp e o).run P w= .ok (.enter f (c.args.map e)) w:=by
 obtain⟨fn,h1,h2,h3⟩:=pm hf;unfold execOp;simp only[ho,resolve,hc,he,Deferred.ofValue,Sem.run_bind,Sem.run_pure,aj,invoke];unfold callFunc;simp only[Sem.run_bind];show Result.andThen (.ok P w) _=_;rw[aj,h1];simp only[h3,h2,Bool.false_eq_true,if_false]
 simp
theorem yC {o:Oper} {c:Call} {x:Operand} {f:FuncId} {e:Operand->Value} {vs:Array Value} (ho:o.op= .call c) (hc:c.callee= .value x) (he:e x= .func (.func f) #[] vs) (hf:callable P f=true):
  (execOp e o).run P w= .ok (.enter f (c.args.map e++vs)) w:=by
 obtain⟨fn,h1,h2,h3⟩:=pm hf;unfold execOp;simp only[ho,resolve,hc,he,Deferred.ofValue,Sem.run_bind,Sem.run_pure,aj,invoke];unfold callFunc;simp only[Sem.run_bind];show Result.andThen (.ok P w) _=_;rw[aj,h1];simp only[h3,h2,Bool.false_eq_true,if_false]
 simp
theorem xQ {Y:Nat->Prop} {q:Option TV} {v:Value} {f:FuncId} {extra:List TV} (hq: ∀t,q=some t->t.rel ρ H Y w v) (h:Iq q=some (f,extra)): ∃vs:Array Value,v= .func (.func f) #[] vs/\vs.size=extra.length/\ ∀(j:Nat) t,extra[j]?=some t-> ∃u:Value,vs[j]?=some u/\t.rel ρ H Y w u:=by
 unfold Iq at h;split at h
 ·rename_i f' cs;injection h with h
  injection h with h h'
  subst h h';obtain⟨u,⟨vs,h1,h2,h3⟩,h4⟩:=hq _ rfl;subst h1;refine⟨vs,h4,by simpa using h2,fun j t hj=>?_⟩;rw[az]at hj;obtain⟨y,hy,rfl⟩:=Option.map_eq_some_iff.1 hj;obtain⟨u,u1,u2,u3⟩:=h3 j y hy;exact⟨u,u1,u3⟩
 ·rename_i f' first caps
  split at h
  ·rename_i hc;injection h with h
   injection h with h h'
   subst h h';have:=(bO (hq _ rfl)).1;simp only[Bool.and_eq_true,Array.isEmpty_iff]at hc;obtain⟨rfl,rfl⟩:=hc;exact⟨#[],this,rfl,fun j t hj=>by simp at hj⟩
  cases h
 cases h
theorem sN {ρ':Rho} {H':OH} {Y Y':Nat->Prop} {d:Nat} {x:AV} {v:Value} (h:rf x=true) (hr:x.rel ρ H Y w v):(dq d x).rel ρ' H' Y' w' v:=by
 cases x with
 |p x=>
  cases x with
  |raw u=>
   obtain⟨rfl,h1⟩:=bO (ρ:=ρ) (H:=H) hr;exact cu.raw _ h1
  |sl xs=>cases h
  |ptr cs=>cases h
 |sl a r off len=>cases h
 |ptr a r i j=>cases h
 |junk=>cases h
theorem Qe {ρ':Rho} {H':OH} {Y Y':Nat->Prop} {d:Nat} {t:TV} {v:Value} (h:nX t=true) (hr:t.rel ρ H Y w v):(renTV d t).rel ρ' H' Y' w' v:=by
 have agg: ∀cs v,cs.all rf=true->bX ρ H Y w cs v->bX ρ' H' Y' w' (cs.map (dq d)) v:=fun cs v hc h=>by
  simp only[ai]at hc;obtain⟨vs,h1,h2,h3⟩:=h;refine⟨vs,h1,by simpa using h2,fun j x hx=>?_⟩;rw[az]at hx;obtain⟨y,hy,rfl⟩:=Option.map_eq_some_iff.1 hx;obtain⟨u,u1,u2,u3⟩:=h3 j y hy;exact⟨u,u1,u2,sN (hc y (aw hy)) u3⟩
 cases t with
 |one x=>exact sN h hr
 |agg cs=>exact agg cs v h hr
 |fn f cs=>obtain⟨u,h1,h2⟩:=hr;exact⟨u,agg cs u h h1,h2⟩
 |tup ts=>
  simp only[nX,ai]at h;obtain⟨vs,h1,h2,h3⟩:=hr;refine⟨vs,h1,by simpa using h2,fun j b cs hx=>?_⟩;rw[az]at hx;obtain⟨y,hy,hyy⟩:=Option.map_eq_some_iff.1 hx;obtain⟨b',cs'⟩:=y;simp at hyy;obtain⟨rfl,rfl⟩:=hyy;obtain⟨u,u1,u2⟩:=h3 j b' cs' hy;have hall:=h (b',cs') (aw hy);refine⟨u,u1,?_⟩;rcases u2 with⟨u2,u3⟩|⟨u2,x,rfl,u4⟩
  ·exact .inl ⟨u2,agg _ _ (by simpa only[ai] using hall) u3⟩
  exact .inr ⟨u2,_,rfl,sN (hall x (by simp)) u4⟩
theorem j9 {it:dD P} {d:Nat} {s:AS} {a:Act} (h1:a.defers=[]) (hsz:a.tmps.size=s.tmps.length) (hinv:Inv w0 O X s.H ρ w) (htm:bY X ρ s a w) {t:TV} {F:List OObj} (ht:renTV d it.res.r=t) (hF:it.res.fam.map (renO d)=F) (hd:F≠[]->s.H d=[])
  {v:Value} {w1:World} {ρc:Rho} (hi:Inv w (fun _=>False) (if it.res.plain then(fun _=>False)else Xo X ρ s.H) (famH 0 it.res.fam) ρc w1) (hr:it.res.r.rel ρc (famH 0 it.res.fam) (Xo (if it.res.plain then(fun _=>False)else Xo X ρ s.H) ρc (famH 0 it.res.fam)) w1 v):
  fW w0 O X (jD s d t F) (a.put (some d) v) w1:=by
 have hext:Ext w w1:=⟨hi.keep.os,hi.keep.tape,hi.keep.output,hi.keep.size,fun k hk=>hi.keep.block k hk id⟩;by_cases hpl:it.res.plain=true
 ·unfold CallRes.plain at hpl;simp only[Bool.and_eq_true,List.isEmpty_iff]at hpl;have hF0:F=[]:=by rw[<- hF,hpl.1];rfl
  subst hF0;show fW w0 O X (s.put (some d) t) _ _;refine gT h1 hsz (hinv.grow hext) (htm.grow hext) ?_;rw[<- ht];exact Qe hpl.2 hr
 have hpl':it.res.plain=false:=by simpa using hpl
 simp only[hpl',Bool.false_eq_true,if_false]at hi hr;generalize hYY:Xo X ρ s.H=Y at hi hr;have hYs: ∀b,Xo X ρ s.H b->Y b:=fun b hb=>by rw[<- hYY];exact hb
 by_cases hfam:it.res.fam=[]
 ·rw[hfam]at hi hr;have hF0:F=[]:=by rw[<- hF,hfam];rfl
  subst hF0;show fW w0 O X (s.put (some d) t) _ _;refine gT h1 hsz (hinv.grow hext) (htm.grow hext) ?_;rw[<- ht];refine oZ hr (fun x u hx=>uq (fun r o' ho'=>by simp at ho') (fun b _ hb=> .inl (hYs b hb)) hx)
 have hF0:F≠[]:=by rw[<- hF];simpa using hfam
 have hres:jD s d t F=AS.put ⟨s.tmps,be s.H d F⟩ (some d) t:=by
  unfold jD;rw[if_neg (by simpa using hF0)]
 rw[hres];have hold: ∀r b n,ρc 0 r=some (b,n)->(∃o',it.res.fam[r]?=some o')->w.heap.size<=b:=fun r b n hr0 ⟨o',ho'⟩=>by
  have:=(hi.old 0 r o' b n (by simpa[famH] using ho') hr0).1;rcases this with h|h
  ·exact h
  exact h.elim
 have hff: ∀r b n,(if r<it.res.fam.length then ρc 0 r else none)=some (b,n)->(∃o',it.res.fam[r]?=some o')/\ρc 0 r=some (b,n):=fun r b n h=>by
  split at h
  ·rename_i hlt;exact⟨⟨_,List.getElem?_eq_getElem hlt⟩,h⟩
  cases h
 have hnew: ∀(r b n:Nat),(if r<it.res.fam.length then ρc 0 r else none)=some (b,n)->w.heap.size<=b:=fun r b n h=>hold r b n (hff r b n h).2 (hff r b n h).1
 have hmap: ∀x u,AV.rel ρc (famH 0 it.res.fam) (Xo Y ρc (famH 0 it.res.fam)) w1 x u->AV.rel (newρ ρ d fun r=>if r<it.res.fam.length then ρc 0 r else none) (be s.H d F) (Xo X (newρ ρ d fun r=>if r<it.res.fam.length then ρc 0 r else none) (be s.H d F)) w1 (dq d x) u:=fun x u hx=>by
  refine uq (fun r o' ho'=>?_) (fun b _ hb=>?_) hx
  ·rw[bF,newρ_eq,if_pos (List.getElem?_eq_some_iff.1 ho').1,<- hF,az,ho'];exact⟨rfl,rfl⟩
  rcases hb with hb|⟨x',y',o',n,g1,g2⟩
  ·exact .inl (hYs b (.inl hb))
  by_cases hxd:x'=d
  ·subst hxd;rw[newρ_eq]at g2;obtain⟨⟨o2,ho2⟩,g3⟩:=hff y' b n g2;exact .inr ⟨0,y',o2,n,by simpa[famH] using ho2,g3⟩
  rw[aZ hxd]at g1;rw[newρ_ne hxd]at g2;exact .inl (hYs b (.inr ⟨x',y',o',n,g1,g2⟩))
 refine Ab h1 hsz hinv htm hext (hd hF0) (fun r=>if r<it.res.fam.length then ρc 0 r else none) hnew (fun r r' b n n' g g'=>?_) (fun r o' ho'=>?_) (fun r o' ho'=>?_) ?_
 ·obtain⟨⟨o1,ho1⟩,g1⟩:=hff r b n g;obtain⟨⟨o2,ho2⟩,g2⟩:=hff r' b n' g';exact(hi.inj 0 r 0 r' o1 o2 b n n' (by simpa[famH] using ho1) (by simpa[famH] using ho2) g1 g2).2
 ·rw[<- hF,az]at ho';obtain⟨o2,ho2,rfl⟩:=Option.map_eq_some_iff.1 ho';intro e he x hx;simp only[renO,ak]at he;obtain⟨e',he',rfl⟩:=he;simp only[ak]at hx;obtain⟨x',hx',rfl⟩:=hx;cases x'<;>first|rfl|trivial
 ·rw[<- hF,az]at ho';obtain⟨o2,ho2,rfl⟩:=Option.map_eq_some_iff.1 ho';have hobj:=hi.objs 0 r o2 (by simpa[famH] using ho2);obtain⟨z1,z2,z3⟩:=hobj;refine⟨fun e he=>?_,z2,?_⟩
  ·simp only[renO,ak]at he;obtain⟨e',he',rfl⟩:=he;rw[ax];exact z1 e' he'
  rw[newρ_eq,if_pos (List.getElem?_eq_some_iff.1 ho2).1];cases hr0:ρc 0 r with
  |none=>rw[hr0]at z3;simp[renO,z3]
  |some bc=>
   obtain⟨b,n⟩:=bc;rw[hr0]at z3;obtain⟨cells,p1,p2,p3,p4,p5⟩:=z3;refine⟨cells,p1,p2,by simpa[renO] using p3,p4,fun i e j z he hz=>?_⟩;simp only[renO,az]at he;obtain⟨e',he',rfl⟩:=Option.map_eq_some_iff.1 he;rw[az]at hz;obtain⟨z',hz',rfl⟩:=Option.map_eq_some_iff.1 hz;obtain⟨u,u1,u2,u3⟩:=p5 i e' j z' he' hz';exact⟨u,u1,u2,hmap z' u u3⟩
 rw[<- ht];exact oZ hr hmap
def Dx (P:Program) (f:FuncId) (args:List TV) (res:CallRes) (w:World):Prop:=
 callable P f=true/\ ∀(X:Nat->Prop) (vs:Array Value),(∀b,X b->b<w.heap.size)->vs.size=args.length->
  (∀(j:Nat) t,args[j]?=some t-> ∃v:Value,vs[j]?=some v/\t.rel (fun _ _=>none) (fun _=>[]) X w v)->
  Calls P f vs w fun e w'=> ∃v,e= .returned v/\ ∃ρ:Rho,
   Inv w (fun _=>False) X (famH 0 res.fam) ρ w'/\res.r.rel ρ (famH 0 res.fam) (Xo X ρ (famH 0 res.fam)) w' v
def l4 (P:Program) (items:List (dD P)) (w:World):Prop:= ∀it∈items,Dx P it.f it.args it.res w
theorem gQ.at {items:List (dD P)} (h:gQ P items) (w:World):l4 P items w:=fun it hit=>⟨(h it hit).1,fun X vs=>(h it hit).2 X w vs⟩
theorem OX {items:List (dD P)} {ow:List Nat} {i d:Nat} {s:AS} {a:Act} (hI:l4 P items w) (h1:a.defers=[]) (hsz:a.tmps.size=s.tmps.length) (hinv:Inv w0 O X s.H ρ w) (htm:bY X ρ s a w) {o:Oper} {c:Call} {f:FuncId} (ho:o.op= .call c) (hcal:c.callee= .value (.func f))
  {t:TV} {F:List OObj} (h:di P items ow i d s.ev s.H o.op=some (t,F)) (hd:F≠[]->s.H d=[]) (hdst:o.dst=some d) {K:Act->World->Prop} {Q:Exit->Act->World->Prop}
  (hK: ∀v w',fW w0 O X (jD s d t F) (a.put o.dst v) w'->K (a.put o.dst v) w'):o.wp P a w K Q:=by
 rw[ho]at h;simp only[di,hcal]at h;split at h
 ·rename_i it ts hit hts;split at h
  ·rename_i hc;obtain⟨c1,c2,c3,_⟩:=hc;injection h with h
   injection h with ht hF
   subst c1;obtain⟨e1,e2⟩:=dm hts;obtain⟨hcallable,hcon⟩:=hI it (List.mem_of_find?_eq_some hit);have hrun:=iD (w:=w) ho hcal (e:=a.eval) rfl hcallable;unfold Oper.wp;rw[hrun];simp only[Oper.upon];simp only[ai]at c3;have hZ: ∀b,(if it.res.plain then(fun _=>False)else Xo X ρ s.H:Nat->Prop) b->Xo X ρ s.H b:=fun b hb=>by
    split at hb
    ·exact hb.elim
    exact hb
   have hXlt: ∀b,Xo X ρ s.H b->b<w.heap.size:=fun b hb=>by
    rcases hb with hb|⟨x,y,o',n,g1,g2⟩
    ·exact hinv.bar b hb
    exact bP (hinv.objs x y o' g1) g2
   refine(hcon (if it.res.plain then(fun _=>False)else Xo X ρ s.H) (c.args.map a.eval) (fun b hb=>hXlt b (hZ b hb)) ?_ ?_).mono ?_
   ·rw[<- c2];simp[e1]
   ·intro j u hu;rw[<- c2,az]at hu;obtain⟨t0,ht0,rfl⟩:=Option.map_eq_some_iff.1 hu;obtain⟨x,hx,hxt⟩:=e2 j t0 ht0;refine⟨a.eval x,by rw[Array.getElem?_map];simp at hx;rw[hx];rfl,?_⟩;exact qW hinv.objs hZ (fun hfr b hb=>by rw[hfr]at hb;exact hb) (cz htm x t0 hxt) (c3 t0 (aw ht0))
   rintro e w1 ⟨v,rfl,ρc,hi,hr⟩;show K (a.put o.dst v) w1;refine hK v w1 ?_;rw[hdst];exact j9 h1 hsz hinv htm ht hF hd hi hr
  cases h
 cases h
theorem KX {items:List (dD P)} {ow:List Nat} {i d:Nat} {s:AS} {a:Act} (hI:l4 P items w) (h1:a.defers=[]) (hsz:a.tmps.size=s.tmps.length) (hinv:Inv w0 O X s.H ρ w) (htm:bY X ρ s a w) {o:Oper} {c:Call} {k:Tmp} (ho:o.op= .call c) (hcal:c.callee= .value (.tmp k))
  {t:TV} {F:List OObj} (h:di P items ow i d s.ev s.H o.op=some (t,F)) (hd:F≠[]->s.H d=[]) (hdst:o.dst=some d) {K:Act->World->Prop} {Q:Exit->Act->World->Prop}
  (hK: ∀v w',fW w0 O X (jD s d t F) (a.put o.dst v) w'->K (a.put o.dst v) w'):o.wp P a w K Q:=by
 rw[ho]at h;simp only[di,hcal]at h;split at h
 ·rename_i f extra it ts hcl hit hts;split at h
  ·rename_i hc;obtain⟨c1,c2,c3,_⟩:=hc;injection h with h
   injection h with ht hF
   subst c1;obtain⟨e1,e2⟩:=dm hts;obtain⟨us,k1,k2,k3⟩:=xQ (v:=a.eval (.tmp k)) (fun t0 ht0=>cz htm (.tmp k) t0 ht0) hcl;obtain⟨hcallable,hcon⟩:=hI it (List.mem_of_find?_eq_some hit);have hrun:=yC (w:=w) ho hcal (e:=a.eval) k1 hcallable;unfold Oper.wp;rw[hrun];simp only[Oper.upon];simp only[ai]at c3;have hZ: ∀b,(if it.res.plain then(fun _=>False)else Xo X ρ s.H:Nat->Prop) b->Xo X ρ s.H b:=fun b hb=>by
    split at hb
    ·exact hb.elim
    exact hb
   have hXlt: ∀b,Xo X ρ s.H b->b<w.heap.size:=fun b hb=>by
    rcases hb with hb|⟨x,y,o',n,g1,g2⟩
    ·exact hinv.bar b hb
    exact bP (hinv.objs x y o' g1) g2
   refine(hcon (if it.res.plain then(fun _=>False)else Xo X ρ s.H) (c.args.map a.eval++us) (fun b hb=>hXlt b (hZ b hb)) ?_ ?_).mono ?_
   ·rw[<- c2];simp[e1,k2]
   ·intro j u hu;rw[<- c2,az]at hu;obtain⟨t0,ht0,rfl⟩:=Option.map_eq_some_iff.1 hu;have hmem:=c3 t0 (aw ht0);by_cases hj:j<ts.length
    ·rw[ap hj]at ht0;obtain⟨x,hx,hxt⟩:=e2 j t0 ht0;refine⟨a.eval x,by rw[Array.getElem?_append_left (by simp at e1⊢;omega),Array.getElem?_map];simp at hx;rw[hx];rfl,?_⟩;exact qW hinv.objs hZ (fun hfr b hb=>by rw[hfr]at hb;exact hb) (cz htm x t0 hxt) hmem
    rw[aq (by omega)]at ht0;obtain⟨v,v1,v2⟩:=k3 _ t0 ht0;refine⟨v,by rw[Array.getElem?_append_right (by simp at e1⊢;omega)];simp at e1⊢;rw[<- e1];exact v1,?_⟩;exact qW hinv.objs hZ (fun hfr b hb=>by rw[hfr]at hb;exact hb) v2 hmem
   rintro e w1 ⟨v,rfl,ρc,hi,hr⟩;show K (a.put o.dst v) w1;refine hK v w1 ?_;rw[hdst];exact j9 h1 hsz hinv htm ht hF hd hi hr
  cases h
 cases h
theorem Im {items:List (dD P)} {ow:List Nat} {i d:Nat} {s:AS} {a:Act} (h1:a.defers=[]) (hsz:a.tmps.size=s.tmps.length) (hinv:Inv w0 O X s.H ρ w) (htm:bY X ρ s a w) {o:Oper} {c:Call} (ho:o.op= .call c) (hcal:c.callee= .builtin .append)
  {t:TV} {F:List OObj} (h:di P items ow i d s.ev s.H o.op=some (t,F)) (hd:F≠[]->s.H d=[]) (hdst:o.dst=some d) {K:Act->World->Prop} {Q:Exit->Act->World->Prop}
  (hK: ∀v w',fW w0 O X (jD s d t F) (a.put o.dst v) w'->K (a.put o.dst v) w'):o.wp P a w K Q:=by
 rw[ho]at h;simp only[di,hcal]at h;obtain⟨callee,⟨args⟩,⟨argTypes⟩⟩:=c;simp only at hcal;subst hcal;split at h
 ·rename_i sx x ty ty' hargs hty;simp only at hargs hty;subst hargs hty;split at h
  ·rename_i news e hs hx hsl;split at h
   ·rename_i z sz by_ hz hszo hby;split at h
    ·rename_i hc;obtain⟨rfl,c7,c8,c9,hpos,c10⟩:=hc;injection h with h
     injection h with ht hF
     subst ht hF;obtain⟨tx,htx,hnews⟩:=Option.bind_eq_some_iff.1 hx;obtain⟨us,hsrc⟩:=pW hinv.objs hnews (cz htm x tx htx) c10 hpos;have hsv:=(bO (cz htm sx _ hs)).1;obtain⟨⟨A,cc,hv,hrd⟩,hul,hone,hpu,hcell⟩:=id hsrc;obtain⟨ti,zv,hti,hzv,hzc⟩:=iV hz;obtain⟨ti',hti',hsz'⟩:=oo hszo;rw[hti]at hti';injection hti' with hti';subst hti'
     obtain⟨ti',hti',hby'⟩:=qy hby;rw[hti]at hti';injection hti' with hti';subst hti'
     obtain⟨v',w1,hrun,hown',hg,hblk⟩:=lw (P:=P) w 0 ty o.type e zv sz by_ (dQ hsl) (by rw[hti];simp[hzv,hsz',hby']) (by rw[<- c9,<- hzc];simp) hpos (.slice none 0 0) 0 [] (World.ownsRow_nil _ _ _ _) A news.length cc us hrd hul hone (by unfold maxLen;omega) (by rw[Nat.zero_add];exact c7) (Nat.zero_le _);have hrun':(execOp a.eval o).run P w= .ok (.value v') w1:=by
      unfold execOp;simp only[ho,resolve,invoke,builtin,Sem.run_bind,Sem.run_pure,aj,List.map_toArray,List.map_cons,List.map_nil,hv,hsv,hrun]
     unfold Oper.wp;rw[hrun'];rw[Nat.zero_add,List.nil_append]at hown';refine hK v' w1 ?_;rw[hdst];exact DU h1 hsz hinv htm (hd (by simp)) hpos c10 hsrc hown' hg hblk
    cases h
   cases h
  cases h
 cases h
theorem Gr {items:List (dD P)} {ow:List Nat} {i d:Nat} {s:AS} {a:Act} (hI:l4 P items w) (h1:a.defers=[]) (hsz:a.tmps.size=s.tmps.length) (hinv:Inv w0 O X s.H ρ w) (htm:bY X ρ s a w) {o:Oper}
  {t:TV} {F:List OObj} (h:di P items ow i d s.ev s.H o.op=some (t,F)) (hd:F≠[]->s.H d=[]) (hdst:o.dst=some d) {K:Act->World->Prop} {Q:Exit->Act->World->Prop}
  (hK: ∀v w',fW w0 O X (jD s d t F) (a.put o.dst v) w'->K (a.put o.dst v) w'):o.wp P a w K Q:=by
 have fin:(∃v w',(execOp a.eval o).run P w= .ok (.value v) w'/\fW w0 O X (jD s d t F) (a.put (some d) v) w')->o.wp P a w K Q:=fun⟨v,w1,g1,g2⟩=>by
  unfold Oper.wp;rw[g1];exact hK v w1 (by rw[hdst];exact g2)
 have ne: ∀{e:OObj} {l:List OObj},e::l≠[]:=fun{e l}=>by simp
 cases ho:o.op
 case box e x=>
  refine fin (Ln h1 hsz hinv htm ho h (hd ?_));rw[ho]at h;simp only[di]at h;split at h
  ·split at h
   ·injection h with h;injection h with h h';rw[<- h'];simp
   cases h
  cases h
 case alloc e=>
  refine fin (D9 h1 hsz hinv htm ho h (hd ?_));rw[ho]at h;simp only[di]at h;split at h
  ·split at h
   ·injection h with h;injection h with h h';rw[<- h'];simp
   cases h
  cases h
 case makeSlice ty l c=>
  refine fin (IC h1 hsz hinv htm ho h (hd ?_));rw[ho]at h;simp only[di]at h;split at h
  ·split at h
   ·split at h
    ·injection h with h;injection h with h h';rw[<- h'];simp
    cases h
   cases h
  cases h
 case buildSlice ty n parts=>exact fin (Lo h1 hsz hinv htm ho h hd)
 case call c=>
  cases hcal:c.callee with
  |value x=>
   cases x with
   |func f=>exact OX hI h1 hsz hinv htm ho hcal h hd hdst hK
   |tmp k=>exact KX hI h1 hsz hinv htm ho hcal h hd hdst hK
   |const k=>rw[ho]at h;simp only[di,hcal]at h;cases h
   |global k=>rw[ho]at h;simp only[di,hcal]at h;cases h
  |invoke r m=>rw[ho]at h;simp only[di,hcal]at h;cases h
  |builtin b=>
   cases b
   case append=>exact Im h1 hsz hinv htm ho hcal h hd hdst hK
   all_goals (rw[ho]at h;simp only[di,hcal]at h;cases h)
 all_goals (rw[ho]at h;simp only[di]at h;cases h)
theorem Bl {items:List (dD P)} {ow:List Nat} {i:Nat} {s s':AS} {a:Act} (hI:l4 P items w) (hrel:fW w0 O X s a w) {o:Oper} (h:eI P items ow i o s=some s') {K:Act->World->Prop} {Q:Exit->Act->World->Prop}
  (hK: ∀v w',fW w0 O X s' (a.put o.dst v) w'->K (a.put o.dst v) w'):o.wp P a w K Q:=by
 obtain⟨h1,hsz,ρ,hinv,htm⟩:=hrel;have htm:bY X ρ s a w:=htm;unfold eI at h;split at h
 ·obtain⟨t,ht,rfl⟩:=Option.map_eq_some_iff.1 h;obtain⟨v,g1,g2⟩:=Ef (cz htm) ht;unfold Oper.wp;rw[g1];exact hK v w (gT h1 hsz hinv htm g2)
 split at h
 ·obtain⟨t,ht,rfl⟩:=Option.map_eq_some_iff.1 h;obtain⟨v,g1,g2⟩:=Ek (cz htm) hinv.objs ht;unfold Oper.wp;rw[g1];exact hK v w (gT h1 hsz hinv htm g2)
 split at h
 ·rename_i q hq;injection h with h
  subst h;exact Ee h1 hsz hinv htm hq hK
 split at h
 ·cases h
 rename_i d hd;split at h
 ·rename_i t ht;injection h with h
  subst h;refine Gr hI h1 hsz hinv htm ht (fun hh=>absurd rfl hh) hd ?_;rw[hd]at hK⊢;exact hK
 ·rename_i t F hF ht;split at h
  ·rename_i hH;injection h with h
   subst h;refine Gr hI h1 hsz hinv htm ht (fun _=>hH) hd ?_;have hres:jD s d t F=AS.put ⟨s.tmps,be s.H d F⟩ (some d) t:=by
    unfold jD;rw[if_neg (by intro h;exact hF (List.isEmpty_iff.1 h))]
   rw[hres,hd];rw[hd]at hK;exact hK
  cases h
 cases h
theorem tl {items:List (dD P)} {ow:List Nat} {ops:Array Oper} {i:Nat} {s s':AS} {a:Act} (hI:l4 P items w) (hrel:fW w0 O X s a w) {o:Oper} (h:bZ P items ow ops i o s=some s') {K:Act->World->Prop} {Q:Exit->Act->World->Prop}
  (hK: ∀v w',fW w0 O X s' (a.put o.dst v) w'->K (a.put o.dst v) w'):
  if Region.wanted o (yielded ops a.tmps)then o.wp P a w K Q else K (a.put o.dst undef) w:=by
 unfold bZ at h;split at h
 ·rename_i hg;rw[if_pos (by simp[Region.wanted,hg])];exact Bl hI hrel h hK
 rename_i g want hg;split at h
 ·cases h
 rename_i d hd;have hrel':=hrel;obtain⟨h1,hsz,ρ,hinv,htm⟩:=hrel;split at h
 ·rename_i b hb;obtain⟨v,hv,hr⟩:=htm d _ hb;have hvb:=(bO hr).1;have hy:yielded ops a.tmps g=some b:=by
   unfold yielded;rw[hd];simp only[Option.bind_some,hv,hvb]
  split at h
  ·rename_i hbw;rw[if_pos (by simp[Region.wanted,hg,hy,hbw])];exact Bl hI hrel' h hK
  rename_i hbw;rw[if_neg (by simp[Region.wanted,hg,hy,hbw])];injection h with h
  subst h;exact hK undef w (gT h1 hsz hinv htm ij)
 ·rename_i hb;obtain⟨v,hv,vs,hr,hr2,_⟩:=htm d _ hb;have hy:yielded ops a.tmps g=none:=by
   unfold yielded;rw[hd];simp only[Option.bind_some,hv,hr]
  rw[if_neg (by simp[Region.wanted,hg,hy])];injection h with h
  subst h;exact hK undef w (gT h1 hsz hinv htm ij)
 cases h
theorem j7 {items:List (dD P)} {ow:List Nat} {ops:Array Oper} {i:Nat} {s s':AS} {a:Act} (hI:gQ P items) (hrel:fW w0 O X s a w) {o:Oper} (h:bZ P items ow ops i o s=some s') {K:Act->World->Prop} {Q:Exit->Act->World->Prop}
  (hK: ∀v w',fW w0 O X s' (a.put o.dst v) w'->K (a.put o.dst v) w'):
  if Region.wanted o (yielded ops a.tmps)then o.wp P a w K Q else K (a.put o.dst undef) w:=tl (hI.at w) hrel h hK
end
end
section
def bL (P:Program) (c:Code) (Q:Exit->AS->Prop) (s:AS):Prop:=
 ∀(w0:World) (O X:Nat->Prop) (a:Act) (w:World),fW w0 O X s a w->c.wp P (fun e a' w'=> ∃s',Q e s'/\fW w0 O X s' a' w') a w
def ci (s s':AS):Prop:= ∀(w0:World) (O X:Nat->Prop) (a:Act) (w:World),fW w0 O X s a w->fW w0 O X s' a w
def iF (next:AS->Prop) (Q:Exit->AS->Prop):Exit->AS->Prop
 | .normal,s=>next s
 |e,s=>Q e s
def pG (id:Nat) (Q:Exit->AS->Prop):Exit->AS->Prop
 | .exit id',s=>if id'=id then Q .normal s else Q (.exit id') s
 |e,s=>Q e s
section
variable {P:Program} {s s':AS} {Q:Exit->AS->Prop}
theorem ci.refl (s:AS):ci s s:=fun _ _ _ _ _ h=>h
theorem ci.trans {s1 s2 s3:AS} (h:ci s1 s2) (k:ci s2 s3):ci s1 s3:=fun _ _ _ _ _ r=>k _ _ _ _ _ (h _ _ _ _ _ r)
theorem bL.weak {c:Code} (h:ci s s') (k:bL P c Q s'):bL P c Q s:=fun _ _ _ _ _ r=>k _ _ _ _ _ (h _ _ _ _ _ r)
theorem bL.mono {c:Code} {Q':Exit->AS->Prop} (h:bL P c Q s) (k: ∀e s',Q e s'->Q' e s'):bL P c Q' s:=fun _ _ _ _ _ r=>
 wp_mono (h _ _ _ _ _ r) fun _ _ _ ⟨s',h1,h2⟩=>⟨s',k _ _ h1,h2⟩
theorem aH (h:Q .normal s):bL P .skip Q s:=fun _ _ _ _ _ r=>wp_skip ⟨s,h,r⟩
theorem bz {id:Nat} (h:Q (.exit id) s):bL P (.exit id) Q s:=fun _ _ _ _ _ r=>wp_exit ⟨s,h,r⟩
theorem bA (h:Q .ret s):bL P .ret Q s:=fun _ _ _ _ _ r=>wp_ret ⟨s,h,r⟩
theorem aF {x y:Code} (h:bL P x (iF (bL P y Q) Q) s):bL P (.seq x y) Q s:=fun _ _ _ _ _ r=>
 wp_seq (wp_mono (h _ _ _ _ _ r) fun e a w ⟨s',h1,h2⟩=>by
  cases e with
  |normal=>exact h1 _ _ _ _ _ h2
  |_=>exact⟨s',h1,h2⟩)
theorem aG {id:Nat} {x:Code} (h:bL P x (pG id Q) s):bL P (.block id x) Q s:=fun _ _ _ _ _ r=>
 wp_block (wp_mono (h _ _ _ _ _ r) fun e a w ⟨s',h1,h2⟩=>by
  cases e with
  |exit id'=>
   simp only[pG]at h1;simp only[Exit.inBlock];split at h1
   ·rename_i hid;rw[if_pos hid];exact⟨s',h1,h2⟩
   rename_i hid;rw[if_neg hid];exact⟨s',h1,h2⟩
  |_=>exact⟨s',h1,h2⟩)
theorem bV {c:Operand} {x y:Code} {b:Bool} (hc:s.ev c=some (.raw (.bool b))) (ht:b=true->bL P x Q s) (hf:b=false->bL P y Q s):bL P (.cond c x y) Q s:=fun _ _ _ _ _ r=>by
 obtain⟨h1,hsz,ρ,hinv,htm⟩:=id r;have hb:=(bO (cz htm c _ hc)).1;exact wp_cond_split hb (fun h=>ht h _ _ _ _ _ r) (fun h=>hf h _ _ _ _ _ r)
theorem aR {c:Operand} {x y:Code} (hc:s.ev c=some (.raw (.bool true))) (h:bL P x Q s):bL P (.cond c x y) Q s:=bV hc (fun _=>h) (fun h=>by cases h)
theorem aJ {c:Operand} {x y:Code} (hc:s.ev c=some (.raw (.bool false))) (h:bL P y Q s):bL P (.cond c x y) Q s:=bV hc (fun h=>by cases h) (fun _=>h)
theorem bv {c:Operand} {y z:Code} (hc:s.ev c=some (.raw (.bool true))) (h:bL P z Q s):bL P (.seq (.cond c .skip y) z) Q s:=aF (aR hc (aH h))
theorem bE {c:Operand} {x z:Code} {id:Nat} (hc:s.ev c=some (.raw (.bool false))) (h:Q (.exit id) s):bL P (.seq (.cond c x (.exit id)) z) Q s:=aF (aJ hc (bz h))
theorem bU {p:Nat->Prop} (h: ∃n,p n): ∃n,p n/\ ∀m,p m->n<=m:=by
 obtain⟨n,hn⟩:=h
 induction n using Nat.strongRecOn with
 |_ n ih=>
  by_cases hm: ∃m,m<n/\p m
  ·obtain⟨m,h1,h2⟩:=hm;exact ih m h1 h2
  exact⟨n,hn,fun m hp=>Nat.le_of_not_lt fun hlt=>hm ⟨m,hlt,hp⟩⟩
theorem A7 {G:Type} (St:G->AS) (μ:G->Nat) (g0:G) {c:Code} (h0:ci s (St g0))
  (round: ∀g,bL P c (iF (fun s'=> ∃g',μ g'<μ g/\ci s' (St g')) Q) (St g)):bL P (.loop c) Q s:=fun w0 O X a w r=>by
 classical
 let p:Act->World->Nat->Prop:=fun a w n=> ∃g,μ g=n/\fW w0 O X (St g) a w
 let m:Act->World->Nat:=fun a w=>if h: ∃n,p a w n then Classical.choose (bU h)else 0
 refine wp_loop (fun a w=> ∃n,p a w n) m ⟨_,g0,rfl,h0 _ _ _ _ _ r⟩ ?_;intro a w hI;have hm:m a w=Classical.choose (bU hI):=dif_pos hI;obtain⟨hp,hleast⟩:=Classical.choose_spec (bU hI);rw[<- hm]at hp;obtain⟨g,hg,hr⟩:=hp;refine wp_mono (round g _ _ _ _ _ hr) fun e a' w' ⟨s',h1,h2⟩=>?_
 cases e with
 |normal=>
  obtain⟨g',hlt,hw⟩:=h1;have hr':=hw _ _ _ _ _ h2;have hI': ∃n,p a' w' n:=⟨_,g',rfl,hr'⟩;refine⟨hI',?_⟩;have hm':m a' w'=Classical.choose (bU hI'):=dif_pos hI';obtain⟨_,hl'⟩:=Classical.choose_spec (bU hI');have:=hl' (μ g') ⟨g',rfl,hr'⟩;rw[hm'];omega
 |_=>exact⟨s',h1,h2⟩
theorem eZ {items:List (dD P)} (hI:gQ P items) {ow:List Nat} {ops:Array Oper} {w0:World} {O X:Nat->Prop} {Q:Exit->Act->World->Prop}: ∀(l:List Oper) (k:Nat) (s s':AS) (a:Act) (w:World),(∀(j:Nat) o,l[j]?=some o->ops[k+j]?=some o)->
  jq P items ow ops (l.zipIdx k) s=some s'->fW w0 O X s a w->(∀a' w',fW w0 O X s' a' w'->Q .normal a' w')->wpOps P ops Q (List.range' k l.length) a w
 |[],k,s,s',a,w,_,h,r,hQ=>by
  simp only[List.zipIdx_nil,jq]at h;injection h with h
  subst h;exact hQ a w r
 |o::l,k,s,s',a,w,hl,h,r,hQ=>by
  simp only[List.zipIdx_cons,jq]at h;split at h
  ·rename_i s1 hs1;simp only[List.length_cons,List.range'_succ,wpOps];have ho:ops[k]?=some o:=by have:=hl 0 o rfl;simpa using this
   rw[ho];simp only;have:=j7 (Q:=Q) hI r hs1 (K:=wpOps P ops Q (List.range' (k+1) l.length)) (fun v w' hr=>eZ hI l (k+1) s1 s' _ _ (fun j o hj=>by have:=hl (j+1) o (by simpa using hj);rwa[show k+(j+1)=k+1+j by omega]at this) h hr hQ);split at this
   ·rename_i hw;rw[if_pos hw];exact .inl this
   rename_i hw;rw[if_neg hw];exact this
  cases h
theorem DG (items:List (dD P)) (hI:gQ P items) (ow:List Nat) {id:Nat} {ops:Array Oper} (h:jq P items ow ops ops.toList.zipIdx s=some s') (hQ:Q .normal s'):bL P (.region id ops false) Q s:=fun w0 O X a w r=>by
 refine wp_region ?_;rw[List.range_eq_range'];have:=eZ hI (Q:=fun e a' w'=> ∃s',Q e s'/\fW w0 O X s' a' w') ops.toList 0 s s' a w (fun j o hj=>by simpa using hj) h r (fun a' w' hr=>⟨s',hQ,hr⟩);simpa using this
end
/-! ### The end of a function -/
def sO (P:Program) (s:AS):ResultVar->Option TV
 | .tmp t=>s.tmps[t]?
 | .cell a t=>match s.tmps[a]? with
  |some (.one (.ptr fa r i j))=>match(s.H fa)[r]? with
   |some o=>match o.elems[i]? with
    |some e=>packT P t (e.drop j)
    |none=>none
   |none=>none
  |_=>none
def AK:TV->Option (Bool×List AV)
 | .one x=>some (false,[x])
 | .agg cs=>some (true,cs)
 | .tup _=>none
 | .fn _ _=>none
def wB (P:Program) (s:AS):List ResultVar->Option (List (Bool×List AV))
 |[]=>some []
 |r::l=>match(sO P s r).bind AK,wB P s l with
  |some t,some ts=>some (t::ts)
  |_,_=>none
def rl (P:Program) (s:AS):List ResultVar->Option TV
 |[r]=>sO P s r
 |rs=>(wB P s rs).map TV.tup
section
variable {P:Program} {w0 w:World} {O X:Nat->Prop} {ρ:Rho} {s:AS}
def wa (tmps:Array Value):ResultVar->Sem Value
 | .tmp t=>pure (tmps.getD t undef)
 | .cell ad t=>do loadVar t (<- asAddr (tmps.getD ad undef))
theorem EU (fn:Func) (tmps:Array Value):results fn tmps=(do let vs<- fn.results.mapM (wa tmps);pure (if h:vs.size=1 then vs[0]else .tuple vs)):=by
 have h: ∀(f g:ResultVar->Sem Value),f=g->(do let vs<- fn.results.mapM f;pure (if h:vs.size=1 then vs[0]else .tuple vs):Sem Value)=(do let vs<- fn.results.mapM g;pure (if h:vs.size=1 then vs[0]else .tuple vs)):=fun f g h=>by rw[h]
 unfold results;apply h;funext x;cases x<;>rfl
theorem rm {a:Act} (hinv:Inv w0 O X s.H ρ w) (htm:bY X ρ s a w) {rv:ResultVar} {t:TV} (h:sO P s rv=some t):
  ∃v,(wa a.tmps rv).run P w= .ok v w/\t.rel ρ s.H (Xo X ρ s.H) w v:=by
 cases rv with
 |tmp k=>
  simp only[sO]at h;obtain⟨v,h1,h2⟩:=htm k t h;exact⟨v,by simp[wa,Array.getD_eq_getD_getElem?,h1],h2⟩
 |cell ad ty=>
  simp only[sO]at h;split at h
  ·rename_i fa r i j hk;obtain⟨v,h1,o,b,c,g1,g2,g3,g4⟩:=htm ad _ hk;rw[g1]at h;simp only at h;split at h
   ·rename_i e he;obtain⟨u,u1,u2⟩:=mt h (mm (yp (hinv.objs fa r o g1) g2 he) j);refine⟨u,?_,u2⟩;simp only[wa,Array.getD_eq_getD_getElem?,h1,Option.getD_some,g4,asAddr,Sem.run_bind,Sem.run_pure,aj,u1]
   cases h
  cases h
theorem wC {a:Act} (hinv:Inv w0 O X s.H ρ w) (htm:bY X ρ s a w): ∀{rs:List ResultVar} {ts:List (Bool×List AV)},wB P s rs=some ts->
  ∃vs:List Value,(rs.mapM (wa a.tmps)).run P w= .ok vs w/\vs.length=ts.length/\
   ∀(j:Nat) b cs,ts[j]?=some (b,cs)-> ∃u:Value,vs[j]?=some u/\((b=true/\bX ρ s.H (Xo X ρ s.H) w cs u)\/(b=false/\ ∃x,cs=[x]/\x.rel ρ s.H (Xo X ρ s.H) w u))
 |[],ts,h=>by
  simp only[wB]at h;injection h with h
  subst h;exact⟨[],by simp,rfl,fun j b cs h=>by simp at h⟩
 |r::l,ts,h=>by
  simp only[wB]at h;split at h
  ·rename_i t ts' h1 h2;injection h with h
   subst h;obtain⟨tv,htv,hp⟩:=Option.bind_eq_some_iff.1 h1;obtain⟨v,v1,v2⟩:=rm hinv htm htv;obtain⟨vs,g1,g2,g3⟩:=wC hinv htm h2;refine⟨v::vs,?_,by simp[g2],fun j b cs hj=>?_⟩
   ·rw[List.mapM_cons,Sem.run_bind,v1,aj,Sem.run_bind,g1];rfl
   cases j with
   |succ j=>simp at hj;obtain⟨u,u1,u2⟩:=g3 j b cs hj;exact⟨u,by simpa using u1,u2⟩
   |zero=>
    simp at hj;subst hj;refine⟨v,rfl,?_⟩;cases tv with
    |one x=>simp[AK]at hp;obtain⟨rfl,rfl⟩:=hp;exact .inr ⟨rfl,x,rfl,v2⟩
    |agg cs=>simp[AK]at hp;obtain⟨rfl,rfl⟩:=hp;exact .inl ⟨rfl,v2⟩
    |tup ts=>cases hp
    |fn f cs=>cases hp
  cases h
theorem kq {a:Act} (hinv:Inv w0 O X s.H ρ w) (htm:bY X ρ s a w) {fn:Func} {t:TV} (h:rl P s fn.results.toList=some t): ∃v,(results fn a.tmps).run P w= .ok v w/\t.rel ρ s.H (Xo X ρ s.H) w v:=by
 rw[EU,Array.mapM_eq_mapM_toList];generalize hrs:fn.results.toList=rs at h;unfold rl at h;split at h
 ·rename_i r;obtain⟨v,v1,v2⟩:=rm hinv htm h;refine⟨v,?_,v2⟩;simp only[List.mapM_cons,List.mapM_nil,map_eq_pure_bind,Sem.run_bind,v1,aj,Sem.run_pure]
  simp
 rename_i hne;cases hl:wB P s rs with
 |none=>rw[hl]at h;cases h
 |some ts=>
  rw[hl]at h;simp at h;subst h;obtain⟨vs,g1,g2,g3⟩:=wC hinv htm hl;refine⟨.tuple vs.toArray,?_,vs.toArray,rfl,by simpa using g2,fun j b cs hj=>by simpa using g3 j b cs hj⟩;have hlen: ∀{rs:List ResultVar} {ts:List (Bool×List AV)},wB P s rs=some ts->ts.length=rs.length:=by
   intro rs
   induction rs with
   |nil=>intro ts h;simp only[wB]at h;injection h with h;subst h;rfl
   |cons r l ih=>
    intro ts h;simp only[wB]at h;split at h
    ·rename_i t ts' h1 h2;injection h with h
     subst h;simp[ih h2]
    cases h
  have hvl:vs.length≠1:=fun h1=>by
   have:=hlen hl;have hrl:rs.length=1:=by omega
   obtain⟨r,hr⟩:=List.length_eq_one_iff.1 hrl;exact hne r hr
  simp only[map_eq_pure_bind,Sem.run_bind,g1,aj,Sem.run_pure];rw[dif_neg (by simpa using hvl)]
def selfTV (a:Nat):TV->Prop
 | .one x=>cW a x
 | .agg cs=> ∀x∈cs,cW a x
 | .fn _ cs=> ∀x∈cs,cW a x
 | .tup ts=> ∀t∈ts,∀x∈t.2,cW a x
def tE (H:OH) (a0:Nat) (r:TV):Prop:=match Nat.ble a0 4999 with
 |true=>selfTV a0 r
 |false=>selfTV a0 r/\H a0=[]
theorem wN {H:OH} {a0:Nat} {r:TV} (h:tE H a0 r):selfTV a0 r/\(a0<=4999\/H a0=[]):=by
 unfold tE at h;split at h
 ·rename_i hb;exact⟨h,.inl (Nat.le_of_ble_eq_true hb)⟩
 exact⟨h.1,.inr h.2⟩
theorem JK {H:OH} {a0:Nat} {r:TV} (h:selfTV a0 r) (h0:H a0=[]):tE H a0 r:=by
 unfold tE;split
 ·exact h
 exact⟨h,h0⟩
theorem wM {H:OH} {a0:Nat} {r:TV} (h:selfTV a0 r) (h0:a0<=4999):tE H a0 r:=by
 unfold tE;rw[Nat.ble_eq_true_of_le h0];exact h
def mO (P:Program) (fn:Func) (res:CallRes) (s:AS):Prop:=
 ∃r a0,rl P s fn.results.toList=some r/\tE s.H a0 r/\res.fam=(s.H a0).map (renO 0)/\res.r=renTV 0 r
theorem u7 (G:World->Prop) {f:FuncId} {fn:Func} {c:Code} {args:List TV} {res:CallRes} (hf:P.funcs[f]?=some fn) (hb:fn.body=some c) (hn:callable P f=true)
  (h: ∀(w0:World) (X:Nat->Prop) (a:Act),G w0->fW w0 (fun _=>False) X ⟨args++List.replicate (fn.ntmps-args.length) .undef,fun _=>[]⟩ a w0->c.wp P (fun e a' w'=> ∃s1,((e= .normal\/e= .ret)/\ ∃s',ci s1 s'/\mO P fn res s')/\fW w0 (fun _=>False) X s1 a' w') a w0) (w:World) (hG:G w):Dx P f args res w:=by
 refine⟨hn,fun X vs hX hvs hargs=>?_⟩;refine calls_of_wp hf hb ?_;have hrel:fW w (fun _=>False) X ⟨args++List.replicate (fn.ntmps-args.length) .undef,fun _=>[]⟩ {tmps:=vs++Array.replicate (fn.ntmps-vs.size) undef,defers:=[]} w:=by
  refine⟨rfl,by simp[hvs],fun _ _=>none,⟨Keep.refl w,fun a r o ho=>by simp at ho,fun a r a' r' o o' b c c' ho=>by simp at ho,fun a r o b c ho=>by simp at ho,hX,fun a r o ho=>by simp at ho⟩,fun t x hx=>?_⟩;have hXo: ∀b,b<w.heap.size->Xo X (fun _ _=>none) (fun _=>[]) b->X b:=fun b _ h=>by
   rcases h with h|⟨a,r,o,c,h1,h2⟩
   ·exact h
   cases h2
  by_cases ht:t<args.length
  ·rw[ap ht]at hx;obtain⟨v,v1,v2⟩:=hargs t x hx;refine⟨v,by rw[Array.getElem?_append_left (by omega)];exact v1,TV.rel_map v2 (fun y u hy=>?_)⟩;cases y with
   |p y=>exact cu.weaken hXo hy
   |sl a r off len=>obtain⟨o,h1,_⟩:=hy;simp at h1
   |ptr a r i j=>obtain⟨o,_,_,h1,_⟩:=hy;simp at h1
   |junk=>trivial
  rw[aq (by omega),List.getElem?_replicate]at hx;split at hx
  ·rename_i hlt;injection hx with hx
   subst hx;refine⟨undef,?_,ij⟩;rw[Array.getElem?_append_right (by omega),Array.getElem?_replicate,if_pos (by omega)]
  cases hx
 refine wp_mono (h _ _ _ hG hrel) fun e a' w' ⟨s1,⟨he,s2,hw,r,a0,hres,hself0,hfam,hr⟩,hrel1⟩=>?_
 obtain⟨hself,h5⟩:=wN hself0;obtain⟨h1,hsz,ρ,hinv,htm⟩:=hw _ _ _ _ _ hrel1;have htm:bY X ρ s2 a' w':=htm;obtain⟨v,v1,v2⟩:=kq hinv htm hres;have hF: ∀(k:Nat) o,(famH 0 res.fam 0)[k]?=some o-> ∃o',(s2.H a0)[k]?=some o'/\o=renO 0 o':=fun k o ho=>by
  simp only[famH,if_true,hfam,az]at ho;obtain⟨o',g1,g2⟩:=Option.map_eq_some_iff.1 ho;exact⟨o',g1,g2.symm⟩
 have hz: ∀(x k:Nat) o,(famH 0 res.fam x)[k]?=some o->x=0:=fun x k o ho=>by
  by_cases hx:x=0
  ·exact hx
  simp[famH,hx]at ho
 have hXo: ∀b,Xo X (fun _ k=>ρ a0 k) (famH 0 res.fam) b->Xo X ρ s2.H b:=fun b hb=>by
  rcases hb with hb|⟨x,k,o,n,g1,g2⟩
  ·exact .inl hb
  have:=hz x k o g1;subst this;obtain⟨o',g3,_⟩:=hF k o g1;exact .inr ⟨a0,k,o',n,g3,g2⟩
 have hmap: ∀x u,cW a0 x->AV.rel ρ s2.H (Xo X ρ s2.H) w' x u->AV.rel (fun _ k=>ρ a0 k) (famH 0 res.fam) (Xo X (fun _ k=>ρ a0 k) (famH 0 res.fam)) w' (dq 0 x) u:=fun x u hs hx=>by
  cases x with
  |p x=>exact cu.weaken (fun b _ hb=>hXo b hb) hx
  |sl x k off len=>
   have hs:x=a0:=hs;subst hs;obtain⟨o,g1,g2,g3⟩:=hx;have h6:x<=4999:=h5.resolve_right fun h=>by rw[h]at g1;simp at g1
   exact⟨renO 0 o,by simp[famH,hfam,g1],by simpa[renO] using g2,ku (ρ':=fun _ k=>ρ x k) (a':=0) (r':=k) h6 g3 rfl⟩
  |ptr x k i j=>
   have hs:x=a0:=hs;subst hs;obtain⟨o,b,c,g1,g2,g3,g4⟩:=hx;exact⟨renO 0 o,b,c,by simp[famH,hfam,g1],g2,by simpa[renO] using g3,g4⟩
  |junk=>trivial
 have hfin: ∃ρ':Rho,Inv w (fun _=>False) X (famH 0 res.fam) ρ' w'/\res.r.rel ρ' (famH 0 res.fam) (Xo X ρ' (famH 0 res.fam)) w' v:=by
  refine⟨fun _ k=>ρ a0 k,⟨hinv.keep,fun x k o ho=>?_,fun x k x' k' o o' b c c' ho ho' hr1 hr2=>?_,fun x k o b c ho hr1=>?_,hinv.bar,fun x k o ho=>?_⟩,?_⟩
  ·have:=hz x k o ho;subst this;obtain⟨o',g1,rfl⟩:=hF k o ho;obtain⟨z1,z2,z3⟩:=hinv.objs a0 k o' g1;refine⟨fun e he=>?_,z2,?_⟩
   ·simp only[renO,ak]at he;obtain⟨e',he',rfl⟩:=he;rw[ax];exact z1 e' he'
   cases hr0:ρ a0 k with
   |none=>rw[hr0]at z3;simp only[hr0];simp[renO,z3]
   |some bc=>
    obtain⟨b,n⟩:=bc;rw[hr0]at z3;obtain⟨cells,p1,p2,p3,p4,p5⟩:=z3;simp only[hr0];refine⟨cells,p1,p2,by simpa[renO] using p3,p4,fun i e j z he hz=>?_⟩;simp only[renO,az]at he;obtain⟨e',he',rfl⟩:=Option.map_eq_some_iff.1 he;rw[az]at hz;obtain⟨z',hz',rfl⟩:=Option.map_eq_some_iff.1 hz;obtain⟨u,u1,u2,u3⟩:=p5 i e' j z' he' hz';exact⟨u,u1,u2,hmap z' u (hinv.self a0 k o' g1 e' (aw he') z' (aw hz')) u3⟩
  ·have e1:=hz x k o ho;have e2:=hz x' k' o' ho';subst e1 e2;obtain⟨o1,g1,_⟩:=hF k o ho;obtain⟨o2,g2,_⟩:=hF k' o' ho';exact⟨rfl,(hinv.inj a0 k a0 k' o1 o2 b c c' g1 g2 hr1 hr2).2⟩
  ·have e1:=hz x k o ho;subst e1;obtain⟨o1,g1,_⟩:=hF k o ho;exact hinv.old a0 k o1 b c g1 hr1
  ·have e1:=hz x k o ho;subst e1;obtain⟨o1,g1,rfl⟩:=hF k o ho;intro e he z hzz;simp only[renO,ak]at he;obtain⟨e',he',rfl⟩:=he;simp only[ak]at hzz;obtain⟨z',hz',rfl⟩:=hzz;cases z'<;>first|rfl|trivial
  rw[hr];have agg: ∀cs u,(∀x∈cs,cW a0 x)->bX ρ s2.H (Xo X ρ s2.H) w' cs u->bX (fun _ k=>ρ a0 k) (famH 0 res.fam) (Xo X (fun _ k=>ρ a0 k) (famH 0 res.fam)) w' (cs.map (dq 0)) u:=fun cs u hs h=>by
   obtain⟨us,h1,h2,h3⟩:=h;refine⟨us,h1,by simpa using h2,fun j x hx=>?_⟩;rw[az]at hx;obtain⟨y,hy,rfl⟩:=Option.map_eq_some_iff.1 hx;obtain⟨u',u1,u2,u3⟩:=h3 j y hy;exact⟨u',u1,u2,hmap _ _ (hs y (aw hy)) u3⟩
  cases r with
  |one x=>exact hmap x v hself v2
  |agg cs=>exact agg cs v hself v2
  |fn f cs=>obtain⟨u,h1,h2⟩:=v2;exact⟨u,agg cs u hself h1,h2⟩
  |tup ts=>
   obtain⟨us,h1,h2,h3⟩:=v2;refine⟨us,h1,by simpa using h2,fun j b cs hx=>?_⟩;rw[az]at hx;obtain⟨y,hy,hyy⟩:=Option.map_eq_some_iff.1 hx;obtain⟨b',cs'⟩:=y;simp at hyy;obtain⟨rfl,rfl⟩:=hyy;obtain⟨u,u1,u2⟩:=h3 j b' cs' hy;have hs:=hself (b',cs') (aw hy);refine⟨u,u1,?_⟩;rcases u2 with⟨u2,u3⟩|⟨u2,x,rfl,u4⟩
   ·exact .inl ⟨u2,agg _ _ hs u3⟩
   exact .inr ⟨u2,_,rfl,hmap _ _ (hs x (by simp)) u4⟩
 rcases he with rfl|rfl
 ·exact⟨h1,v,v1,v,rfl,hfin⟩
 exact⟨h1,v,v1,v,rfl,hfin⟩
theorem KV {f:FuncId} {fn:Func} {c:Code} {args:List TV} {res:CallRes} (hf:P.funcs[f]?=some fn) (hb:fn.body=some c) (hn:callable P f=true)
  (h:bL P c (fun e s=>(e= .normal\/e= .ret)/\ ∃s',ci s s'/\mO P fn res s') ⟨args++List.replicate (fn.ntmps-args.length) .undef,fun _=>[]⟩):CallC P f args res:=
 ⟨hn,fun X w vs=>(u7 (fun _=>True) hf hb hn (fun w0 X a _ r=>h w0 _ X a w0 r) w trivial).2 X vs⟩
end
end
end Go.Proofs.YtiollbhgpiiodaaGreatDoor
