/-
  Part 5 of a proof (walks and plain facts).
-/
import Derived.Test.YtalmoejhjceflaaGreatP03
set_option linter.all false
set_option maxRecDepth 100000
set_option maxHeartbeats 64000000
open List renaming all_eq_true → aj
open Go.Result renaming andThen_ok → ak
open List renaming mem_map → am
open List renaming getElem?_append_left → aq
open List renaming getElem?_eq_getElem → aw
open List renaming mem_of_getElem? → ax
open List renaming getElem?_map → az
namespace Go.Proofs.YtalmoejhjceflaaGreat
open Go.RowKit
section
section
variable {P:Program} {w0 w w':World} {O X:Nat->Prop} {ρ:Rho} {H:OH}
theorem xe {i j sz:Nat} (hj:j<sz):(i*sz+j)/sz=i/\(i*sz+j)%sz=j:=by
 constructor
 ·rw[Nat.mul_comm,Nat.mul_add_div (by omega),Nat.div_eq_of_lt hj,Nat.add_zero]
 rw[Nat.mul_comm,Nat.mul_add_mod,Nat.mod_eq_of_lt hj]
def Dk (ρ:Rho) (H:OH) (Y:Nat->Prop) (w:World) (v:Value) (news:List (List AV)) (sz:Nat) (us:List Value):Prop:=
 (∃A c,v= .slice A news.length c/\Rd w A us)/\us.length=news.length*sz/\(∀u∈us,u.oneCell'=true)/\(∀e∈news,∀x∈e,isPure x=true)/\
  ∀(i:Nat) e (j:Nat) y,news[i]?=some e->e[j]?=some y-> ∃u:Value,us[i*sz+j]?=some u/\u.oneCell'=true/\y.rel ρ H Y w u
theorem pn {Y:Nat->Prop} (sz:Nat) (A:Option Addr) (c:Nat):Dk ρ H Y w (.slice A 0 c) [] sz []:=
 ⟨⟨A,c,rfl,Rd.nil _ _⟩,by simp,by simp,by simp,fun i e j y h=>by simp at h⟩
theorem tb {Y:Nat->Prop} (hob: ∀(a r:Nat) (o:OObj),(H a)[r]?=some o->objRel ρ H Y w a r o) {t:TV} {news:List (List AV)} {v:Value} {sz:Nat} (h:fA H t=some news) (hr:t.rel ρ H Y w v) (hsz: ∀e∈news,e.length=sz) (hpos:0<sz):
  ∃us,Dk ρ H Y w v news sz us:=by
 unfold fA at h;split at h
 ·rename_i xs;injection h with h
  subst h;have hr:bX Y w (.sl xs) v:=hr;cases hr with
  |nil a c=>exact⟨[],pn sz a c⟩
  |sl b off es cap xs f hX hb hes hcap hm hc hrep=>
   by_cases hne:xs=[]
   ·subst hne;exact⟨[],pn sz _ cap⟩
   have hes':es=sz:=by
    cases hx0:xs with
    |nil=>exact absurd hx0 hne
    |cons y ys=>
     have h1:=hes y (by rw[hx0];simp);have h2:=hsz (y.map AV.p) (by rw[hx0];simp);simp at h2;omega
   subst hes';have key: ∀k,k<xs.length*es-> ∃e y,xs[k/es]?=some e/\e[k%es]?=some y:=fun k hk=>by
    have hi:k/es<xs.length:=Nat.div_lt_of_lt_mul (by rw[Nat.mul_comm];exact hk);refine⟨xs[k/es],xs[k/es][k%es]'(by rw[hes _ (List.getElem_mem hi)];exact Nat.mod_lt _ hpos),aw hi,aw _⟩
   have hlen:((List.range (xs.length*es)).map fun k=>f (k/es) (k%es)).length=xs.length*es:=by simp
   refine⟨(List.range (xs.length*es)).map fun k=>f (k/es) (k%es),⟨some ⟨b,off,none⟩,cap,by simp,fun _=>⟨b,off,rfl,fun k x hx=>?_⟩⟩,by simp,fun u hu=>?_,?_,?_⟩
   ·have hk:k<xs.length*es:=by have:=(List.getElem?_eq_some_iff.1 hx).1;rwa[hlen]at this
    rw[az,List.getElem?_range hk]at hx;simp at hx;subst hx;obtain⟨e,y,he,hy⟩:=key k hk;have:=hc _ e _ y he hy;rw[<- this]
    congr 2
    have:=Nat.div_add_mod k es;rw[Nat.mul_comm]at this;omega
   ·obtain⟨k,hk,rfl⟩:=List.mem_map.1 hu;obtain⟨e,y,he,hy⟩:=key k (by simpa using hk);exact(hrep _ e _ y he hy).one
   ·intro e he x hx;simp at he;obtain⟨e',_,rfl⟩:=he;simp at hx;obtain⟨x',_,rfl⟩:=hx;rfl
   intro i e j y he hy;rw[az]at he;cases he':xs[i]? with
   |none=>rw[he']at he;cases he
   |some e'=>
    rw[he']at he;simp at he;subst he;rw[az]at hy;cases hy':e'[j]? with
    |none=>rw[hy']at hy;cases hy
    |some y'=>
     rw[hy']at hy;simp at hy;subst hy;have hj:j<es:=by have:=(List.getElem?_eq_some_iff.1 hy').1;rwa[hes e' (ax he')]at this
     have hi:i<xs.length:=(List.getElem?_eq_some_iff.1 he').1;have hk:i*es+j<xs.length*es:=by
      have:(i+1)*es<=xs.length*es:=Nat.mul_le_mul_right _ hi;rw[Nat.add_mul,Nat.one_mul]at this;omega
     refine⟨f i j,?_,(hrep i e' j y' he' hy').one,hrep i e' j y' he' hy'⟩;rw[az,List.getElem?_range hk];simp[(xe (i:=i) hj).1,(xe (i:=i) hj).2]
 ·injection h with h
  subst h;have:=(bs hr).1;subst this;exact⟨[],pn sz _ _⟩
 ·rename_i a r off len;split at h
  ·rename_i o ho;split at h
   ·rename_i hpure;injection h with h
    subst h;simp only[aj]at hpure;obtain⟨o',g1,g2,g3⟩:=hr;rw[ho]at g1;injection g1 with g1
    subst g1;obtain⟨q1,q2,q3⟩:=hob a r o ho;rcases g3 with⟨gr,gv,gl,go⟩|⟨b,c,cap,gr,gv,_⟩
    ·subst gl go;rw[gr]at q3;simp only[q3,List.take_nil,List.drop_nil];rw[gv];exact⟨[],pn sz _ _⟩
    rw[gr]at q3;obtain⟨cells,p1,p2,p3,p4,p5⟩:=q3;have hnl:((o.elems.take (off+len)).drop off).length=len:=by simp;omega
    by_cases hl0:len=0
    ·subst hl0;have:(o.elems.take (off+0)).drop off=[]:=List.length_eq_zero_iff.1 hnl;rw[this,gv];exact⟨[],pn sz _ _⟩
    have hsub: ∀(i:Nat) e,((o.elems.take (off+len)).drop off)[i]?=some e->i<len/\o.elems[off+i]?=some e:=fun i e he=>by
     have hi:=(List.getElem?_eq_some_iff.1 he).1;rw[List.getElem?_drop,List.getElem?_take]at he;split at he
     ·exact⟨by omega,he⟩
     cases he
    have hes:o.es=sz:=by
     obtain⟨e,he⟩:=getElem?_of_lt (l:=(o.elems.take (off+len)).drop off) (k:=0) (by omega);have h1:=hsz e (ax he);have h2:=q1 e (ax (hsub 0 e he).2);omega
    subst hes;have hcs:(off+len)*o.es<=cells.size:=by rw[p2];exact Nat.mul_le_mul_right _ (by omega)
    rw[Nat.add_mul]at hcs;have hget: ∀k,k<len*o.es->((cells.toList.drop (off*o.es)).take (len*o.es))[k]?=cells[off*o.es+k]?:=fun k hk=>by
     rw[List.getElem?_take,if_pos hk,List.getElem?_drop];simp
    have hul:((cells.toList.drop (off*o.es)).take (len*o.es)).length=len*o.es:=by simp;omega
    have key: ∀k,k<len*o.es-> ∃(e:List AV) (y:AV),o.elems[off+k/o.es]?=some e/\e[k%o.es]?=some y:=fun k hk=>by
     have hi:k/o.es<len:=Nat.div_lt_of_lt_mul (by rw[Nat.mul_comm];exact hk);have hi':off+k/o.es<o.elems.length:=by omega
     refine⟨o.elems[off+k/o.es],o.elems[off+k/o.es][k%o.es]'(by rw[q1 _ (List.getElem_mem hi')];exact Nat.mod_lt _ q2),aw hi',aw _⟩
    refine⟨(cells.toList.drop (off*o.es)).take (len*o.es),⟨some ⟨b,off*o.es,none⟩,cap,by rw[gv,hnl],fun _=>⟨b,off*o.es,rfl,fun k x hx=>?_⟩⟩,by rw[hul,hnl],fun u hu=>?_,fun e he x hx=>?_,fun i e j y he hy=>?_⟩
    ·have hk:k<len*o.es:=by have:=(List.getElem?_eq_some_iff.1 hx).1;rwa[hul]at this
     rw[hget k hk]at hx;rw[cell_of_row _ b _ cells o.ty (0,0) p1];exact hx
    ·obtain⟨k,hk,hu⟩:=List.getElem_of_mem hu;have hu':=List.getElem?_eq_some_iff.2 ⟨hk,hu⟩;rw[hul]at hk;rw[hget k hk]at hu';obtain⟨e,y,he,hy⟩:=key k hk;obtain⟨u',u1,u2,u3⟩:=p5 _ e _ y he hy;have hidx:(off+k/o.es)*o.es+k%o.es=off*o.es+k:=by
      rw[Nat.add_mul];have:=Nat.div_add_mod k o.es;rw[Nat.mul_comm]at this;omega
     rw[hidx,hu']at u1;injection u1 with u1
     rw[u1];exact u2
    ·exact hpure e (List.mem_of_mem_take (List.mem_of_mem_drop he)) x hx
    obtain⟨hi,he'⟩:=hsub i e he;have hj:j<o.es:=by have:=(List.getElem?_eq_some_iff.1 hy).1;rwa[q1 e (ax he')]at this
    obtain⟨u,u1,u2,u3⟩:=p5 _ e j y he' hy;refine⟨u,?_,u2,u3⟩;have hk:i*o.es+j<len*o.es:=by
     have:(i+1)*o.es<=len*o.es:=Nat.mul_le_mul_right _ hi;rw[Nat.add_mul,Nat.one_mul]at this;omega
    rw[hget _ hk,<- u1]
    congr 1
    rw[Nat.add_mul];omega
   cases h
  cases h
 cases h
theorem MQ {Y:Nat->Prop} {a r:Nat} {o:OObj} {v:Value} (ha:a<=4999) (hob:objRel ρ H Y w a r o) (ho:(H a)[r]?=some o) (hv:AV.rel ρ H Y w (.sl a r 0 o.elems.length) v):
  ∃xs,w.ownsRow 0 o.ty o.es v o.elems.length xs/\(∀(i:Nat) e (j:Nat) x,o.elems[i]?=some e->e[j]?=some x-> ∃u:Value,xs[i*o.es+j]?=some u/\u.oneCell'=true/\x.rel ρ H Y w u)/\v.ownBlock=(ρ a r).map (·.1):=by
 obtain⟨q1,q2,q3⟩:=hob;obtain⟨o',g1,g2,g3⟩:=hv;rw[ho]at g1;injection g1 with g1
 subst g1;rcases g3 with⟨gr,gv,gl,_⟩|⟨b,c,cap,gr,gv,_,gc⟩
 ·rw[gr]at q3;rw[gv,gr,gl];refine⟨[],World.ownsRow_nil _ _ _ _,fun i e j x he=>?_,rfl⟩;rw[q3]at he;simp at he
 rw[gr]at q3;obtain⟨cells,p1,p2,p3,p4,p5⟩:=q3;have hl:(cells.toList.take (o.elems.length*o.es)).length=o.elems.length*o.es:=by
  have:o.elems.length*o.es<=c*o.es:=Nat.mul_le_mul_right _ p3;simp;omega
 refine⟨cells.toList.take (o.elems.length*o.es),⟨hl,.inr ⟨b,c,cells,?_,Nat.zero_le _,p1,p3,p4,p2,rfl⟩⟩,fun i e j x he hx=>?_,?_⟩
 ·rw[gv,Nat.zero_mul,gc ha,Nat.sub_zero]
 ·obtain⟨u,u1,u2,u3⟩:=p5 i e j x he hx;refine⟨u,?_,u2,u3⟩;have hi:i<o.elems.length:=(List.getElem?_eq_some_iff.1 he).1;have hj:j<o.es:=by have:=(List.getElem?_eq_some_iff.1 hx).1;rwa[q1 e (ax he)]at this
  have:(i+1)*o.es<=o.elems.length*o.es:=Nat.mul_le_mul_right _ hi;rw[Nat.add_mul,Nat.one_mul]at this;rw[List.getElem?_take,if_pos (by omega)];simpa using u1
 rw[gv,gr];rfl
end
end
section
section
variable {P:Program} {w0 w w':World} {O X:Nat->Prop} {ρ:Rho} {H:OH}
theorem LM {xs us:List Value} {elems news:List (List AV)} {es:Nat} {R:AV->Value->Prop} (hx:xs.length=elems.length*es) (hel: ∀e∈elems,e.length=es)
  (h1: ∀(i:Nat) e (j:Nat) x,elems[i]?=some e->e[j]?=some x-> ∃u:Value,xs[i*es+j]?=some u/\u.oneCell'=true/\R x u)
  (h2: ∀(i:Nat) e (j:Nat) x,news[i]?=some e->e[j]?=some x-> ∃u:Value,us[i*es+j]?=some u/\u.oneCell'=true/\R x u):
  ∀(i:Nat) e (j:Nat) x,(elems++news)[i]?=some e->e[j]?=some x-> ∃u:Value,(xs++us)[i*es+j]?=some u/\u.oneCell'=true/\R x u:=by
 intro i e j x he hx';by_cases hi:i<elems.length
 ·rw[aq hi]at he;obtain⟨u,u1,u2⟩:=h1 i e j x he hx';exact⟨u,by rw[aq (List.getElem?_eq_some_iff.1 u1).1];exact u1,u2⟩
 rw[List.getElem?_append_right (by omega)]at he;obtain⟨u,u1,u2⟩:=h2 _ e j x he hx';refine⟨u,?_,u2⟩;have hm:elems.length*es<=i*es:=Nat.mul_le_mul_right _ (by omega);rw[List.getElem?_append_right (by omega),hx,<- u1]
 congr 1
 rw[Nat.mul_sub_right_distrib];omega
theorem Ed {ρ':Rho} {H':OH} {Y':Nat->Prop} {a r n:Nat} {o:OObj} {v:Value} {ys:List Value} (hown:w'.ownsRow 0 o.ty o.es v n ys) (hn:o.elems.length=n) (hes:0<o.es) (hel: ∀e∈o.elems,e.length=o.es)
  (hcell: ∀(i:Nat) e (j:Nat) x,o.elems[i]?=some e->e[j]?=some x-> ∃u:Value,ys[i*o.es+j]?=some u/\u.oneCell'=true/\x.rel ρ' H' Y' w' u)
  (hρ:ρ' a r=none->v= .slice none 0 0) (hρ2: ∀g cap cur,v= .slice (some ⟨g,0,none⟩) n cap->w'.heap[g]?=some (.cells cur o.ty (0,0))->ρ' a r=some (g,cap)) (hnil:v= .slice none 0 0->ρ' a r=none):objRel ρ' H' Y' w' a r o:=by
 refine⟨hel,hes,?_⟩;obtain⟨hl,h2⟩:=hown;rcases h2 with⟨hv,h0⟩|⟨g,cap,cur,hv,_,hh,hnc,hm,hs,ht⟩
 ·rw[hnil hv];exact List.length_eq_zero_iff.1 (by omega)
 rw[hρ2 g cap cur hv hh];refine⟨cur,hh,hs,by omega,hm,fun i e j x he hx=>?_⟩;obtain⟨u,u1,u2,u3⟩:=hcell i e j x he hx;refine⟨u,?_,u2,u3⟩;rw[<- ht,List.getElem?_take]at u1;split at u1
 ·simpa using u1
 cases u1
theorem Ee {ρ':Rho} {H':OH} {Y':Nat->Prop} {a r n:Nat} {o:OObj} {v:Value} {ys:List Value} (hown:w'.ownsRow 0 o.ty o.es v n ys) (hn:o.elems.length=n) (ho:(H' a)[r]?=some o)
  (hρ2: ∀g cap cur,v= .slice (some ⟨g,0,none⟩) n cap->w'.heap[g]?=some (.cells cur o.ty (0,0))->ρ' a r=some (g,cap)) (hnil:v= .slice none 0 0->ρ' a r=none):AV.rel ρ' H' Y' w' (.sl a r 0 n) v:=by
 refine⟨o,ho,by omega,?_⟩;obtain⟨hl,h2⟩:=hown;rcases h2 with⟨hv,h0⟩|⟨g,cap,cur,hv,_,hh,hcap,_⟩
 ·exact .inl ⟨hnil hv,hv,h0,rfl⟩
 exact .inr ⟨g,cap,cap,hρ2 g cap cur hv hh,by rw[hv,Nat.zero_mul],by omega,fun _=>rfl⟩
def valρ:Value->Option (Nat×Nat)
 | .slice (some a) _ cap=>some (a.block,cap)
 |_=>none
theorem sJ (h:w.grownBy w' none):Ext w w':=⟨h.os,h.tape,h.output,h.size,fun k hk=>h.block k hk (by simp)⟩
theorem Bk {s:AS} {act:Act} (h1:act.defers=[]) (hsz:act.tmps.size=s.tmps.length) (hinv:Inv w0 O X s.H ρ w) (htm:bq X ρ s act w) {d:Nat} {e:TypeId} {es:Nat} {news:List (List AV)} {us:List Value} {vs v':Value} (hd:s.H d=[])
  (hes:0<es) (hel: ∀x∈news,x.length=es) (hsrc:Dk ρ s.H (Xo X ρ s.H) w vs news es us) (hown:w'.ownsRow 0 e es v' news.length us) (hg:w.grownBy w' none) (hb:v'.ownBlock=none\/v'.ownBlock=some w.heap.size):
  cW w0 O X (AS.put ⟨s.tmps,aJ s.H d [⟨e,es,news⟩]⟩ (some d) (.one (.sl d 0 0 news.length))) (act.put (some d) v') w':=by
 obtain⟨_,hul,_,hp,hcell⟩:=hsrc;have hext:=sJ hg;have hvb: ∀g c,valρ v'=some (g,c)->g=w.heap.size:=fun g c h=>by
  rcases hown.2 with⟨hv,_⟩|⟨g',cap,cur,hv,_⟩
  ·rw[hv]at h;cases h
  rw[hv]at h hb;simp[valρ]at h;simp[Value.ownBlock]at hb;omega
 have hnew: ∀(r b c':Nat),(if r=0 then valρ v' else none)=some (b,c')->w.heap.size<=b:=fun r b c' h=>by
  split at h
  ·have:=hvb b c' h;omega
  cases h
 have hρ2: ∀(g cap:Nat) (cur:Array Value),v'= .slice (some ⟨g,0,none⟩) news.length cap->w'.heap[g]?=some (.cells cur e (0,0))->newρ ρ d (fun r=>if r=0 then valρ v' else none) d 0=some (g,cap):=fun g cap cur hv _=>by
  rw[newρ_eq,if_pos rfl,hv];rfl
 have hnil:v'= .slice none 0 0->newρ ρ d (fun r=>if r=0 then valρ v' else none) d 0=none:=fun hv=>by rw[newρ_eq,if_pos rfl,hv];rfl
 refine xx h1 hsz hinv htm hext hd (fun r=>if r=0 then valρ v' else none) hnew (fun r r' b c c' h h'=>?_) (fun r o ho=>?_) (fun r o ho=>?_) ?_
 ·split at h
  ·split at h'
   ·omega
   cases h'
  cases h
 ·cases r with
  |succ r=>simp at ho
  |zero=>simp at ho;subst ho;exact fun x hx y hy=>cd (hp x hx y hy)
 ·cases r with
  |succ r=>simp at ho
  |zero=>
   simp at ho;subst ho;refine Ed (o:=⟨e,es,news⟩) hown rfl hes hel (fun i x j y hx hy=>?_) (fun h=>?_) hρ2 hnil
   ·obtain⟨u,u1,u2,u3⟩:=hcell i x j y hx hy;exact⟨u,u1,u2,il hinv hext hd hnew u3⟩
   rcases hown.2 with⟨hv,_⟩|⟨g',cap,cur,hv,_,hh,_⟩
   ·exact hv
   rw[hρ2 g' cap cur hv hh]at h;cases h
 exact Ee (Y':=Xo X (newρ ρ d (fun r=>if r=0 then valρ v' else none)) (aJ s.H d [⟨e,es,news⟩])) (o:=⟨e,es,news⟩) hown rfl (by rw[aX];rfl) hρ2 hnil
theorem Bl {s:AS} {act:Act} (hinv:Inv w0 O X s.H ρ w) (htm:bq X ρ s act w) {a r:Nat} {o:OObj} {news:List (List AV)} {xs us:List Value} {v vs v':Value} (ho:(s.H a)[r]?=some o)
  (hel: ∀x∈news,x.length=o.es) (hxs: ∀(i:Nat) e (j:Nat) x,o.elems[i]?=some e->e[j]?=some x-> ∃u:Value,xs[i*o.es+j]?=some u/\u.oneCell'=true/\x.rel ρ s.H (Xo X ρ s.H) w u) (hxl:xs.length=o.elems.length*o.es)
  (hvb:v.ownBlock=(ρ a r).map (·.1))
  (hsrc:Dk ρ s.H (Xo X ρ s.H) w vs news o.es us) (hown:w'.ownsRow 0 o.ty o.es v' (o.elems.length+news.length) (xs++us)) (hg:w.grownBy w' v.ownBlock) (hb:v'.ownBlock=v.ownBlock\/v'.ownBlock=some w.heap.size):
  let k:Nat->Nat->Bool:=fun x y=>x==a&&y==r
  let H':=aJ s.H a (((s.H a).map (i4 k)).set r {o with elems:=o.elems++news})
  (∀e∈o.elems,∀x∈e,isPure x=true)->
  ∃ρ',Inv w0 O X H' ρ' w'/\bq X ρ' ⟨s.tmps.map (a7 k),H'⟩ act w'/\AV.rel ρ' H' (Xo X ρ' H') w' (.sl a r 0 (o.elems.length+news.length)) v':=by
 intro k H' hpo;obtain⟨_,hul,_,hp,hcell⟩:=hsrc;obtain⟨q1,q2,q3⟩:=hinv.objs a r o ho;have hrl:r<(s.H a).length:=(List.getElem?_eq_some_iff.1 ho).1;have hH'a: ∀r':Nat,(H' a)[r']?=if r'=r then some {o with elems:=o.elems++news}else((s.H a)[r']?).map (i4 k):=fun r'=>by
  show(aJ _ _ _ a)[r']?=_;rw[aX];by_cases hr:r'=r
  ·subst hr;rw[if_pos rfl,List.getElem?_set];simp[hrl]
  rw[if_neg hr,List.getElem?_set_ne (Ne.symm hr),az]
 have hH'n: ∀a',a'≠a->H' a'=s.H a':=fun a' ha=>aN ha
 generalize hρ':(fun x y=>if x=a/\y=r then valρ v' else ρ x y:Rho)=ρ';have hρ0:ρ' a r=valρ v':=by rw[<- hρ'];exact if_pos ⟨rfl,rfl⟩
 have hρn: ∀x y,¬(x=a/\y=r)->ρ' x y=ρ x y:=fun x y h=>by rw[<- hρ'];exact if_neg h
 have hval: ∀g c,valρ v'=some (g,c)->(∃c0,ρ a r=some (g,c0))\/g=w.heap.size:=fun g c h=>by
  rcases hown.2 with⟨hv,_⟩|⟨g',cap,cur,hv,_⟩
  ·rw[hv]at h;cases h
  rw[hv]at h hb;simp[valρ]at h;rcases hb with hb|hb
  ·left;rw[hvb]at hb;cases hr:ρ a r with
   |none=>rw[hr]at hb;simp[Value.ownBlock]at hb
   |some bc=>
    obtain⟨b0,c0⟩:=bc;rw[hr]at hb;simp[Value.ownBlock]at hb;exact⟨c0,by rw[<- h.1,hb]⟩
  right;simp[Value.ownBlock]at hb;omega
 -- a live row of H' other than (a, r) is one of H, killed or not
 have back: ∀(x y:Nat) o1,(H' x)[y]?=some o1-> ¬(x=a/\y=r)-> ∃o2,(s.H x)[y]?=some o2/\o1.ty=o2.ty/\o1.es=o2.es/\o1.elems.length=o2.elems.length/\(o1=o2/\x≠a\/o1=i4 k o2):=fun x y o1 ho1 hne=>by
  by_cases hx:x=a
  ·subst hx;rw[hH'a,if_neg (fun h=>hne ⟨rfl,h⟩)]at ho1;obtain⟨o2,g1,g2⟩:=Option.map_eq_some_iff.1 ho1;exact⟨o2,g1,by rw[<- g2];rfl,by rw[<- g2];rfl,by rw[<- g2];simp[i4],.inr g2.symm⟩
  rw[hH'n x hx]at ho1;exact⟨o1,ho1,rfl,rfl,rfl,.inl ⟨rfl,hx⟩⟩
 have live: ∀(x y:Nat) o1,(s.H x)[y]?=some o1-> ¬(x=a/\y=r)-> ∃o2,(H' x)[y]?=some o2/\o2.es=o1.es/\o2.elems.length=o1.elems.length:=fun x y o1 ho1 hne=>by
  by_cases hx:x=a
  ·subst hx;refine⟨i4 k o1,?_,rfl,by simp[i4]⟩;rw[hH'a,if_neg (fun h=>hne ⟨rfl,h⟩),ho1];rfl
  exact⟨o1,by rw[hH'n x hx];exact ho1,rfl,rfl⟩
 have hXback: ∀b,b<w.heap.size->Xo X ρ' H' b->Xo X ρ s.H b:=fun b hb hX=>by
  rcases hX with hX|⟨x,y,o1,c,g1,g2⟩
  ·exact .inl hX
  by_cases hxy:x=a/\y=r
  ·obtain⟨rfl,rfl⟩:=hxy;rw[hρ0]at g2;rcases hval b c g2 with⟨c0,hc0⟩|hh
   ·exact .inr ⟨x,y,o,c0,ho,hc0⟩
   omega
  obtain⟨o2,k1,_⟩:=back x y o1 g1 hxy;rw[hρn x y hxy]at g2;exact .inr ⟨x,y,o2,c,k1,g2⟩
 have mono: ∀x v,AV.rel ρ s.H (Xo X ρ s.H) w x v->AV.rel ρ' H' (Xo X ρ' H') w' (a6 k x) v:=fo (nt k) fun x u hn hx=>by
  cases x with
  |fn=>cases hn
  |p x=>
   have z1:bX (fun b=>Xo X ρ s.H b\/Xo X ρ' H' b) w x u:=bX.weaken (fun b hb hz=>hz.elim id (hXback b hb)) hx;have z2:bX (fun b=>Xo X ρ s.H b\/Xo X ρ' H' b) w' x u:=bX.stays ⟨hg.size,fun p z hp hz=>by
    have hlt:=wX hz;unfold World.cell? at hz⊢;rw[hg.block _ hlt (fun hrow=>?_)]
    ·exact hz
    apply hp;left;rw[hvb]at hrow;cases hr:ρ a r with
    |none=>rw[hr]at hrow;cases hrow
    |some bc=>
     rw[hr]at hrow;simp at hrow;exact .inr ⟨a,r,o,bc.2,ho,by rw[hr,hrow]⟩⟩ z1
   exact bX.weaken (fun b _ hz=> .inr hz) z2
  |sl x y off len=>
   simp only[a6];by_cases hxy:x=a/\y=r
   ·obtain⟨rfl,rfl⟩:=hxy;simp[k];trivial
   have:k x y=false:=by simp[k];omega
   simp only[this,Bool.false_eq_true,if_false];obtain⟨o1,h1,h2,h3⟩:=hx;obtain⟨o2,g1,g2,g3⟩:=live x y o1 h1 hxy;exact⟨o2,g1,by omega,by rw[hρn x y hxy,g2];exact h3⟩
  |ptr x y i j=>
   simp only[a6];by_cases hxy:x=a/\y=r
   ·obtain⟨rfl,rfl⟩:=hxy;simp[k];trivial
   have:k x y=false:=by simp[k];omega
   simp only[this,Bool.false_eq_true,if_false];obtain⟨o1,b,c,h1,h2,h3,h4⟩:=hx;obtain⟨o2,g1,g2,g3⟩:=live x y o1 h1 hxy;exact⟨o2,b,c,g1,by rw[hρn x y hxy];exact h2,by omega,by rw[g2];exact h4⟩
  |junk=>trivial
 have monop: ∀x v,isPure x=true->AV.rel ρ s.H (Xo X ρ s.H) w x v->AV.rel ρ' H' (Xo X ρ' H') w' x v:=fun x u hpx hx=>by
  have:=mono x u hx;cases x<;>first|exact this|cases hpx
 have hnil:v'= .slice none 0 0->ρ' a r=none:=fun hv=>by rw[hρ0,hv];rfl
 have hρ2: ∀(g cap:Nat) (cur:Array Value),v'= .slice (some ⟨g,0,none⟩) (o.elems.length+news.length) cap->w'.heap[g]?=some (.cells cur o.ty (0,0))->ρ' a r=some (g,cap):=fun g cap cur hv _=>by rw[hρ0,hv];rfl
 have hlen:(o.elems++news).length=o.elems.length+news.length:=by simp
 have hobk: ∀bc,ρ a r=some bc->bc.1<w.heap.size:=fun bc h=>bO (hinv.objs a r o ho) (b:=bc.1) (c:=bc.2) h
 refine⟨ρ',⟨?_,fun x y o1 ho1=>?_,fun x y x' y' o1 o2 b c c' ho1 ho2 hr1 hr2=>?_,fun x y o1 b c ho1 hr1=>?_,fun b hb=>Nat.lt_of_lt_of_le (hinv.bar b hb) hg.size,fun x y o1 ho1=>?_⟩,xl htm mono,?_⟩
 ·refine⟨hg.os.trans hinv.keep.os,hg.tape.trans hinv.keep.tape,hg.output.trans hinv.keep.output,Nat.le_trans hinv.keep.size hg.size,fun j hj hO=>?_⟩;rw[hg.block j (Nat.lt_of_lt_of_le hj hinv.keep.size) (fun hrow=>?_)]
  ·exact hinv.keep.block j hj hO
  rw[hvb]at hrow;cases hr:ρ a r with
  |none=>rw[hr]at hrow;cases hrow
  |some bc=>
   rw[hr]at hrow;simp at hrow;rcases(hinv.old a r o bc.1 bc.2 ho hr).1 with h|h
   ·omega
   exact hO (hrow▸h)
 ·by_cases hxy:x=a/\y=r
  ·obtain⟨rfl,rfl⟩:=hxy;rw[hH'a,if_pos rfl]at ho1;injection ho1 with ho1
   subst ho1;refine Ed (o:={o with elems:=o.elems++news}) hown hlen q2 (fun e he=>?_) (LM hxl q1 (fun i e j z he hz=>?_) (fun i e j z he hz=>?_)) (fun h=>?_) hρ2 hnil
   ·rcases List.mem_append.1 he with he|he
    ·exact q1 e he
    exact hel e he
   ·obtain⟨u,u1,u2,u3⟩:=hxs i e j z he hz;exact⟨u,u1,u2,monop z u (hpo e (ax he) z (ax hz)) u3⟩
   ·obtain⟨u,u1,u2,u3⟩:=hcell i e j z he hz;exact⟨u,u1,u2,monop z u (hp e (ax he) z (ax hz)) u3⟩
   rcases hown.2 with⟨hv,_⟩|⟨g',cap,cur,hv,_,hh,_⟩
   ·exact hv
   rw[hρ2 g' cap cur hv hh]at h;cases h
  obtain⟨o2,g1,g2,g3,g4,g5⟩:=back x y o1 ho1 hxy;have hblk: ∀b c,ρ x y=some (b,c)->w'.heap[b]?=w.heap[b]?:=fun b c hb=>hg.block b (bO (hinv.objs x y o2 g1) hb) (fun hrow=>by
   rw[hvb]at hrow;cases hr:ρ a r with
   |none=>rw[hr]at hrow;cases hrow
   |some bc=>
    rw[hr]at hrow;simp at hrow;exact hxy (hinv.inj x y a r o2 o b c bc.2 g1 ho hb (by rw[hr,hrow])))
  rcases g5 with⟨rfl,hxa⟩|rfl
  ·have hself:=hinv.self x y o1 g1;obtain⟨z1,z2,z3⟩:=hinv.objs x y o1 g1;refine⟨z1,z2,?_⟩;rw[hρn x y hxy];cases hr:ρ x y with
   |none=>rw[hr]at z3;exact z3
   |some bc=>
    obtain⟨b,c⟩:=bc;rw[hr]at z3;obtain⟨cells,p1,p2,p3,p4,p5⟩:=z3;refine⟨cells,by rw[hblk b c hr];exact p1,p2,p3,p4,fun i e j z he hz=>?_⟩;obtain⟨u,u1,u2,u3⟩:=p5 i e j z he hz;refine⟨u,u1,u2,?_⟩;have hs:=hself e (ax he) z (ax hz);have:=mono z u u3;cases z with
    |sl z1 z2 off len=>have hs:z1=x:=hs;have:k z1 z2=false:=(by simp[k];omega);rename_i hm;simpa[a6,this] using hm
    |ptr z1 z2 i j=>have hs:z1=x:=hs;have:k z1 z2=false:=(by simp[k];omega);rename_i hm;simpa[a6,this] using hm
    |p z=>exact this
    |fn f z1 qs=>have hs:z1=x:=hs.1;have: ∀y,k z1 y=false:=(fun y=>by simp[k];omega);rename_i hm;simpa[a6,this] using hm
    |junk=>trivial
  obtain⟨z1,z2,z3⟩:=hinv.objs x y o2 g1;refine⟨fun e he=>?_,z2,?_⟩
  ·simp only[i4,am]at he;obtain⟨e',he',rfl⟩:=he;rw[List.length_map];exact z1 e' he'
  rw[hρn x y hxy];cases hr:ρ x y with
  |none=>rw[hr]at z3;simp[i4,z3]
  |some bc=>
   obtain⟨b,c⟩:=bc;rw[hr]at z3;obtain⟨cells,p1,p2,p3,p4,p5⟩:=z3;refine⟨cells,by rw[hblk b c hr];exact p1,p2,by simpa[i4] using p3,p4,fun i e j z he hz=>?_⟩;simp only[i4,az]at he;obtain⟨e',he',rfl⟩:=Option.map_eq_some_iff.1 he;rw[az]at hz;obtain⟨z',hz',rfl⟩:=Option.map_eq_some_iff.1 hz;obtain⟨u,u1,u2,u3⟩:=p5 i e' j z' he' hz';exact⟨u,u1,u2,mono z' u u3⟩
 ·by_cases h1:x=a/\y=r
  ·obtain⟨rfl,rfl⟩:=h1;by_cases h2:x'=x/\y'=y
   ·omega
   exfalso;rw[hρ0]at hr1;rw[hρn x' y' h2]at hr2;obtain⟨o2',g1,_⟩:=back x' y' o2 ho2 h2;rcases hval b c hr1 with⟨c0,hc0⟩|hh
   ·have:=hinv.inj x' y' x y o2' o b c' c0 g1 ho hr2 hc0;omega
   have:=bO (hinv.objs x' y' o2' g1) hr2;omega
  by_cases h2:x'=a/\y'=r
  ·exfalso;obtain⟨rfl,rfl⟩:=h2;rw[hρ0]at hr2;rw[hρn x y h1]at hr1;obtain⟨o1',g1,_⟩:=back x y o1 ho1 h1;rcases hval b c' hr2 with⟨c0,hc0⟩|hh
   ·have:=hinv.inj x y x' y' o1' o b c c0 g1 ho hr1 hc0;omega
   have:=bO (hinv.objs x y o1' g1) hr1;omega
  rw[hρn x y h1]at hr1;rw[hρn x' y' h2]at hr2;obtain⟨o1',g1,_⟩:=back x y o1 ho1 h1;obtain⟨o2',g2,_⟩:=back x' y' o2 ho2 h2;exact hinv.inj x y x' y' o1' o2' b c c' g1 g2 hr1 hr2
 ·by_cases h1:x=a/\y=r
  ·obtain⟨rfl,rfl⟩:=h1;rw[hρ0]at hr1;rcases hval b c hr1 with⟨c0,hc0⟩|hh
   ·exact hinv.old x y o b c0 ho hc0
   have:=hinv.keep.size;exact⟨.inl (by omega),fun hX=>by have:=hinv.bar b hX;omega⟩
  rw[hρn x y h1]at hr1;obtain⟨o1',g1,_⟩:=back x y o1 ho1 h1;exact hinv.old x y o1' b c g1 hr1
 ·by_cases h1:x=a/\y=r
  ·obtain⟨rfl,rfl⟩:=h1;rw[hH'a,if_pos rfl]at ho1;injection ho1 with ho1
   subst ho1;intro e he z hz;rcases List.mem_append.1 he with he|he
   ·exact hinv.self x y o ho e he z hz
   exact cd (hp e he z hz)
  obtain⟨o2,g1,g2,g3,g4,g5⟩:=back x y o1 ho1 h1;rcases g5 with⟨rfl,_⟩|rfl
  ·exact hinv.self x y o1 g1
  intro e he z hz;simp only[i4,am]at he;obtain⟨e',he',rfl⟩:=he;simp only[am]at hz;obtain⟨z',hz',rfl⟩:=hz;have:=hinv.self x y o2 g1 e' he' z' hz';cases z' with
  |sl z1 z2 off len=>simp only[a6];split;trivial;exact this
  |ptr z1 z2 i j=>simp only[a6];split;trivial;exact this
  |fn f z1 qs=>simp only[a6];split;trivial;exact this
  |p z=>trivial
  |junk=>trivial
 exact Ee (o:={o with elems:=o.elems++news}) hown hlen (by rw[hH'a,if_pos rfl]) hρ2 hnil
end
end
section
section
variable {P:Program} {w0 w w':World} {O X:Nat->Prop} {ρ:Rho} {H:OH}
theorem iC (x:AV):a6 (fun _ _=>false) x=x:=by cases x<;>simp[a6]
theorem kC (t:TV):a7 (fun _ _=>false) t=t:=by
 cases t with
 |one x=>simp[a7,iC]
 |agg cs=>simp only[a7];congr 1;rw[show a6 (fun _ _=>false)=id from funext iC];simp
 |fn f cs=>simp only[a7];congr 1;rw[show a6 (fun _ _=>false)=id from funext iC];simp
 |tup ts=>simp only[a7];congr 1;rw[show a6 (fun _ _=>false)=id from funext iC];simp
theorem gJ (l:List TV):l.map (a7 fun _ _=>false)=l:=by
 rw[show a7 (fun _ _=>false)=id from funext kC];simp
theorem rr {ρc:Rho} {F:List OObj} {Y:Nat->Prop} {d:Nat} {ρ':Rho} {H':OH} {Y':Nat->Prop} (hF: ∀(r:Nat) o,F[r]?=some o->(H' d)[r]?=some (renO d o)/\ρ' d r=ρc 0 r)
  (hY: ∀b,b<w.heap.size->Y' b->Xo Y ρc (famH 0 F) b) {x:AV} {v:Value} (h:x.rel ρc (famH 0 F) (Xo Y ρc (famH 0 F)) w v):(cb d x).rel ρ' H' Y' w v:=by
 refine fo (mv d) (fun x v hn h=>?_) x v h;cases x with
 |fn=>cases hn
 |p x=>exact bX.weaken hY h
 |sl a r off len=>
  obtain⟨o,h1,h2,h3⟩:=h;by_cases ha:a=0
  ·subst ha;obtain⟨f1,f2⟩:=hF r o h1;exact⟨renO d o,f1,by simpa[renO] using h2,ma (by decide) h3 f2⟩
  simp[famH,ha]at h1
 |ptr a r i j=>
  obtain⟨o,b,c,h1,h2,h3,h4⟩:=h;by_cases ha:a=0
  ·subst ha;obtain⟨f1,f2⟩:=hF r o h1;exact⟨renO d o,b,c,f1,by rw[f2];exact h2,by simpa[renO] using h3,h4⟩
  simp[famH,ha]at h1
 |junk=>trivial
theorem mE {ρ':Rho} {H':OH} {Y Y':Nat->Prop} {d:Nat} {t:TV} {v:Value} (h:t.rel ρ H Y w v) (hk: ∀x v,x.rel ρ H Y w v->AV.rel ρ' H' Y' w' (cb d x) v):(renTV d t).rel ρ' H' Y' w' v:=by
 have agg: ∀cs v,bJ ρ H Y w cs v->bJ ρ' H' Y' w' (cs.map (cb d)) v:=fun cs v h=>by
  obtain⟨vs,h1,h2,h3⟩:=h;refine⟨vs,h1,by simpa using h2,fun j x hx=>?_⟩;rw[az]at hx;obtain⟨y,hy,rfl⟩:=Option.map_eq_some_iff.1 hx;obtain⟨u,u1,u2,u3⟩:=h3 j y hy;exact⟨u,u1,u2,hk _ _ u3⟩
 cases t with
 |one x=>exact hk _ _ h
 |agg cs=>exact agg cs v h
 |fn f cs=>obtain⟨u,h1,h2⟩:=h;exact⟨u,agg cs u h1,h2⟩
 |tup ts=>
  obtain⟨vs,h1,h2,h3⟩:=h;refine⟨vs,h1,by simpa using h2,fun j b cs hx=>?_⟩;rw[az]at hx;obtain⟨y,hy,hyy⟩:=Option.map_eq_some_iff.1 hx;obtain⟨b',cs'⟩:=y;simp at hyy;obtain⟨rfl,rfl⟩:=hyy;obtain⟨u,u1,u2⟩:=h3 j b' cs' hy;refine⟨u,u1,?_⟩;rcases u2 with⟨u2,u3⟩|⟨u2,x,rfl,u4⟩
  ·exact .inl ⟨u2,agg _ _ u3⟩
  exact .inr ⟨u2,_,rfl,hk _ _ u4⟩
theorem F8 {Z:Nat->Prop} {x:AV} {v:Value} (hp:isPure x=true) (h:x.rel ρ H Z w v):bX Z w (ri x) v:=by
 cases x<;>first|exact h|cases hp
theorem vS {own:Bool} {Y Z:Nat->Prop} (hob: ∀(a r:Nat) (o:OObj),(H a)[r]?=some o->objRel ρ H Y w a r o) (hZ: ∀b,Z b->Y b) (hZo:own=true-> ∀(a r:Nat) (o:OObj) (b c:Nat),(H a)[r]?=some o->ρ a r=some (b,c)-> ¬Z b) {t:TV} {v:Value} (h:t.rel ρ H Y w v) (hn:dU own H t=true):
  (fJ H t).rel (fun _ _=>none) (fun _=>[]) Z w v:=by
 have wk: ∀x u,bX Y w x u->bX Z w x u:=fun x u h=>bX.weaken (fun b _ hb=>hZ b hb) h
 unfold dU at hn;split at hn
 ·rename_i a r off len;simp only[Bool.and_eq_true]at hn;obtain⟨ho1,hn⟩:=hn;obtain⟨o,g1,g2,g3⟩:=h;rw[g1]at hn;simp only[aj]at hn;simp only[fJ,g1];show bX _ _ _ _;obtain⟨q1,q2,q3⟩:=hob a r o g1;have hl:(((o.elems.take (off+len)).drop off).map (List.map ri)).length=len:=by simp;omega
  rcases g3 with⟨gr,gv,gl,go⟩|⟨b,c,cap,gr,gv,hcap,_⟩
  ·rw[List.length_eq_zero_iff.1 (hl.trans gl),gv];exact bX.nil _ _
  by_cases hl0:len=0
  ·rw[List.length_eq_zero_iff.1 (hl.trans hl0),gv,hl0];exact bX.nil _ _
  rw[gr]at q3;obtain⟨cells,p1,p2,p3,p4,p5⟩:=q3;have hsub: ∀(i:Nat) e,(((o.elems.take (off+len)).drop off).map (List.map ri))[i]?=some e-> ∃e',o.elems[off+i]?=some e'/\e=e'.map ri:=fun i e he=>by
   rw[az]at he;obtain⟨e',he',rfl⟩:=Option.map_eq_some_iff.1 he;rw[List.getElem?_drop,List.getElem?_take]at he';split at he'
   ·exact⟨e',he',rfl⟩
   cases he'
  have hcell: ∀(i:Nat) e (j:Nat) x,(((o.elems.take (off+len)).drop off).map (List.map ri))[i]?=some e->e[j]?=some x-> ∃u:Value,cells[(off+i)*o.es+j]?=some u/\bX Z w x u:=fun i e j x he hx=>by
   obtain⟨e',he',rfl⟩:=hsub i e he;rw[az]at hx;obtain⟨x',hx',rfl⟩:=Option.map_eq_some_iff.1 hx;obtain⟨u,u1,u2,u3⟩:=p5 _ e' j x' he' hx';exact⟨u,u1,wk _ _ (F8 (hn e' (ax he') x' (ax hx')) u3)⟩
  rw[gv];have:=bX.sl (X:=Z) (w:=w) b (off*o.es) o.es cap (((o.elems.take (off+len)).drop off).map (List.map ri)) (fun i j=>(cells[(off+i)*o.es+j]?).getD undef) (hZo ho1 a r o b c g1 gr) (Array.getElem?_eq_some_iff.1 p1).1
   (fun e he=>by
    simp only[am]at he;obtain⟨e',he',rfl⟩:=he;rw[List.length_map];exact q1 e' (List.mem_of_mem_take (List.mem_of_mem_drop he'))) (by omega) (by omega)
   (fun i e j x he hx=>by
    obtain⟨u,u1,_⟩:=hcell i e j x he hx;rw[cell_of_row _ b _ cells o.ty (0,0) p1,<- Nat.add_mul,u1];rfl)
   (fun i e j x he hx=>by
    obtain⟨u,u1,u2⟩:=hcell i e j x he hx;simp only[u1,Option.getD_some];exact u2)
  rw[hl]at this;exact this
 ·rename_i x;unfold fJ;split
  ·rename_i heq;cases heq
  ·rename_i heq;injection heq with heq
   injection heq with heq
   subst heq;have:=(bs h).1;subst this;exact bX.nil _ _
  exact wk _ _ h
 ·rename_i cs;simp only[aj]at hn;obtain⟨vs,h1,h2,h3⟩:=h;refine⟨vs,h1,h2,fun j x hx=>?_⟩;obtain⟨u,u1,u2,u3⟩:=h3 j x hx;refine⟨u,u1,u2,?_⟩;have hp:=hn x (ax hx);cases x<;>first|exact wk _ _ u3|cases hp
 ·rename_i f cs;simp only[aj]at hn;obtain⟨u0,⟨vs,h1,h2,h3⟩,h4⟩:=h;refine⟨u0,⟨vs,h1,h2,fun j x hx=>?_⟩,h4⟩;obtain⟨u,u1,u2,u3⟩:=h3 j x hx;refine⟨u,u1,u2,?_⟩;have hp:=hn x (ax hx);cases x<;>first|exact wk _ _ u3|cases hp
 cases hn
theorem oO {own:Bool} {Y Z:Nat->Prop} (hob: ∀(a r:Nat) (o:OObj),(H a)[r]?=some o->objRel ρ H Y w a r o) (hZ: ∀b,Z b->Y b) (hZo:own=true-> ∀b,¬Z b) {t:TV} {v:Value} (h:t.rel ρ H Y w v) (hn:dU own H t=true):
  (fJ H t).rel (fun _ _=>none) (fun _=>[]) Z w v:=
 vS hob hZ (fun h _ _ _ b _ _ _=>hZo h b) h hn
end
end
section
section
variable {P:Program} {w0 w w':World} {O X:Nat->Prop} {ρ:Rho} {H:OH}
theorem dX {Y:Nat->Prop}:TV.rel ρ H Y w .undef undef:=⟨#[],rfl,rfl,fun j b cs h=>by simp at h⟩
theorem vT {a:Nat} {x:AV} (h:ML a x=true):bG a x:=by
 cases x with
 |sl b _ _ _=>have h:b=a:=(by simpa[ML] using h);exact h
 |p x=>trivial
 |_=>cases h
theorem qM {a:Nat}: ∀{cs:List AV} {qs:List (Nat×Nat×Nat)},jO a cs=some qs->qs.length=cs.length/\ ∀(n:Nat) q,qs[n]?=some q->cs[n]?=some (.ptr a q.1 q.2.1 q.2.2)
 |[],qs,h=>by simp only[jO]at h;injection h with h;subst h;exact⟨rfl,fun n q h=>by simp at h⟩
 |c::cs,qs,h=>by
  cases c with
  |ptr b r i j=>
   simp only[jO]at h;split at h
   ·rename_i hb;subst hb;obtain⟨l,hl,rfl⟩:=Option.map_eq_some_iff.1 h;obtain⟨g1,g2⟩:=qM hl;refine⟨by simp[g1],fun n q hn=>?_⟩;cases n with
    |zero=>simp at hn;subst hn;rfl
    |succ n=>simp at hn⊢;exact g2 n q hn
   cases h
  |_=>simp only[jO]at h;cases h
theorem BZ {Y:Nat->Prop} {f:FuncId} {a:Nat} {cs:List AV} {qs:List (Nat×Nat×Nat)} {v:Value} (hq:jO a cs=some qs) (h0:0<qs.length) (h:(TV.fn f cs).rel ρ H Y w v):(AV.fn f a qs).rel ρ H Y w v:=by
 obtain⟨u,⟨vs,h1,h2,h3⟩,h4⟩:=h;subst h1;obtain⟨g1,g2⟩:=qM hq;refine⟨vs,h4,h2.trans g1.symm,h0,fun n q hn=>?_⟩;obtain⟨u,u1,u2,u3⟩:=h3 n _ (g2 n q hn);exact⟨u,u1,u3⟩
theorem pv {s:AS} {a:Act} (h1:a.defers=[]) (hsz:a.tmps.size=s.tmps.length) (hinv:Inv w0 O X s.H ρ w) (htm:bq X ρ s a w) {o:Oper} {t:TypeId} {ad x:Operand} (ho:o.op= .store t ad x)
  {fa r i j n:Nat} {ob:OObj} {e cs:List AV} (had:s.ev ad=some (.one (.ptr fa r i j))) (hn:gh P t=some n) (hob:(s.H fa)[r]?=some ob) (he:ob.elems[i]?=some e) (hcs:cs.length=n) (hj:j+n<=e.length)
  (hx:kw ρ s.H (Xo X ρ s.H) w cs (a.eval x).cells) (hself: ∀y∈cs,bG fa y) {K:Act->World->Prop} {Q:Exit->Act->World->Prop}
  (hK: ∀v w',cW w0 O X (AS.put ⟨s.tmps,aJ s.H fa ((s.H fa).set r {ob with elems:=ob.elems.set i (putCells e j cs)})⟩ o.dst .undef) (a.put o.dst v) w'->K (a.put o.dst v) w'):o.wp P a w K Q:=by
 obtain⟨ob',b,c,g1,g2,g3,g4⟩:=bD htm ad _ had;rw[hob]at g1;injection g1 with g1
 subst g1;obtain⟨x1,x2⟩:=hx;have hvl:(a.eval x).cells.toList.length=cs.length:=by simpa using x1
 obtain⟨cells,c1,c2,c3,c4⟩:=wv h1 hsz hinv htm (vs:=(a.eval x).cells.toList) (j:=j) hob g2 he (by omega) hvl (fun k y hy=>by
  obtain⟨u,u1,u2⟩:=x2 k y hy;exact⟨u,by simpa using u1,u2⟩) hself
 have hone: ∀u∈(a.eval x).cells,u.oneCell'=true:=fun u hu=>by
  obtain⟨k,hk,rfl⟩:=Array.getElem_of_mem hu;obtain⟨y,hy⟩:=getElem?_of_lt (l:=cs) (k:=k) (by rw[<- x1];exact hk);obtain⟨u,u1,u2,_⟩:=x2 k y hy;rw[Array.getElem?_eq_getElem hk]at u1;injection u1 with u1
  rw[u1];exact u2
 have hrun:=qS (P:=P) (t:=t) (v:=a.eval x) (by rw[hn,x1,hcs]) c1 (by simpa using c2) hone;unfold Oper.wp execOp;simp only[ho,g4];rw[Or hrun];refine hK undef _ (dP (ρ:=ρ) h1 hsz ?_ ?_ dX)
 ·simpa using c3
 simpa using c4
theorem BL {s:AS} {a:Act} (h1:a.defers=[]) (hsz:a.tmps.size=s.tmps.length) (hinv:Inv w0 O X s.H ρ w) (htm:bq X ρ s a w) {o:Oper} {q:A3} (h:eY P s.ev s.H o.op=some q) {K:Act->World->Prop} {Q:Exit->Act->World->Prop}
  (hK: ∀v w',cW w0 O X (AS.put ⟨s.tmps.map (a7 q.k),q.H⟩ o.dst q.t) (a.put o.dst v) w'->K (a.put o.dst v) w'):o.wp P a w K Q:=by
 cases ho:o.op<;>rw[ho]at h<;>simp only[eY]at h<;>try cases h
 case store t ad x=>
  split at h
  ·rename_i fa r i j n had hn;split at h
   ·rename_i ob hob;split at h
    ·rename_i e he;split at h
     ·rename_i a' r' off len hx;split at h
      ·rename_i haa;subst haa;split at h
       ·rename_i hc;injection h with h
        subst h;simp only[gJ]at hK;have hxr:=bD htm x _ hx;have hone:(a.eval x).oneCell'=true:=by
         obtain⟨_,_,_,h3⟩:=hxr;rcases h3 with⟨_,h3,_⟩|⟨_,_,_,_,h3,_⟩<;>rw[h3]<;>rfl
        refine pv h1 hsz hinv htm ho had hn hob he (cs:=[.sl a' r' off len]) (by simp;omega) (by omega) ⟨by rw[d9 hone];rfl,fun k y hy=>?_⟩ (fun y hy=>by simp at hy;subst hy;rfl) hK;cases k with
        |succ k=>simp at hy
        |zero=>simp at hy;subst hy;exact⟨a.eval x,by rw[d9 hone];rfl,hone,hxr⟩
       cases h
      rename_i haa;split at h
      ·rename_i o2 hH;split at h
       ·rename_i hc;obtain⟨c0,c1,c2,c3,c4,c5,c6⟩:=hc;injection h with h
        subst h;subst c1 c2;simp only[aj]at c6;obtain⟨m1,m2,m3⟩:=vM hinv (a:=fa) (b:=a') c0 haa hH c6;have htm1:=xl htm m2;have hxr:=m3 _ _ _ (bD htm x _ hx);have hone:(a.eval x).oneCell'=true:=by
         obtain⟨_,_,_,h3⟩:=hxr;rcases h3 with⟨_,h3,_⟩|⟨_,_,_,_,h3,_⟩<;>rw[h3]<;>rfl
        have hrl:r<(s.H fa).length:=(List.getElem?_eq_some_iff.1 hob).1;have hH1:aJ (aJ s.H fa (s.H fa++[o2])) a' [] fa=s.H fa++[o2]:=by rw[aN (Ne.symm haa),aX]
        have had1:AS.ev ⟨s.tmps.map (a7 fun x _=>x==a'),aJ (aJ s.H fa (s.H fa++[o2])) a' []⟩ ad=some (.one (.ptr fa r i j)):=by
         cases ad with
         |tmp k=>
          simp only[AS.ev,az]at had⊢;rw[had];simp[a7,a6,Ne.symm haa]
         |const v=>exact had
         |global g=>exact had
         |func f=>exact had
        refine pv (s:=⟨s.tmps.map (a7 fun x _=>x==a'),aJ (aJ s.H fa (s.H fa++[o2])) a' []⟩) (a:=a) h1 (by simpa using hsz) m1 htm1 ho had1 hn (by show(aJ (aJ s.H fa (s.H fa++[o2])) a' [] fa)[r]?=some ob;rw[hH1,aq hrl];exact hob) he (cs:=[.sl fa (s.H fa).length 0 len]) (by simp;omega) (by omega) ⟨by rw[d9 hone];rfl,fun k y hy=>?_⟩ (fun y hy=>by simp at hy;subst hy;rfl) ?_
        ·cases k with
         |succ k=>simp at hy
         |zero=>simp at hy;subst hy;exact⟨a.eval x,by rw[d9 hone];rfl,hone,hxr⟩
        intro v w2 hrel;refine hK v w2 ?_;have e1:aJ (aJ (aJ s.H fa (s.H fa++[o2])) a' []) fa ((aJ (aJ s.H fa (s.H fa++[o2])) a' [] fa).set r {ob with elems:=ob.elems.set i (putCells e j [.sl fa (s.H fa).length 0 len])})=
          aJ (aJ s.H fa ((s.H fa).set r {ob with elems:=ob.elems.set i (putCells e j [.sl fa (s.H fa).length 0 len])}++[o2])) a' []:=by
         funext z;rw[hH1];by_cases hz1:z=fa
         ·subst hz1;rw[aX,aN (Ne.symm haa),aX,List.set_append_left _ _ hrl]
         rw[aN hz1];by_cases hz2:z=a'
         ·subst hz2;rw[aX,aX]
         rw[aN hz2,aN hz1,aN hz2,aN hz1]
        simp only[e1]at hrel;exact hrel
       cases h
      cases h
     ·rename_i f cs hx;split at h
      ·rename_i qs hqs;split at h
       ·rename_i hc;injection h with h
        subst h;simp only[gJ]at hK;have hxr:=BZ hqs hc.2.2 (bD htm x _ hx);have hone:=Bq (by simp) hxr;refine pv h1 hsz hinv htm ho had hn hob he (cs:=[.fn f fa qs]) (by simp;omega) (by omega) ⟨by rw[d9 hone];rfl,fun k y hy=>?_⟩ (fun y hy=>by simp at hy;subst hy;exact⟨rfl,List.ne_nil_of_length_pos hc.2.2⟩) hK;cases k with
        |succ k=>simp at hy
        |zero=>simp at hy;subst hy;exact⟨a.eval x,by rw[d9 hone];rfl,hone,hxr⟩
       cases h
      cases h
     ·rename_i v hv hv2 hx;split at h
      ·rename_i cs hcs;split at h
       ·rename_i hc;obtain⟨c1,c2,c3⟩:=hc;injection h with h
        subst h;simp only[gJ]at hK;simp only[aj]at c3;exact pv h1 hsz hinv htm ho had hn hob he c1 c2 (gZ hcs (bD htm x _ hx)) (fun y hy=>vT (c3 y hy)) hK
       cases h
      cases h
     cases h
    cases h
   cases h
  cases h
 case call c=>
  obtain⟨callee,⟨args⟩,⟨argTypes⟩⟩:=c;split at h
  ·rename_i sx x t t' hcal hargs hty;simp only at hcal hargs hty;subst hcal hargs hty;split at h
   ·rename_i fa r off len news e hs hx hsl;split at h
    ·rename_i ob z sz by_ hob hz hszo hby;split at h
     ·rename_i hc;obtain⟨c0,rfl,rfl,rfl,c4,rfl,rfl,c7,c8,c9,c10⟩:=hc;injection h with h
      subst h;simp only[aj]at c4;obtain⟨tx,htx,hnews⟩:=Option.bind_eq_some_iff.1 hx;have hobj:=hinv.objs fa r ob hob;have hpos:0<ob.es:=hobj.2.1;obtain⟨us,hsrc⟩:=tb hinv.objs hnews (bD htm x tx htx) c10 hpos;obtain⟨xs,hown,hxs,hvb⟩:=MQ c0 hobj hob (bD htm sx _ hs);obtain⟨⟨A,cc,hv,hrd⟩,hul,hone,hpu,hcell⟩:=id hsrc;obtain⟨ti,zv,hti,hzv,hzc⟩:=jb hz;obtain⟨ti',hti',hsz'⟩:=py hszo;rw[hti]at hti';injection hti' with hti';subst hti'
      obtain⟨ti',hti',hby'⟩:=r7 hby;rw[hti]at hti';injection hti' with hti';subst hti'
      obtain⟨v',w1,hrun,hown',hg,hblk⟩:=jP (P:=P) w 0 t o.type ob.ty zv ob.es by_ (dn hsl) (by rw[hti];simp[hzv,hsz',hby']) (by rw[<- c9,<- hzc];simp) hpos _ _ xs hown A news.length cc us hrd hul hone (by unfold maxLen;omega) c7 (Nat.zero_le _);obtain⟨ρ',i1,i2,i3⟩:=Bl hinv htm hob c10 hxs hown.1 hvb hsrc hown' hg hblk (fun e he x hx=>c4 e he x hx);unfold Oper.wp execOp;have hrun':(execOp a.eval o).run P w= .ok (.value v') w1:=by
       unfold execOp;simp only[ho,resolve,invoke,builtin,Sem.run_bind,Sem.run_pure,ak,List.map_toArray,List.map_cons,List.map_nil,hv,hrun]
      unfold execOp at hrun';rw[hrun'];exact hK v' w1 (dP h1 (by simpa using hsz) i1 i2 i3)
     cases h
    cases h
   cases h
  cases h
end
end
section
section
variable {P:Program} {w0 w w':World} {O X:Nat->Prop} {ρ:Rho} {H:OH}
theorem jG {f : FuncId} (h : callable P f = true) : ∃ fn, P.funcs[f]? = some fn /\ fn.body.isNone = false /\ (fn.name == "runtime.NumGoroutine") = false := by
 unfold callable at h;split at h
 ·rename_i fn hf;simp only[Bool.and_eq_true,Bool.not_eq_true']at h;exact⟨fn,hf,by cases hb:fn.body<;>simp_all,h.2⟩
 cases h
theorem i7 {o:Oper} {c:Call} {f:FuncId} {e:Operand->Value} (ho:o.op= .call c) (hc:c.callee= .value (.func f)) (he:e (.func f)= .func (.func f) #[] #[]) (hf:callable P f=true):
  (execOp e o).run P w= .ok (.enter f (c.args.map e)) w:=by
 obtain⟨fn,h1,h2,h3⟩:=jG hf;unfold execOp;simp only[ho,resolve,hc,he,Deferred.ofValue,Sem.run_bind,Sem.run_pure,ak,invoke];unfold callFunc;simp only[Sem.run_bind];show Result.andThen (.ok P w) _=_;rw[ak,h1];simp only[h3,h2,Bool.false_eq_true,if_false]
 simp
theorem iO {o:Oper} {c:Call} {x:Operand} {f:FuncId} {e:Operand->Value} {vs:Array Value} (ho:o.op= .call c) (hc:c.callee= .value x) (he:e x= .func (.func f) #[] vs) (hf:callable P f=true):
  (execOp e o).run P w= .ok (.enter f (c.args.map e++vs)) w:=by
 obtain⟨fn,h1,h2,h3⟩:=jG hf;unfold execOp;simp only[ho,resolve,hc,he,Deferred.ofValue,Sem.run_bind,Sem.run_pure,ak,invoke];unfold callFunc;simp only[Sem.run_bind];show Result.andThen (.ok P w) _=_;rw[ak,h1];simp only[h3,h2,Bool.false_eq_true,if_false]
 simp
theorem iJ {Y:Nat->Prop} {q:Option TV} {v:Value} {f:FuncId} {extra:List TV} (hq: ∀t,q=some t->t.rel ρ H Y w v) (h:Bu q=some (f,extra)): ∃vs:Array Value,v= .func (.func f) #[] vs/\vs.size=extra.length/\ ∀(j:Nat) t,extra[j]?=some t-> ∃u:Value,vs[j]?=some u/\t.rel ρ H Y w u:=by
 unfold Bu at h;split at h
 ·rename_i f' cs;injection h with h
  injection h with h h'
  subst h h';obtain⟨u,⟨vs,h1,h2,h3⟩,h4⟩:=hq _ rfl;subst h1;refine⟨vs,h4,by simpa using h2,fun j t hj=>?_⟩;rw[az]at hj;obtain⟨y,hy,rfl⟩:=Option.map_eq_some_iff.1 hj;obtain⟨u,u1,u2,u3⟩:=h3 j y hy;exact⟨u,u1,u3⟩
 ·rename_i f' a qs;injection h with h
  injection h with h h'
  subst h h';obtain⟨vs,h1,h2,_,h3⟩:=hq _ rfl;refine⟨vs,h1,by simpa using h2,fun j t hj=>?_⟩;rw[az]at hj;obtain⟨y,hy,rfl⟩:=Option.map_eq_some_iff.1 hj;obtain⟨u,u1,u2⟩:=h3 j y hy;exact⟨u,u1,u2⟩
 ·rename_i f' first caps
  split at h
  ·rename_i hc;injection h with h
   injection h with h h'
   subst h h';have:=(bs (hq _ rfl)).1;simp only[Bool.and_eq_true,Array.isEmpty_iff]at hc;obtain⟨rfl,rfl⟩:=hc;exact⟨#[],this,rfl,fun j t hj=>by simp at hj⟩
  cases h
 cases h
theorem qb {ρ':Rho} {H':OH} {Y Y':Nat->Prop} {d:Nat} {x:AV} {v:Value} (h:oZ x=true) (hr:x.rel ρ H Y w v):(cb d x).rel ρ' H' Y' w' v:=by
 cases x with
 |p x=>
  cases x with
  |raw u=>
   obtain⟨rfl,h1⟩:=bs (ρ:=ρ) (H:=H) hr;exact bX.raw _ h1
  |sl xs=>cases h
  |ptr cs=>cases h
 |sl a r off len=>cases h
 |ptr a r i j=>cases h
 |junk=>cases h
 |fn=>cases h
theorem M0 {ρ':Rho} {H':OH} {Y Y':Nat->Prop} {d:Nat} {t:TV} {v:Value} (h:l6 t=true) (hr:t.rel ρ H Y w v):(renTV d t).rel ρ' H' Y' w' v:=by
 have agg: ∀cs v,cs.all oZ=true->bJ ρ H Y w cs v->bJ ρ' H' Y' w' (cs.map (cb d)) v:=fun cs v hc h=>by
  simp only[aj]at hc;obtain⟨vs,h1,h2,h3⟩:=h;refine⟨vs,h1,by simpa using h2,fun j x hx=>?_⟩;rw[az]at hx;obtain⟨y,hy,rfl⟩:=Option.map_eq_some_iff.1 hx;obtain⟨u,u1,u2,u3⟩:=h3 j y hy;exact⟨u,u1,u2,qb (hc y (ax hy)) u3⟩
 cases t with
 |one x=>exact qb h hr
 |agg cs=>exact agg cs v h hr
 |fn f cs=>obtain⟨u,h1,h2⟩:=hr;exact⟨u,agg cs u h h1,h2⟩
 |tup ts=>
  simp only[l6,aj]at h;obtain⟨vs,h1,h2,h3⟩:=hr;refine⟨vs,h1,by simpa using h2,fun j b cs hx=>?_⟩;rw[az]at hx;obtain⟨y,hy,hyy⟩:=Option.map_eq_some_iff.1 hx;obtain⟨b',cs'⟩:=y;simp at hyy;obtain⟨rfl,rfl⟩:=hyy;obtain⟨u,u1,u2⟩:=h3 j b' cs' hy;have hall:=h (b',cs') (ax hy);refine⟨u,u1,?_⟩;rcases u2 with⟨u2,u3⟩|⟨u2,x,rfl,u4⟩
  ·exact .inl ⟨u2,agg _ _ (by simpa only[aj] using hall) u3⟩
  exact .inr ⟨u2,_,rfl,qb (hall x (by simp)) u4⟩
theorem oh {it:cQ P} {d:Nat} {s:AS} {a:Act} (h1:a.defers=[]) (hsz:a.tmps.size=s.tmps.length) (hinv:Inv w0 O X s.H ρ w) (htm:bq X ρ s a w) {t:TV} {F:List OObj} (ht:renTV d it.res.r=t) (hF:it.res.fam.map (renO d)=F) (hd:F≠[]->s.H d=[])
  {v:Value} {w1:World} {ρc:Rho} (hi:Inv w (fun _=>False) (if it.res.plain then(fun _=>False)else Xo X ρ s.H) (famH 0 it.res.fam) ρc w1) (hr:it.res.r.rel ρc (famH 0 it.res.fam) (Xo (if it.res.plain then(fun _=>False)else Xo X ρ s.H) ρc (famH 0 it.res.fam)) w1 v):
  cW w0 O X (iv s d t F) (a.put (some d) v) w1:=by
 have hext:Ext w w1:=⟨hi.keep.os,hi.keep.tape,hi.keep.output,hi.keep.size,fun k hk=>hi.keep.block k hk id⟩;by_cases hpl:it.res.plain=true
 ·unfold CallRes.plain at hpl;simp only[Bool.and_eq_true,List.isEmpty_iff]at hpl;have hF0:F=[]:=by rw[<- hF,hpl.1];rfl
  subst hF0;show cW w0 O X (s.put (some d) t) _ _;refine dP h1 hsz (hinv.grow hext) (htm.grow hext) ?_;rw[<- ht];exact M0 hpl.2 hr
 have hpl':it.res.plain=false:=by simpa using hpl
 simp only[hpl',Bool.false_eq_true,if_false]at hi hr;generalize hYY:Xo X ρ s.H=Y at hi hr;have hYs: ∀b,Xo X ρ s.H b->Y b:=fun b hb=>by rw[<- hYY];exact hb
 by_cases hfam:it.res.fam=[]
 ·rw[hfam]at hi hr;have hF0:F=[]:=by rw[<- hF,hfam];rfl
  subst hF0;show cW w0 O X (s.put (some d) t) _ _;refine dP h1 hsz (hinv.grow hext) (htm.grow hext) ?_;rw[<- ht];refine mE hr (fun x u hx=>rr (fun r o' ho'=>by simp at ho') (fun b _ hb=> .inl (hYs b hb)) hx)
 have hF0:F≠[]:=by rw[<- hF];simpa using hfam
 have hres:iv s d t F=AS.put ⟨s.tmps,aJ s.H d F⟩ (some d) t:=by
  unfold iv;rw[if_neg (by simpa using hF0)]
 rw[hres];have hold: ∀r b n,ρc 0 r=some (b,n)->(∃o',it.res.fam[r]?=some o')->w.heap.size<=b:=fun r b n hr0 ⟨o',ho'⟩=>by
  have:=(hi.old 0 r o' b n (by simpa[famH] using ho') hr0).1;rcases this with h|h
  ·exact h
  exact h.elim
 have hff: ∀r b n,(if r<it.res.fam.length then ρc 0 r else none)=some (b,n)->(∃o',it.res.fam[r]?=some o')/\ρc 0 r=some (b,n):=fun r b n h=>by
  split at h
  ·rename_i hlt;exact⟨⟨_,aw hlt⟩,h⟩
  cases h
 have hnew: ∀(r b n:Nat),(if r<it.res.fam.length then ρc 0 r else none)=some (b,n)->w.heap.size<=b:=fun r b n h=>hold r b n (hff r b n h).2 (hff r b n h).1
 have hmap: ∀x u,AV.rel ρc (famH 0 it.res.fam) (Xo Y ρc (famH 0 it.res.fam)) w1 x u->AV.rel (newρ ρ d fun r=>if r<it.res.fam.length then ρc 0 r else none) (aJ s.H d F) (Xo X (newρ ρ d fun r=>if r<it.res.fam.length then ρc 0 r else none) (aJ s.H d F)) w1 (cb d x) u:=fun x u hx=>by
  refine rr (fun r o' ho'=>?_) (fun b _ hb=>?_) hx
  ·rw[aX,newρ_eq,if_pos (List.getElem?_eq_some_iff.1 ho').1,<- hF,az,ho'];exact⟨rfl,rfl⟩
  rcases hb with hb|⟨x',y',o',n,g1,g2⟩
  ·exact .inl (hYs b (.inl hb))
  by_cases hxd:x'=d
  ·subst hxd;rw[newρ_eq]at g2;obtain⟨⟨o2,ho2⟩,g3⟩:=hff y' b n g2;exact .inr ⟨0,y',o2,n,by simpa[famH] using ho2,g3⟩
  rw[aN hxd]at g1;rw[newρ_ne hxd]at g2;exact .inl (hYs b (.inr ⟨x',y',o',n,g1,g2⟩))
 refine xx h1 hsz hinv htm hext (hd hF0) (fun r=>if r<it.res.fam.length then ρc 0 r else none) hnew (fun r r' b n n' g g'=>?_) (fun r o' ho'=>?_) (fun r o' ho'=>?_) ?_
 ·obtain⟨⟨o1,ho1⟩,g1⟩:=hff r b n g;obtain⟨⟨o2,ho2⟩,g2⟩:=hff r' b n' g';exact(hi.inj 0 r 0 r' o1 o2 b n n' (by simpa[famH] using ho1) (by simpa[famH] using ho2) g1 g2).2
 ·rw[<- hF,az]at ho';obtain⟨o2,ho2,rfl⟩:=Option.map_eq_some_iff.1 ho';intro e he x hx;simp only[renO,am]at he;obtain⟨e',he',rfl⟩:=he;simp only[am]at hx;obtain⟨x',hx',rfl⟩:=hx;exact de _ _
 ·rw[<- hF,az]at ho';obtain⟨o2,ho2,rfl⟩:=Option.map_eq_some_iff.1 ho';have hobj:=hi.objs 0 r o2 (by simpa[famH] using ho2);obtain⟨z1,z2,z3⟩:=hobj;refine⟨fun e he=>?_,z2,?_⟩
  ·simp only[renO,am]at he;obtain⟨e',he',rfl⟩:=he;rw[List.length_map];exact z1 e' he'
  rw[newρ_eq,if_pos (List.getElem?_eq_some_iff.1 ho2).1];cases hr0:ρc 0 r with
  |none=>rw[hr0]at z3;simp[renO,z3]
  |some bc=>
   obtain⟨b,n⟩:=bc;rw[hr0]at z3;obtain⟨cells,p1,p2,p3,p4,p5⟩:=z3;refine⟨cells,p1,p2,by simpa[renO] using p3,p4,fun i e j z he hz=>?_⟩;simp only[renO,az]at he;obtain⟨e',he',rfl⟩:=Option.map_eq_some_iff.1 he;rw[az]at hz;obtain⟨z',hz',rfl⟩:=Option.map_eq_some_iff.1 hz;obtain⟨u,u1,u2,u3⟩:=p5 i e' j z' he' hz';exact⟨u,u1,u2,hmap z' u u3⟩
 rw[<- ht];exact mE hr hmap
def Hf (P:Program) (f:FuncId) (args:List TV) (res:CallRes) (w:World):Prop:=
 callable P f=true/\ ∀(X:Nat->Prop) (vs:Array Value),(∀b,X b->b<w.heap.size)->vs.size=args.length->
  (∀(j:Nat) t,args[j]?=some t-> ∃v:Value,vs[j]?=some v/\t.rel (fun _ _=>none) (fun _=>[]) X w v)->
  Calls P f vs w fun e w'=> ∃v,e= .returned v/\ ∃ρ:Rho,
   Inv w (fun _=>False) X (famH 0 res.fam) ρ w'/\res.r.rel ρ (famH 0 res.fam) (Xo X ρ (famH 0 res.fam)) w' v
def md (P:Program) (items:List (cQ P)) (w:World):Prop:= ∀it∈items,Hf P it.f it.args it.res w
theorem fL.at {items:List (cQ P)} (h:fL P items) (w:World):md P items w:=fun it hit=>⟨(h it hit).1,fun X vs=>(h it hit).2 X w vs⟩
theorem LS {items:List (cQ P)} {ow:List Nat} {i d:Nat} {s:AS} {a:Act} (hI:md P items w) (h1:a.defers=[]) (hsz:a.tmps.size=s.tmps.length) (hinv:Inv w0 O X s.H ρ w) (htm:bq X ρ s a w) {o:Oper} {c:Call} {f:FuncId} (ho:o.op= .call c) (hcal:c.callee= .value (.func f))
  {t:TV} {F:List OObj} (h:cf P items ow i d s.ev s.H o.op=some (t,F)) (hd:F≠[]->s.H d=[]) (hdst:o.dst=some d) {K:Act->World->Prop} {Q:Exit->Act->World->Prop}
  (hK: ∀v w',cW w0 O X (iv s d t F) (a.put o.dst v) w'->K (a.put o.dst v) w'):o.wp P a w K Q:=by
 rw[ho]at h;simp only[cf,hcal]at h;split at h
 ·rename_i it ts hit hts;split at h
  ·rename_i hc;obtain⟨c1,c2,c3,_⟩:=hc;injection h with h
   injection h with ht hF
   subst c1;obtain⟨e1,e2⟩:=bZ hts;obtain⟨hcallable,hcon⟩:=hI it (List.mem_of_find?_eq_some hit);have hrun:=i7 (w:=w) ho hcal (e:=a.eval) rfl hcallable;unfold Oper.wp;rw[hrun];simp only[Oper.upon];simp only[aj]at c3;have hZ: ∀b,(if it.res.plain then(fun _=>False)else Xo X ρ s.H:Nat->Prop) b->Xo X ρ s.H b:=fun b hb=>by
    split at hb
    ·exact hb.elim
    exact hb
   have hXlt: ∀b,Xo X ρ s.H b->b<w.heap.size:=fun b hb=>by
    rcases hb with hb|⟨x,y,o',n,g1,g2⟩
    ·exact hinv.bar b hb
    exact bO (hinv.objs x y o' g1) g2
   refine(hcon (if it.res.plain then(fun _=>False)else Xo X ρ s.H) (c.args.map a.eval) (fun b hb=>hXlt b (hZ b hb)) ?_ ?_).mono ?_
   ·rw[<- c2];simp[e1]
   ·intro j u hu;rw[<- c2,az]at hu;obtain⟨t0,ht0,rfl⟩:=Option.map_eq_some_iff.1 hu;obtain⟨x,hx,hxt⟩:=e2 j t0 ht0;refine⟨a.eval x,by rw[Array.getElem?_map];simp at hx;rw[hx];rfl,?_⟩;exact oO hinv.objs hZ (fun hfr b hb=>by rw[hfr]at hb;exact hb) (bD htm x t0 hxt) (c3 t0 (ax ht0))
   rintro e w1 ⟨v,rfl,ρc,hi,hr⟩;show K (a.put o.dst v) w1;refine hK v w1 ?_;rw[hdst];exact oh h1 hsz hinv htm ht hF hd hi hr
  cases h
 cases h
theorem Ij {items:List (cQ P)} {ow:List Nat} {i d:Nat} {s:AS} {a:Act} (hI:md P items w) (h1:a.defers=[]) (hsz:a.tmps.size=s.tmps.length) (hinv:Inv w0 O X s.H ρ w) (htm:bq X ρ s a w) {o:Oper} {c:Call} {k:Tmp} (ho:o.op= .call c) (hcal:c.callee= .value (.tmp k))
  {t:TV} {F:List OObj} (h:cf P items ow i d s.ev s.H o.op=some (t,F)) (hd:F≠[]->s.H d=[]) (hdst:o.dst=some d) {K:Act->World->Prop} {Q:Exit->Act->World->Prop}
  (hK: ∀v w',cW w0 O X (iv s d t F) (a.put o.dst v) w'->K (a.put o.dst v) w'):o.wp P a w K Q:=by
 rw[ho]at h;simp only[cf,hcal]at h;split at h
 ·rename_i f extra it ts hcl hit hts;split at h
  ·rename_i hc;obtain⟨c1,c2,c3,_⟩:=hc;injection h with h
   injection h with ht hF
   subst c1;obtain⟨e1,e2⟩:=bZ hts;obtain⟨us,k1,k2,k3⟩:=iJ (v:=a.eval (.tmp k)) (fun t0 ht0=>bD htm (.tmp k) t0 ht0) hcl;obtain⟨hcallable,hcon⟩:=hI it (List.mem_of_find?_eq_some hit);have hrun:=iO (w:=w) ho hcal (e:=a.eval) k1 hcallable;unfold Oper.wp;rw[hrun];simp only[Oper.upon];simp only[aj]at c3;have hZ: ∀b,(if it.res.plain then(fun _=>False)else Xo X ρ s.H:Nat->Prop) b->Xo X ρ s.H b:=fun b hb=>by
    split at hb
    ·exact hb.elim
    exact hb
   have hXlt: ∀b,Xo X ρ s.H b->b<w.heap.size:=fun b hb=>by
    rcases hb with hb|⟨x,y,o',n,g1,g2⟩
    ·exact hinv.bar b hb
    exact bO (hinv.objs x y o' g1) g2
   refine(hcon (if it.res.plain then(fun _=>False)else Xo X ρ s.H) (c.args.map a.eval++us) (fun b hb=>hXlt b (hZ b hb)) ?_ ?_).mono ?_
   ·rw[<- c2];simp[e1,k2]
   ·intro j u hu;rw[<- c2,az]at hu;obtain⟨t0,ht0,rfl⟩:=Option.map_eq_some_iff.1 hu;have hmem:=c3 t0 (ax ht0);by_cases hj:j<ts.length
    ·rw[aq hj]at ht0;obtain⟨x,hx,hxt⟩:=e2 j t0 ht0;refine⟨a.eval x,by rw[Array.getElem?_append_left (by simp at e1⊢;omega),Array.getElem?_map];simp at hx;rw[hx];rfl,?_⟩;exact oO hinv.objs hZ (fun hfr b hb=>by rw[hfr]at hb;exact hb) (bD htm x t0 hxt) hmem
    rw[List.getElem?_append_right (by omega)]at ht0;obtain⟨v,v1,v2⟩:=k3 _ t0 ht0;refine⟨v,by rw[Array.getElem?_append_right (by simp at e1⊢;omega)];simp at e1⊢;rw[<- e1];exact v1,?_⟩;exact oO hinv.objs hZ (fun hfr b hb=>by rw[hfr]at hb;exact hb) v2 hmem
   rintro e w1 ⟨v,rfl,ρc,hi,hr⟩;show K (a.put o.dst v) w1;refine hK v w1 ?_;rw[hdst];exact oh h1 hsz hinv htm ht hF hd hi hr
  cases h
 cases h
theorem EW {items:List (cQ P)} {ow:List Nat} {i d:Nat} {s:AS} {a:Act} (h1:a.defers=[]) (hsz:a.tmps.size=s.tmps.length) (hinv:Inv w0 O X s.H ρ w) (htm:bq X ρ s a w) {o:Oper} {c:Call} (ho:o.op= .call c) (hcal:c.callee= .builtin .append)
  {t:TV} {F:List OObj} (h:cf P items ow i d s.ev s.H o.op=some (t,F)) (hd:F≠[]->s.H d=[]) (hdst:o.dst=some d) {K:Act->World->Prop} {Q:Exit->Act->World->Prop}
  (hK: ∀v w',cW w0 O X (iv s d t F) (a.put o.dst v) w'->K (a.put o.dst v) w'):o.wp P a w K Q:=by
 rw[ho]at h;simp only[cf,hcal]at h;obtain⟨callee,⟨args⟩,⟨argTypes⟩⟩:=c;simp only at hcal;subst hcal;split at h
 ·rename_i sx x ty ty' hargs hty;simp only at hargs hty;subst hargs hty;split at h
  ·rename_i news e hs hx hsl;split at h
   ·rename_i z sz by_ hz hszo hby;split at h
    ·rename_i hc;obtain⟨rfl,c7,c8,c9,hpos,c10⟩:=hc;injection h with h
     injection h with ht hF
     subst ht hF;obtain⟨tx,htx,hnews⟩:=Option.bind_eq_some_iff.1 hx;obtain⟨us,hsrc⟩:=tb hinv.objs hnews (bD htm x tx htx) c10 hpos;have hsv:=(bs (bD htm sx _ hs)).1;obtain⟨⟨A,cc,hv,hrd⟩,hul,hone,hpu,hcell⟩:=id hsrc;obtain⟨ti,zv,hti,hzv,hzc⟩:=jb hz;obtain⟨ti',hti',hsz'⟩:=py hszo;rw[hti]at hti';injection hti' with hti';subst hti'
     obtain⟨ti',hti',hby'⟩:=r7 hby;rw[hti]at hti';injection hti' with hti';subst hti'
     obtain⟨v',w1,hrun,hown',hg,hblk⟩:=jP (P:=P) w 0 ty o.type e zv sz by_ (dn hsl) (by rw[hti];simp[hzv,hsz',hby']) (by rw[<- c9,<- hzc];simp) hpos (.slice none 0 0) 0 [] (World.ownsRow_nil _ _ _ _) A news.length cc us hrd hul hone (by unfold maxLen;omega) (by rw[Nat.zero_add];exact c7) (Nat.zero_le _);have hrun':(execOp a.eval o).run P w= .ok (.value v') w1:=by
      unfold execOp;simp only[ho,resolve,invoke,builtin,Sem.run_bind,Sem.run_pure,ak,List.map_toArray,List.map_cons,List.map_nil,hv,hsv,hrun]
     unfold Oper.wp;rw[hrun'];rw[Nat.zero_add,List.nil_append]at hown';refine hK v' w1 ?_;rw[hdst];exact Bk h1 hsz hinv htm (hd (by simp)) hpos c10 hsrc hown' hg hblk
    cases h
   cases h
  cases h
 cases h
theorem DI {items:List (cQ P)} {ow:List Nat} {i d:Nat} {s:AS} {a:Act} (hI:md P items w) (h1:a.defers=[]) (hsz:a.tmps.size=s.tmps.length) (hinv:Inv w0 O X s.H ρ w) (htm:bq X ρ s a w) {o:Oper}
  {t:TV} {F:List OObj} (h:cf P items ow i d s.ev s.H o.op=some (t,F)) (hd:F≠[]->s.H d=[]) (hdst:o.dst=some d) {K:Act->World->Prop} {Q:Exit->Act->World->Prop}
  (hK: ∀v w',cW w0 O X (iv s d t F) (a.put o.dst v) w'->K (a.put o.dst v) w'):o.wp P a w K Q:=by
 have fin:(∃v w',(execOp a.eval o).run P w= .ok (.value v) w'/\cW w0 O X (iv s d t F) (a.put (some d) v) w')->o.wp P a w K Q:=fun⟨v,w1,g1,g2⟩=>by
  unfold Oper.wp;rw[g1];exact hK v w1 (by rw[hdst];exact g2)
 have ne: ∀{e:OObj} {l:List OObj},e::l≠[]:=fun{e l}=>by simp
 cases ho:o.op
 case box e x=>
  refine fin (Iu h1 hsz hinv htm ho h (hd ?_));rw[ho]at h;simp only[cf]at h;split at h
  ·split at h
   ·injection h with h;injection h with h h';rw[<- h'];simp
   cases h
  cases h
 case alloc e=>
  refine fin (BG h1 hsz hinv htm ho h (hd ?_));rw[ho]at h;simp only[cf]at h;split at h
  ·split at h
   ·injection h with h;injection h with h h';rw[<- h'];simp
   cases h
  cases h
 case makeSlice ty l c=>
  refine fin (Fh h1 hsz hinv htm ho h (hd ?_));rw[ho]at h;simp only[cf]at h;split at h
  ·split at h
   ·split at h
    ·injection h with h;injection h with h h';rw[<- h'];simp
    cases h
   cases h
  cases h
 case buildSlice ty n parts=>exact fin (Iw h1 hsz hinv htm ho h hd)
 case call c=>
  cases hcal:c.callee with
  |value x=>
   cases x with
   |func f=>exact LS hI h1 hsz hinv htm ho hcal h hd hdst hK
   |tmp k=>exact Ij hI h1 hsz hinv htm ho hcal h hd hdst hK
   |const k=>rw[ho]at h;simp only[cf,hcal]at h;cases h
   |global k=>rw[ho]at h;simp only[cf,hcal]at h;cases h
  |invoke r m=>rw[ho]at h;simp only[cf,hcal]at h;cases h
  |builtin b=>
   cases b
   case append=>exact EW h1 hsz hinv htm ho hcal h hd hdst hK
   all_goals (rw[ho]at h;simp only[cf,hcal]at h;cases h)
 all_goals (rw[ho]at h;simp only[cf]at h;cases h)
theorem yD {items:List (cQ P)} {ow:List Nat} {i:Nat} {s s':AS} {a:Act} (hI:md P items w) (hrel:cW w0 O X s a w) {o:Oper} (h:dr P items ow i o s=some s') {K:Act->World->Prop} {Q:Exit->Act->World->Prop}
  (hK: ∀v w',cW w0 O X s' (a.put o.dst v) w'->K (a.put o.dst v) w'):o.wp P a w K Q:=by
 obtain⟨h1,hsz,ρ,hinv,htm⟩:=hrel;have htm:bq X ρ s a w:=htm;unfold dr at h;split at h
 ·obtain⟨t,ht,rfl⟩:=Option.map_eq_some_iff.1 h;obtain⟨v,g1,g2⟩:=sv (bD htm) ht;unfold Oper.wp;rw[g1];exact hK v w (dP h1 hsz hinv htm g2)
 split at h
 ·obtain⟨t,ht,rfl⟩:=Option.map_eq_some_iff.1 h;obtain⟨v,g1,g2⟩:=sC (bD htm) hinv.objs ht;unfold Oper.wp;rw[g1];exact hK v w (dP h1 hsz hinv htm g2)
 split at h
 ·rename_i q hq;injection h with h
  subst h;exact BL h1 hsz hinv htm hq hK
 split at h
 ·cases h
 rename_i d hd;split at h
 ·rename_i t ht;injection h with h
  subst h;refine DI hI h1 hsz hinv htm ht (fun hh=>absurd rfl hh) hd ?_;rw[hd]at hK⊢;exact hK
 ·rename_i t F hF ht;split at h
  ·rename_i hH;injection h with h
   subst h;refine DI hI h1 hsz hinv htm ht (fun _=>hH) hd ?_;have hres:iv s d t F=AS.put ⟨s.tmps,aJ s.H d F⟩ (some d) t:=by
    unfold iv;rw[if_neg (by intro h;exact hF (List.isEmpty_iff.1 h))]
   rw[hres,hd];rw[hd]at hK;exact hK
  cases h
 cases h
theorem yE {items:List (cQ P)} {ow:List Nat} {ops:Array Oper} {i:Nat} {s s':AS} {a:Act} (hI:md P items w) (hrel:cW w0 O X s a w) {o:Oper} (h:bf P items ow ops i o s=some s') {K:Act->World->Prop} {Q:Exit->Act->World->Prop}
  (hK: ∀v w',cW w0 O X s' (a.put o.dst v) w'->K (a.put o.dst v) w'):
  if Region.wanted o (yielded ops a.tmps)then o.wp P a w K Q else K (a.put o.dst undef) w:=by
 unfold bf at h;split at h
 ·rename_i hg;rw[if_pos (by simp[Region.wanted,hg])];exact yD hI hrel h hK
 rename_i g want hg;split at h
 ·cases h
 rename_i d hd;have hrel':=hrel;obtain⟨h1,hsz,ρ,hinv,htm⟩:=hrel;split at h
 ·rename_i b hb;obtain⟨v,hv,hr⟩:=htm d _ hb;have hvb:=(bs hr).1;have hy:yielded ops a.tmps g=some b:=by
   unfold yielded;rw[hd];simp only[Option.bind_some,hv,hvb]
  split at h
  ·rename_i hbw;rw[if_pos (by simp[Region.wanted,hg,hy,hbw])];exact yD hI hrel' h hK
  rename_i hbw;rw[if_neg (by simp[Region.wanted,hg,hy,hbw])];injection h with h
  subst h;exact hK undef w (dP h1 hsz hinv htm dX)
 ·rename_i hb;obtain⟨v,hv,vs,hr,hr2,_⟩:=htm d _ hb;have hy:yielded ops a.tmps g=none:=by
   unfold yielded;rw[hd];simp only[Option.bind_some,hv,hr]
  rw[if_neg (by simp[Region.wanted,hg,hy])];injection h with h
  subst h;exact hK undef w (dP h1 hsz hinv htm dX)
 cases h
theorem gA {items:List (cQ P)} {ow:List Nat} {ops:Array Oper} {i:Nat} {s s':AS} {a:Act} (hI:fL P items) (hrel:cW w0 O X s a w) {o:Oper} (h:bf P items ow ops i o s=some s') {K:Act->World->Prop} {Q:Exit->Act->World->Prop}
  (hK: ∀v w',cW w0 O X s' (a.put o.dst v) w'->K (a.put o.dst v) w'):
  if Region.wanted o (yielded ops a.tmps)then o.wp P a w K Q else K (a.put o.dst undef) w:=yE (hI.at w) hrel h hK
end
end
end Go.Proofs.YtalmoejhjceflaaGreat
