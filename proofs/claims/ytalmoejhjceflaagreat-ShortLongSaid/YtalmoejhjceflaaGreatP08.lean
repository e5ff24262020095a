/-
  Part 9 of a proof (walks and plain facts).
-/
import Derived.Test.YtalmoejhjceflaaGreatP07
import Derived.Lib.SliceRun
import Derived.Shelf.Small.Bits
import Derived.Ground.NamesProg
import Derived.Test.YtalmoejhjceflaaGreatProg
set_option linter.all false
set_option maxRecDepth 100000
set_option maxHeartbeats 64000000
open Nat renaming le_refl → ae
open List renaming replicate → af
open List renaming all_eq_true → aj
open List renaming mem_map → am
open List renaming mem_of_getElem? → ax
open List renaming getElem?_map → az
namespace Go.Proofs.YtalmoejhjceflaaGreat
open Go.RowKit
section
theorem M6 {w w':World} {O X:Nat->Prop} {s2:AS} {ρ:Rho} {res:CallRes} {r:TV} {a0:Nat} {v:Value} (hinv:Inv w O X s2.H ρ w') (v2:r.rel ρ s2.H (Xo X ρ s2.H) w' v) (hself0:qT s2.H a0 r) (hfam:res.fam=(s2.H a0).map (renO 0)) (hr:res.r=renTV 0 r):
  ∃ρ':Rho,Inv w O X (famH 0 res.fam) ρ' w'/\res.r.rel ρ' (famH 0 res.fam) (Xo X ρ' (famH 0 res.fam)) w' v/\ ∀b,Xo X ρ' (famH 0 res.fam) b->Xo X ρ s2.H b:=by
 obtain⟨hself,h5⟩:=uc hself0;have hF: ∀(k:Nat) o,(famH 0 res.fam 0)[k]?=some o-> ∃o',(s2.H a0)[k]?=some o'/\o=renO 0 o':=fun k o ho=>by
  simp only[famH,if_true,hfam,az]at ho;obtain⟨o',g1,g2⟩:=Option.map_eq_some_iff.1 ho;exact⟨o',g1,g2.symm⟩
 have hz: ∀(x k:Nat) o,(famH 0 res.fam x)[k]?=some o->x=0:=fun x k o ho=>by
  by_cases hx:x=0
  ·exact hx
  simp[famH,hx]at ho
 have hXo: ∀b,Xo X (fun _ k=>ρ a0 k) (famH 0 res.fam) b->Xo X ρ s2.H b:=fun b hb=>by
  rcases hb with hb|⟨x,k,o,n,g1,g2⟩
  ·exact .inl hb
  have:=hz x k o g1;subst this;obtain⟨o',g3,_⟩:=hF k o g1;exact .inr ⟨a0,k,o',n,g3,g2⟩
 have hmap: ∀x u,bG a0 x->AV.rel ρ s2.H (Xo X ρ s2.H) w' x u->AV.rel (fun _ k=>ρ a0 k) (famH 0 res.fam) (Xo X (fun _ k=>ρ a0 k) (famH 0 res.fam)) w' (cb 0 x) u:=iW (c:=bG a0) (fun _ _ _ _ _ _ h=>h.1) (mv 0) fun x u hn hs hx=>by
  cases x with
  |fn=>cases hn
  |p x=>exact bX.weaken (fun b _ hb=>hXo b hb) hx
  |sl x k off len=>
   have hs:x=a0:=hs;subst hs;obtain⟨o,g1,g2,g3⟩:=hx;have h6:x<=4999:=h5.resolve_right fun h=>by rw[h]at g1;simp at g1
   exact⟨renO 0 o,by simp[famH,hfam,g1],by simpa[renO] using g2,ma (ρ':=fun _ k=>ρ x k) (a':=0) (r':=k) h6 g3 rfl⟩
  |ptr x k i j=>
   have hs:x=a0:=hs;subst hs;obtain⟨o,b,c,g1,g2,g3,g4⟩:=hx;exact⟨renO 0 o,b,c,by simp[famH,hfam,g1],g2,by simpa[renO] using g3,g4⟩
  |junk=>trivial
 have hfin: ∃ρ':Rho,Inv w O X (famH 0 res.fam) ρ' w'/\res.r.rel ρ' (famH 0 res.fam) (Xo X ρ' (famH 0 res.fam)) w' v/\ ∀b,Xo X ρ' (famH 0 res.fam) b->Xo X ρ s2.H b:=by
  refine⟨fun _ k=>ρ a0 k,⟨hinv.keep,fun x k o ho=>?_,fun x k x' k' o o' b c c' ho ho' hr1 hr2=>?_,fun x k o b c ho hr1=>?_,hinv.bar,fun x k o ho=>?_⟩,?_,hXo⟩
  ·have:=hz x k o ho;subst this;obtain⟨o',g1,rfl⟩:=hF k o ho;obtain⟨z1,z2,z3⟩:=hinv.objs a0 k o' g1;refine⟨fun e he=>?_,z2,?_⟩
   ·simp only[renO,am]at he;obtain⟨e',he',rfl⟩:=he;rw[List.length_map];exact z1 e' he'
   cases hr0:ρ a0 k with
   |none=>rw[hr0]at z3;simp only[hr0];simp[renO,z3]
   |some bc=>
    obtain⟨b,n⟩:=bc;rw[hr0]at z3;obtain⟨cells,p1,p2,p3,p4,p5⟩:=z3;simp only[hr0];refine⟨cells,p1,p2,by simpa[renO] using p3,p4,fun i e j z he hz=>?_⟩;simp only[renO,az]at he;obtain⟨e',he',rfl⟩:=Option.map_eq_some_iff.1 he;rw[az]at hz;obtain⟨z',hz',rfl⟩:=Option.map_eq_some_iff.1 hz;obtain⟨u,u1,u2,u3⟩:=p5 i e' j z' he' hz';exact⟨u,u1,u2,hmap z' u (hinv.self a0 k o' g1 e' (ax he') z' (ax hz')) u3⟩
  ·have e1:=hz x k o ho;have e2:=hz x' k' o' ho';subst e1 e2;obtain⟨o1,g1,_⟩:=hF k o ho;obtain⟨o2,g2,_⟩:=hF k' o' ho';exact⟨rfl,(hinv.inj a0 k a0 k' o1 o2 b c c' g1 g2 hr1 hr2).2⟩
  ·have e1:=hz x k o ho;subst e1;obtain⟨o1,g1,_⟩:=hF k o ho;exact hinv.old a0 k o1 b c g1 hr1
  ·have e1:=hz x k o ho;subst e1;obtain⟨o1,g1,rfl⟩:=hF k o ho;intro e he z hzz;simp only[renO,am]at he;obtain⟨e',he',rfl⟩:=he;simp only[am]at hzz;obtain⟨z',hz',rfl⟩:=hzz;exact de _ _
  rw[hr];have agg: ∀cs u,(∀x∈cs,bG a0 x)->bJ ρ s2.H (Xo X ρ s2.H) w' cs u->bJ (fun _ k=>ρ a0 k) (famH 0 res.fam) (Xo X (fun _ k=>ρ a0 k) (famH 0 res.fam)) w' (cs.map (cb 0)) u:=fun cs u hs h=>by
   obtain⟨us,h1,h2,h3⟩:=h;refine⟨us,h1,by simpa using h2,fun j x hx=>?_⟩;rw[az]at hx;obtain⟨y,hy,rfl⟩:=Option.map_eq_some_iff.1 hx;obtain⟨u',u1,u2,u3⟩:=h3 j y hy;exact⟨u',u1,u2,hmap _ _ (hs y (ax hy)) u3⟩
  cases r with
  |one x=>exact hmap x v hself v2
  |agg cs=>exact agg cs v hself v2
  |fn f cs=>obtain⟨u,h1,h2⟩:=v2;exact⟨u,agg cs u hself h1,h2⟩
  |tup ts=>
   obtain⟨us,h1,h2,h3⟩:=v2;refine⟨us,h1,by simpa using h2,fun j b cs hx=>?_⟩;rw[az]at hx;obtain⟨y,hy,hyy⟩:=Option.map_eq_some_iff.1 hx;obtain⟨b',cs'⟩:=y;simp at hyy;obtain⟨rfl,rfl⟩:=hyy;obtain⟨u,u1,u2⟩:=h3 j b' cs' hy;have hs:=hself (b',cs') (ax hy);refine⟨u,u1,?_⟩;rcases u2 with⟨u2,u3⟩|⟨u2,x,rfl,u4⟩
   ·exact .inl ⟨u2,agg _ _ hs u3⟩
   exact .inr ⟨u2,_,rfl,hmap _ _ (hs x (by simp)) u4⟩
 exact hfin
section
variable {P:Program} {b:Nat} {ty:TypeId} {cs cs':List PV} {Q:Exit->AS->List PV->Prop} {s:AS}
theorem og {f:FuncId} {fn:Func} {c:Code} {args:List TV} {res:CallRes} (hf:P.funcs[f]?=some fn) (hb:fn.body=some c) (hn:callable P f=true)
  (h:gP P b ty c (fun e s k=>(e= .normal\/e= .ret)/\k=cs'/\ ∃s',bW s s'/\qt P fn res s') ⟨args++af (fn.ntmps-args.length) .undef,fun _=>[]⟩ cs):jh P b ty f args cs res cs':=by
 refine⟨hn,fun X w vs hX hXb hbox hvs hargs=>?_⟩;refine calls_of_wp hf hb ?_;have hXo: ∀j,j<w.heap.size->Xo X (fun _ _=>none) (fun _=>[]) j->X j:=fun j _ h=>by
  rcases h with h|⟨a,r,o,c,h1,h2⟩
  ·exact h
  cases h2
 have hrel:fO b ty w (fun j=>j=b) X ⟨args++af (fn.ntmps-args.length) .undef,fun _=>[]⟩ cs {tmps:=vs++Array.replicate (fn.ntmps-vs.size) undef,defers:=[]} w:=by
  refine⟨rfl,by simp[hvs],fun _ _=>none,⟨Keep.refl w,fun a r o ho=>by simp at ho,fun a r a' r' o o' b c c' ho=>by simp at ho,fun a r o b c ho=>by simp at ho,hX,fun a r o ho=>by simp at ho⟩,fun t x hx=>?_,rfl,hXb,hbox.weaken hXo⟩;by_cases ht:t<args.length
  ·rw[List.getElem?_append_left ht]at hx;obtain⟨v,v1,v2⟩:=hargs t x hx;refine⟨v,by rw[Array.getElem?_append_left (by omega)];exact v1,TV.rel_map v2 (fun y u hy=>?_)⟩;cases y with
   |p y=>exact bX.weaken hXo hy
   |sl a r off len=>obtain⟨o,h1,_⟩:=hy;simp at h1
   |ptr a r i j=>obtain⟨o,_,_,h1,_⟩:=hy;simp at h1
   |fn f a qs=>exact(oA (fun _=>rfl) hy).elim
   |junk=>trivial
  rw[List.getElem?_append_right (by omega),List.getElem?_replicate]at hx;split at hx
  ·rename_i hlt;injection hx with hx
   subst hx;refine⟨undef,?_,dX⟩;rw[Array.getElem?_append_right (by omega),Array.getElem?_replicate,if_pos (by omega)]
  cases hx
 refine wp_mono (h _ _ _ _ _ hrel) fun e a' w' ⟨s1,k,⟨he,hk,s2,hw,r,a0,hres,hself,hfam,hr⟩,hrel1⟩=>?_
 subst hk;obtain⟨h1,hsz,ρ,hinv,htm,_,_,hbox'⟩:=hrel1.weak hw;have htm:bq X ρ s2 a' w':=htm;obtain⟨v,v1,v2⟩:=eL hinv htm hres;obtain⟨ρ',g1,g2,g3⟩:=M6 hinv v2 hself hfam hr;rcases he with rfl|rfl
 ·exact⟨h1,v,v1,v,rfl,ρ',g1,g2,hbox'.weaken fun j _ hj=>g3 j hj⟩
 exact⟨h1,v,v1,v,rfl,ρ',g1,g2,hbox'.weaken fun j _ hj=>g3 j hj⟩
/-! Regions. -/
theorem BI {items items':List (cQ P)} {ow:List Nat} {i d:Nat} {ev:Operand->Option TV} {H:OH} {op:Op} (h:items.find? (·.i==i)=items'.find? (·.i==i)):cf P items ow i d ev H op=cf P items' ow i d ev H op:=by
 cases op<;>simp only[cf,h]
theorem uI {items items':List (cQ P)} {ow:List Nat} {ops:Array Oper} {i:Nat} {o:Oper} {s:AS} (h:items.find? (·.i==i)=items'.find? (·.i==i)):bf P items ow ops i o s=bf P items' ow ops i o s:=by
 have e:dr P items ow i o s=dr P items' ow i o s:=by
  unfold dr;simp only[BI h]
 unfold bf;simp only[e]
def jM (ops:Array Oper) (m:Nat):Bool:=match ops[m]? with
 |some o=>o.guard.isNone&&(match o.op with
  | .call c=>(match c.callee with
   | .value (.func _)=>true
   | .value (.tmp _)=>true
   |_=>false)
  |_=>false)
 |none=>false
theorem zx {ops:Array Oper} {m:Nat} (h:jM ops m=true) {o:Oper} (ho:ops[m]?=some o):o.guard=none/\ ∃c y,o.op= .call c/\c.callee= .value y/\((∃f,y= .func f)\/ ∃k,y= .tmp k):=by
 unfold jM at h;rw[ho]at h;simp only[Bool.and_eq_true]at h;obtain⟨h1,h2⟩:=h;refine⟨by simpa using h1,?_⟩;split at h2
 ·rename_i c hc;split at h2
  ·rename_i f hf;exact⟨c,_,hc,hf,.inl ⟨f,rfl⟩⟩
  ·rename_i k hk;exact⟨c,_,hc,hk,.inr ⟨k,rfl⟩⟩
  cases h2
 cases h2
theorem BY {items:List (aH P)} {it:cQ P} {i:Nat} (h:i≠it.i):(items.map aH.a++[it]).find? (·.i==i)=(items.map aH.a).find? (·.i==i):=by
 rw[List.find?_append];have:[it].find? (·.i==i)=none:=by simp[Ne.symm h]
 rw[this,Option.or_none]
theorem Fp {items:List (aH P)} {it:cQ P} (h:items.all (fun c=>c.i !=it.i)=true):(items.map aH.a++[it]).find? (·.i==it.i)=some it:=by
 rw[List.find?_append];have:(items.map aH.a).find? (·.i==it.i)=none:=by
  rw[List.find?_eq_none];intro x hx;obtain⟨c,hc,rfl⟩:=List.mem_map.1 hx;rw[aj]at h;have:=h c hc;simpa[aH.a] using this
 rw[this]
 simp
theorem wu {w0 w:World} {O X:Nat->Prop} {a:Act} (items:List (aH P)) (it:cQ P) {ow:List Nat} {ops:Array Oper} {i:Nat} {o:Oper} (ho:ops[i]?=some o) (hL:jM ops it.i=true) (hF:items.all (fun c=>c.i !=it.i)=true) (hraw:kE it.args it.res cs'=true) (hcon:jh P b ty it.f it.args cs it.res cs')
  {x:List PV} (hx:i=it.i->x=cs) {s1:AS} (hrel:fO b ty w0 O X s x a w) (h:bf P (items.map aH.a++[it]) ow ops i o s=some s1) {K:Act->World->Prop} {Q:Exit->Act->World->Prop}
  (hK: ∀v w',fO b ty w0 O X s1 (if i=it.i then cs' else x) (a.put o.dst v) w'->K (a.put o.dst v) w'):if Region.wanted o (yielded ops a.tmps)then o.wp P a w K Q else K (a.put o.dst undef) w:=by
 by_cases hi:i=it.i
 ·have hxx:=hx hi;subst hi hxx;obtain⟨hg,c,f,h1,h2,h3⟩:=zx hL ho;rw[if_pos (by simp[Region.wanted,hg])];unfold bf at h;rw[hg]at h;simp only[if_true]at hK;exact Mr hrel h1 h2 h3 (Fp hF) hraw hcon h hK
 rw[uI (BY hi)]at h;obtain⟨Own,r1,r2⟩:=hrel.rebase;simp only[if_neg hi]at hK;exact gA (aH.ok items) r1 h fun v w' hr=>hK v w' (r2 _ _ _ hr)
theorem wg {w0:World} {O X:Nat->Prop} (items:List (aH P)) (it:cQ P) {ow:List Nat} {ops:Array Oper} (hL:jM ops it.i=true) (hF:items.all (fun c=>c.i !=it.i)=true) (hraw:kE it.args it.res cs'=true) (hcon:jh P b ty it.f it.args cs it.res cs') {Q:Exit->Act->World->Prop}:
  ∀(l:List Oper) (k:Nat) (s s':AS) (a:Act) (w:World),(∀(j:Nat) o,l[j]?=some o->ops[k+j]?=some o)->eD P (items.map aH.a++[it]) ow ops (l.zipIdx k) s=some s'->fO b ty w0 O X s (if k<=it.i then cs else cs') a w->
   (∀a' w',fO b ty w0 O X s' (if k+l.length<=it.i then cs else cs') a' w'->Q .normal a' w')->wpOps P ops Q (List.range' k l.length) a w
 |[],k,s,s',a,w,_,h,r,hQ=>by
  simp only[List.zipIdx_nil,eD]at h;injection h with h
  subst h;exact hQ a w r
 |o::l,k,s,s',a,w,hl,h,r,hQ=>by
  simp only[List.zipIdx_cons,eD]at h;split at h
  ·rename_i s1 hs1;simp only[List.length_cons,List.range'_succ,wpOps];have ho:ops[k]?=some o:=by have:=hl 0 o rfl;simpa using this
   rw[ho];simp only;have:=wu (Q:=Q) items it ho hL hF hraw hcon (x:=if k<=it.i then cs else cs') (fun hk=>if_pos (by omega)) r hs1 (K:=wpOps P ops Q (List.range' (k+1) l.length)) (fun v w' hr=>wg items it hL hF hraw hcon l (k+1) s1 s' _ _ (fun j o hj=>by have:=hl (j+1) o (by simpa using hj);rwa[show k+(j+1)=k+1+j by omega]at this) h (by
    have e:(if k=it.i then cs' else if k<=it.i then cs else cs')=if k+1<=it.i then cs else cs':=by
     by_cases h1:k=it.i
     ·rw[if_pos h1,if_neg (by omega)]
     rw[if_neg h1];by_cases h2:k<=it.i
     ·rw[if_pos h2,if_pos (by omega)]
     rw[if_neg h2,if_neg (by omega)]
    rw[e]at hr;exact hr) (fun a' w' hr'=>hQ a' w' (by rw[List.length_cons,show k+(l.length+1)=k+1+l.length by omega];exact hr')))
   split at this
   ·rename_i hw;rw[if_pos hw];exact .inl this
   rename_i hw;rw[if_neg hw];exact this
  cases h
theorem ES (m:Nat) {f:FuncId} {args:List TV} {res:CallRes} (hcon:jh P b ty f args cs res cs') (items:List (aH P)) (ow:List Nat) {id:Nat} {ops:Array Oper} (hL:jM ops m=true) (hF:items.all (fun c=>c.i !=m)=true) (hraw:kE args res cs'=true)
  (h:ca P (items.map aH.a++[⟨m,f,args,res⟩]) ow (bC ops ops.toList 0) (some s) (fun s'=>Q .normal s' cs')):gP P b ty (.region id ops false) Q s cs:=fun w0 O X a w r=>by
 obtain⟨s',h1,h2⟩:=bi P _ ow ops ops.toList 0 s _ h;refine wp_region ?_;rw[List.range_eq_range'];have hm:m<ops.size:=by
  unfold jM at hL;split at hL
  ·rename_i o ho;exact(Array.getElem?_eq_some_iff.1 ho).1
  cases hL
 have:=wg (w0:=w0) (O:=O) (X:=X) items ⟨m,f,args,res⟩ hL hF hraw hcon (Q:=fun e a' w'=> ∃s' k,Q e s' k/\fO b ty w0 O X s' k a' w') ops.toList 0 s s' a w (fun j o hj=>by simpa using hj) h1 (by simpa using r) (fun a' w' hr=>⟨s',cs',h2,by
  rw[if_neg (by simp;omega)]at hr;exact hr⟩)
 simpa using this
theorem ER (hmx:P.follows .mixedOrders=true) (m:Nat) {f:FuncId} {args:List TV} {res:CallRes} (hcon:jh P b ty f args cs res cs') (items:List (aH P)) (ow:List Nat) {id:Nat} {ops:Array Oper} (hd:cL [] ops=true) (hL:jM ops m=true) (hF:items.all (fun c=>c.i !=m)=true) (hraw:kE args res cs'=true)
  (h:ca P (items.map aH.a++[⟨m,f,args,res⟩]) ow (bC ops ops.toList 0) (some s) (fun s'=>Q .normal s' cs')):gP P b ty (.region id ops true) Q s cs:=fun w0 O X a w r=>by
 obtain⟨sF,h1,h2⟩:=bi P _ ow ops ops.toList 0 s _ h;have hm:m<ops.size:=by
  unfold jM at hL;split at hL
  ·rename_i o ho;exact(Array.getElem?_eq_some_iff.1 ho).1
  cases hL
 refine wp_region_any hmx ?_;have hrun:cn P (items.map aH.a++[⟨m,f,args,res⟩]) ow ops (List.range ops.size) s=some sF:=by
  rw[List.range_eq_range'];have:=dW (P:=P) (items:=items.map aH.a++[⟨m,f,args,res⟩]) (ow:=ow) ops.toList 0 s (fun j o hj=>by simpa using hj);rw[h1]at this;simpa using this.symm
 have hr':fO b ty w0 O X s cs a {w with drawn:=w.drawn+1}:=by
  obtain⟨Own,g1,g2⟩:=r.rebase;obtain⟨q1,q2,ρ,hinv,htm⟩:=g1;have e:Ext w {w with drawn:=w.drawn+1}:=⟨rfl,rfl,rfl,ae _,fun _ _=>rfl⟩;have htm:bq X ρ s a w:=htm;exact g2 _ _ _ ⟨q1,q2,ρ,hinv.grow e,htm.grow e⟩
 refine m7 (sep:=[]) (ia hd (by simp)) hd (Q:=fun e a' w'=> ∃s' k,Q e s' k/\fO b ty w0 O X s' k a' w') (fun p s a w=>fO b ty w0 O X s (if p m then cs' else cs) a w) ⟨cO r.rel,fun x hx=>by simp at hx⟩ hrun (fun p a w hall hr=>⟨sF,cs',h2,by
  rw[if_pos (hall m hm)]at hr;exact hr⟩) (fun p i o s s1 a w K ho hpi _ hs hr hK=>?_) ops.size (Array.replicate ops.size false) s a _ (by simp) ?_ ?_ ?_ ?_
 ·refine wu items ⟨m,f,args,res⟩ ho hL hF hraw hcon (x:=if p m then cs' else cs) (fun hi=>?_) hr hs (fun v w' hr'=>hK v w' ?_)
  ·have hi:i=m:=hi;subst hi;rw[if_neg (by simp[hpi])]
  by_cases hi:i=m
  ·subst hi;simpa[cq] using hr'
  have hmi:(m==i)=false:=by simpa using Ne.symm hi
  simpa[cq,hi,hmi] using hr'
 ·intro j o ho hp;have hj:j<ops.size:=(Array.getElem?_eq_some_iff.1 ho).1;simp[hj]at hp
 ·exact Nat.le_trans (List.length_filter_le _ _) (by simp)
 ·have:i8 ops.size (fun j=>(Array.replicate ops.size false).getD j true)=[]:=by
   unfold i8;rw[List.filter_eq_nil_iff];intro j hj;have:=List.mem_range.1 hj;simp[this]
  rw[this];rfl
 have:(Array.replicate ops.size false).getD m true=false:=by simp[hm]
 simp only[this];exact hr'
theorem vi (m:Nat) {f:FuncId} {args:List TV} {res:CallRes} (hcon:jh P b ty f args cs res cs') (items:List (aH P)) (ow:List Nat) {id:Nat} {ops:Array Oper} (hL:jM ops m=true) (hF:items.all (fun c=>c.i !=m)=true) (hraw:kE args res cs'=true)
  (h: ∀K:AS->Prop,(∀s',Q .normal s' cs'->K s')->ca P (items.map aH.a++[⟨m,f,args,res⟩]) ow (bC ops ops.toList 0) (some s) K):gP P b ty (.region id ops false) Q s cs:=
 ES m hcon items ow hL hF hraw (h _ fun _ h=>h)
theorem rS (hmx:P.follows .mixedOrders=true) (m:Nat) {f:FuncId} {args:List TV} {res:CallRes} (hcon:jh P b ty f args cs res cs') (items:List (aH P)) (ow:List Nat) {id:Nat} {ops:Array Oper} (hd:cL [] ops=true) (hL:jM ops m=true) (hF:items.all (fun c=>c.i !=m)=true) (hraw:kE args res cs'=true)
  (h: ∀K:AS->Prop,(∀s',Q .normal s' cs'->K s')->ca P (items.map aH.a++[⟨m,f,args,res⟩]) ow (bC ops ops.toList 0) (some s) K):gP P b ty (.region id ops true) Q s cs:=
 ER hmx m hcon items ow hd hL hF hraw (h _ fun _ h=>h)
end
/-! A box of one's own is lent. -/
def lS (d b:Nat):AV->AV
 | .sl x r off len=>if x=d then .junk else .sl x r off len
 | .ptr x r i j=>if x=d then(if r=0/\i=0/\j=0 then .raw (.pointer (some ⟨b,0,none⟩))else .junk)else .ptr x r i j
 | .fn f x qs=>if x=d then .junk else .fn f x qs
 |x=>x
theorem Jj (d b:Nat):lf (lS d b):=fun f x qs=>by
 by_cases h:x=d
 ·exact .inl (if_pos h)
 exact .inr ⟨x,qs,if_neg h,rfl,fun n q hn=>⟨q,hn,if_neg h⟩⟩
def uR (d b:Nat):TV->TV
 | .one x=> .one (lS d b x)
 | .agg cs=> .agg (cs.map (lS d b))
 | .fn f cs=> .fn f (cs.map (lS d b))
 | .tup ts=> .tup (ts.map fun t=>(t.1,t.2.map (lS d b)))
end
theorem IE (w:World) (q:Nat) (os:Array Obj):Ext w (Sort.grow (w.drewN q) os):=
 ⟨rfl,rfl,rfl,by show w.heap.size<=(w.heap++os).size;simp,fun k hk=>by show(w.heap++os)[k]?=w.heap[k]?;rw[Array.getElem?_append_left hk]⟩
structure NItem where
 key:Int
 vals:List Int
 at_:Option Addr
 cap:Nat
 deriving Inhabited
def NItem.val (it:NItem):Value:= .slice it.at_ it.vals.length it.cap
def NItem.agg (it:NItem):Value:= .agg #[.int .i64 it.key,.slice it.at_ it.vals.length it.cap]
def gm (a b:NItem):Int:=E7 a.key a.vals b.key b.vals
def sD (a b:NItem):Bool:=gm a b==0
structure ItemOk (w:World) (g:Nat) (it:NItem):Prop where
 rd:RdI .i64 w it.at_ it.vals
 ne: ∀p,it.at_=some p->p.block≠g
 le:it.vals.length<=9223372036854775807
theorem ItemOk.ext {w w':World} {g:Nat} {it:NItem} (h:ItemOk w g it) (e:Ext w w'):ItemOk w' g it:=⟨h.rd.ext e,h.ne,h.le⟩
theorem RdI.setOther {k:IntKind} {w:World} {A:Option Addr} {zs:List Int} {g:Nat} (h:RdI k w A zs) (hne: ∀p,A=some p->p.block≠g) (p:Addr) (hp:p.block=g) (v:Value):RdI k (w.setCell p v) A zs:=fun hn=>by
 obtain⟨b,off,rfl,hc⟩:=h hn;refine⟨b,off,rfl,fun i x hx=>?_⟩;rw[World.cell?_setCell_other _ _ _ _ (fun e=>by have:=hne _ rfl;have e2:=congrArg Addr.block e;simp at e2 this;omega)];exact hc i x hx
theorem ItemOk.setCell {w:World} {g:Nat} {it:NItem} (h:ItemOk w g it) (p:Addr) (hp:p.block=g) (v:Value):ItemOk (w.setCell p v) g it:=⟨h.rd.setOther h.ne p hp v,h.ne,h.le⟩
theorem uK (a b:NItem) (w:World) (g:Nat) (ha:ItemOk w g a) (hb:ItemOk w g b):
  Calls Tryz.prog 132 #[a.agg,b.agg] w fun e w'=>e= .returned (.int .i64 (gm a b))/\Ext w w':=
 (jp a.key b.key a.at_ b.at_ a.cap b.cap a.vals b.vals w ha.rd hb.rd ha.le hb.le).mono fun _ _ ⟨he,q,os,hw⟩=>⟨he,by rw[hw];exact IE w q os⟩
theorem um (a b:NItem) (bx sx so:Nat) (w:World) (g:Nat) (ha:ItemOk w g a) (hb:ItemOk w g b) (h1:w.cell? ⟨bx,0,none⟩=some (.pointer (some ⟨sx,so,none⟩))) (h2:w.cell? ⟨sx,so+1,none⟩=some (.func (Fn.func 132) #[] #[])):
  Calls Tryz.prog 200 #[a.agg,b.agg,.pointer (some ⟨bx,0,none⟩)] w fun e w'=>e= .returned (.bool (sD a b))/\Ext w w':=by
 have HA:=Lib.hid ha;have HB:=Lib.hid hb;clear ha hb;unfold NItem.agg
 go_enter Tryz.func200,Tryz.ntmps200
 go_wp2_with fail
 obtain⟨c1,c2,c3,c4,he,hg⟩:=wC w (.int .i64 a.key) (.slice a.at_ a.vals.length a.cap) (.int .i64 b.key) (.slice b.at_ b.vals.length b.cap) 177;have h1':=he.cell h1;have h2':=he.cell h2;have HE:=Lib.hid he;clear he hg h1 h2;generalize(w.alloc (.cells #[.int .i64 a.key,.slice a.at_ a.vals.length a.cap] 177)).alloc (.cells #[.int .i64 b.key,.slice b.at_ b.vals.length b.cap] 177)=w2 at*
 refine cu 6 (by kernel_rfl) (by kernel_rfl) ?_;simp only[List.take_succ_cons,List.take_zero,List.drop_succ_cons,List.drop_zero];generalize w2.drew=w3 at*
 iterate 6 still_step
 refine wpStill_nil ?_;have HC:=Lib.hid (uK a b w3 g (HA.out.ext HE.out) (HB.out.ext HE.out));unfold NItem.agg at HC
 go_wp2_with fail
 refine HC.out.mono ?_;rintro e w' ⟨rfl,he⟩;have HE2:=Lib.hid (HE.out.trans he);clear he
 go_wp2_with fail
 go_ret
 exact⟨rfl,HE2.out⟩
theorem pf {g t N:Nat}: ∀(vs:List Value) (o:Nat) (w:World) (f:Nat->Value),w.rowIs g t N f-> ∃f',(w.setCells g o vs).rowIs g t N f'/\(∀j,j<o->f' j=f j)/\ ∀k,k≠g->(w.setCells g o vs).heap[k]?=w.heap[k]?
 |[],o,w,f,h=>⟨f,h,fun _ _=>rfl,fun _ _=>rfl⟩
 |v::r,o,w,f,h=>by
  obtain⟨f',h1,h2,h3⟩:=pf r (o+1) (w.setCell ⟨g,o,none⟩ v) _ (h.set o v);refine⟨f',h1,fun j hj=>?_,fun k hk=>?_⟩
  ·rw[h2 j (by omega),if_neg (by omega)]
  show((w.setCell ⟨g,o,none⟩ v).setCells g (o+1) r).heap[k]?=_;rw[h3 k hk,Below.heap_setCell _ _ _ _ hk]
theorem gH {w w':World} (h:Ext w w') (g:Nat):w.grownBy w' (some g):=⟨h.os,h.tape,h.output,h.size,fun k hk _=>h.block k hk⟩
theorem iZ {a b c:World} {g:Nat} (h:a.grownBy b (some g)) (k:b.grownBy c (some g)):a.grownBy c (some g):=
 ⟨k.os.trans h.os,k.tape.trans h.tape,k.output.trans h.output,Nat.le_trans h.size k.size,fun i hi hne=>(k.block i (Nat.lt_of_lt_of_le hi h.size) hne).trans (h.block i hi hne)⟩
theorem B5 {a b:World} {g:Nat} (h:a.grownBy b (some g)) (o:Nat) (v:Value):a.grownBy (b.setCell ⟨g,o,none⟩ v) (some g):=
 iZ h ⟨rfl,rfl,rfl,by simp[World.setCell],fun k _ hne=>Below.heap_setCell _ _ _ _ (fun e=>hne (by rw[e]))⟩
theorem qD {a b:World} {g:Nat}: ∀(vs:List Value) (o:Nat) {b:World},a.grownBy b (some g)->a.grownBy (b.setCells g o vs) (some g)
 |[],_,_,h=>h
 |v::r,o,_,h=>qD (b:=b) r (o+1) (B5 h o v)
theorem oC {w w':World} {g:Nat} (h:w.grownBy w' (some g)) {p:Addr} {v:Value} (hp:w.cell? p=some v) (hne:p.block≠g):w'.cell? p=some v:=
 h.cell hp (fun e=>hne (by injection e))
theorem RdI.gb {k:IntKind} {w w':World} {A:Option Addr} {zs:List Int} {g:Nat} (h:RdI k w A zs) (hne: ∀p,A=some p->p.block≠g) (hg:w.grownBy w' (some g)):RdI k w' A zs:=fun hn=>by
 obtain⟨b,off,rfl,hc⟩:=h hn;exact⟨b,off,rfl,fun i x hx=>oC hg (hc i x hx) (show b≠g from hne ⟨b,off,none⟩ rfl)⟩
section
section
variable {P:Program} {f:FuncId} {args:List TV} {res:CallRes}
theorem La {w w':World} {X:Nat->Prop} {v:Value} {t:TV} {fam:List OObj} {res:CallRes} (hw:bW ⟨[t],famH 0 fam⟩ ⟨[res.r],Hm [(0,res.fam)]⟩)
  (h: ∃ρ:Rho,Inv w (fun _=>False) X (famH 0 fam) ρ w'/\t.rel ρ (famH 0 fam) (Xo X ρ (famH 0 fam)) w' v):
  ∃ρ:Rho,Inv w (fun _=>False) X (famH 0 res.fam) ρ w'/\res.r.rel ρ (famH 0 res.fam) (Xo X ρ (famH 0 res.fam)) w' v:=by
 have e:Hm [(0,res.fam)]=famH 0 res.fam:=by funext a;rfl
 rw[e]at hw;obtain⟨ρ,hi,hr⟩:=h;obtain⟨_,_,ρ',hi',ht⟩:=hw w (fun _=>False) X ⟨#[v],[]⟩ w' ⟨rfl,rfl,ρ,hi,fun j x hx=>by
  match j,hx with
  |0,hx=>simp at hx;subst hx;exact⟨v,rfl,hr⟩
  |j+1,hx=>simp at hx⟩
 obtain⟨v',e1,r'⟩:=ht 0 _ rfl;simp at e1;subst e1;exact⟨ρ',hi',r'⟩
theorem CallC.weak {fam:List OObj} {t:TV} (h:CallC P f args ⟨fam,t⟩) (hw:bW ⟨[t],famH 0 fam⟩ ⟨[res.r],Hm [(0,res.fam)]⟩):CallC P f args res:=
 ⟨h.1,fun X w vs hX hs ha=>(h.2 X w vs hX hs ha).mono fun _ _ ⟨v,he,k⟩=>⟨v,he,La hw k⟩⟩
end
end
section
def QU (k:Nat) (f:List Nat->Int):Prop:= ∀xs c d ys,xs.length+ys.length+2=k->f (xs++c::d::ys)= - f (xs++d::c::ys)
theorem QU.cons {k:Nat} {f:List Nat->Int} (h:QU (k+1) f) (c:Nat):QU k (fun l=>f (c::l)):=fun xs a b ys hl=>h (c::xs) a b ys (by simp;omega)
theorem DW {r:Nat->Int}: ∀(cs:List Nat) {f g:List Nat->Int},(∀l,l.length+1=cs.length->f l= - g l)->dc r f cs= - dc r g cs
 |[],_,_,_=>rfl
 |c::cs,f,g,h=>by
  rw[dc,dc,h cs rfl,DW cs (f:=fun l=>f (c::l)) (g:=fun l=>g (c::l)) (fun l hl=>h (c::l) (by simp;omega))];grind
theorem Dt {r:Nat->Int}: ∀(xs:List Nat) (k:Nat) (f:List Nat->Int),QU k f-> ∀c d ys,xs.length+ys.length+2=k+1->dc r f (xs++c::d::ys)= - dc r f (xs++d::c::ys)
 |[],k,f,h,c,d,ys,hl=>by
  have e:=DW (r:=r) ys (f:=fun l=>f (c::d::l)) (g:=fun l=>f (d::c::l)) (fun l hl'=>h [] c d l (by simp at hl⊢;omega));simp only[List.nil_append,dc];rw[e];grind
 |x::xs,k,f,h,c,d,ys,hl=>by
  obtain⟨k,rfl⟩: ∃k',k=k'+1:=⟨k-1,by simp at hl;omega⟩;simp only[List.cons_append,dc];rw[Dt xs k _ (h.cons x) c d ys (by simp at hl;omega),h xs c d ys (by simp at hl;omega)];grind
theorem Cj (R:FF): ∀k,QU k (om R k)
 |0=>fun xs c d ys h=>by omega
 |k+1=>fun xs c d ys h=>Dt xs k _ (Cj R k) c d ys h
theorem wR {k:Nat} {f:List Nat->Int} (h:QU k f) (c:Nat) (ys:List Nat): ∀(xs zs:List Nat),zs.length+xs.length+ys.length+2=k->f (zs++c::(xs++c::ys))=0
 |[],zs,hl=>by
  have:=h zs c c ys (by simp at hl;omega);simp only[List.nil_append];omega
 |x::xs,zs,hl=>by
  have h1:=h zs c x (xs++c::ys) (by simp at hl⊢;omega);have h2:=wR h c ys xs (zs++[x]) (by simp at hl⊢;omega);rw[List.append_assoc]at h2;simp only[List.cons_append,List.nil_append]at h1 h2⊢;rw[h1,h2];rfl
/-! Columns. -/
theorem kD {r s:Nat->Int}: ∀(cs:List Nat) {f g:List Nat->Int},cs.Nodup->(∀c∈cs,r c=s c)->(∀l,l.length+1=cs.length->(∀c∈l,c∈cs)->l.Nodup->f l=g l)->dc r f cs=dc s g cs
 |[],_,_,_,_,_=>rfl
 |c::cs,f,g,hn,h,hf=>by
  obtain⟨hc,hn'⟩:=List.nodup_cons.1 hn;rw[dc,dc,h c List.mem_cons_self,hf cs rfl (fun d hd=>List.mem_cons_of_mem _ hd) hn',kD cs hn' (fun d hd=>h d (List.mem_cons_of_mem _ hd)) (fun l hl hs hl2=>hf (c::l) (by simp;omega) (fun d hd=>by
   rcases List.mem_cons.1 hd with rfl|hd
   ·exact List.mem_cons_self
   exact List.mem_cons_of_mem _ (hs d hd)) (List.nodup_cons.2 ⟨fun h=>hc (hs c h),hl2⟩))]
def dq (R:FF) (a:Nat) (S:Nat->Int):Nat->Nat->Int:=fun i c=>if c=a then S i else R i c
theorem mm (R:FF) (a:Nat):dq R a (fun i=>R i a)=R:=by
 funext i c;unfold dq;split
 ·rename_i h;rw[h]
 rfl
theorem DV {a:Nat} {u t s s':Int} {r:Nat->Int}: ∀(cs:List Nat) (f fS fT:List Nat->Int),cs.Nodup->a∈cs->
  (∀l,l.length+1=cs.length->(∀c∈l,c∈cs)->l.Nodup->(a∈l->f l=u*fS l+t*fT l)/\(a∉l->fS l=f l/\fT l=f l))->
  dc (fun c=>if c=a then u*s+t*s' else r c) f cs=u*dc (fun c=>if c=a then s else r c) fS cs+t*dc (fun c=>if c=a then s' else r c) fT cs
 |[],_,_,_,_,h,_=>by simp at h
 |c::cs,f,fS,fT,hn,ha,h=>by
  obtain⟨hc,hn'⟩:=List.nodup_cons.1 hn;have hsub: ∀l:List Nat,(∀c∈l,c∈cs)-> ∀d∈c::l,d∈c::cs:=fun l hs d hd=>by
   rcases List.mem_cons.1 hd with rfl|hd
   ·exact List.mem_cons_self
   exact List.mem_cons_of_mem _ (hs d hd)
  obtain⟨h1,h2⟩:=h cs rfl (fun d hd=>List.mem_cons_of_mem _ hd) hn';rw[dc,dc,dc];by_cases e:c=a
  ·subst e;obtain⟨h3,h4⟩:=h2 hc;have e0: ∀d∈cs,d≠c:=fun d hd e=>hc (e▸hd)
   have e1:dc (fun d=>if d=c then u*s+t*s' else r d) (fun l=>f (c::l)) cs=dc r (fun l=>u*fS (c::l)+t*fT (c::l)) cs:=
    kD cs hn' (fun d hd=>by simp[e0 d hd]) (fun l hl hs hl2=>(h (c::l) (by simp;omega) (hsub l hs) (List.nodup_cons.2 ⟨fun h=>hc (hs c h),hl2⟩)).1 List.mem_cons_self)
   have e2:dc (fun d=>if d=c then s else r d) (fun l=>fS (c::l)) cs=dc r (fun l=>fS (c::l)) cs:=kD cs hn' (fun d hd=>by simp[e0 d hd]) (fun _ _ _ _=>rfl);have e3:dc (fun d=>if d=c then s' else r d) (fun l=>fT (c::l)) cs=dc r (fun l=>fT (c::l)) cs:=kD cs hn' (fun d hd=>by simp[e0 d hd]) (fun _ _ _ _=>rfl);rw[e1,e2,e3,sV,h3,h4];simp only[if_pos];grind
  have ha':a∈cs:=by
   rcases List.mem_cons.1 ha with h|h
   ·exact absurd h.symm e
   exact h
  have ih:=DV (u:=u) (t:=t) (s:=s) (s':=s') (r:=r) cs (fun l=>f (c::l)) (fun l=>fS (c::l)) (fun l=>fT (c::l)) hn' ha' (fun l hl hs hl2=>by
   obtain⟨q1,q2⟩:=h (c::l) (by simp;omega) (hsub l hs) (List.nodup_cons.2 ⟨fun h=>hc (hs c h),hl2⟩);exact⟨fun hal=>q1 (List.mem_cons_of_mem _ hal),fun hal=>q2 (fun h=>by
    rcases List.mem_cons.1 h with h|h
    ·exact e h.symm
    exact hal h)⟩)
  rw[ih,h1 ha'];simp only[if_neg e];grind
theorem JG {R:FF} {a:Nat} {u t:Int} {S T:Nat->Int}: ∀(k:Nat) (cs:List Nat),cs.Nodup->cs.length=k->a∈cs->
  om (dq R a (fun i=>u*S i+t*T i)) k cs=u*om (dq R a S) k cs+t*om (dq R a T) k cs
 |0,cs,_,hl,ha=>by rw[List.length_eq_zero_iff.1 hl]at ha;simp at ha
 |k+1,cs,hn,hl,ha=>by
  refine DV (r:=R k) (s:=S k) (s':=T k) cs _ _ _ hn ha (fun l hl' hs hl2=>⟨fun hal=>JG k l hl2 (by omega) hal,fun hal=>?_⟩);have hne: ∀c∈l,c≠a:=fun c hc e=>hal (e▸hc)
  exact⟨mA fun i _ c hc=>by simp[dq,hne c hc],mA fun i _ c hc=>by simp[dq,hne c hc]⟩
theorem DX {r:Nat->Int} (p:Nat->Nat): ∀(cs:List Nat) (f:List Nat->Int),dc (fun c=>r (p c)) (fun l=>f (l.map p)) cs=dc r f (cs.map p)
 |[],_=>rfl
 |c::cs,f=>by
  rw[dc,List.map_cons,dc];have:=DX (r:=r) p cs (fun l=>f (p c::l));rw[<- this];rfl
theorem JH {R:FF} (p:Nat->Nat): ∀(k:Nat) (cs:List Nat),om (fun i c=>R i (p c)) k cs=om R k (cs.map p)
 |0,_=>rfl
 |k+1,cs=>by
  have e:om (fun i c=>R i (p c)) k=fun l=>om R k (l.map p):=funext (JH p k)
  show dc (fun c=>R k (p c)) (om (fun i c=>R i (p c)) k) cs=_;rw[e,DX p cs (om R k)];rfl
theorem JI {R:FF} {a b k:Nat} {cs:List Nat} (hn:cs.Nodup) (hl:cs.length=k) (ha:a∈cs) (hb:b∈cs) (hab:a≠b):om (dq R a (fun i=>R i b)) k cs=0:=by
 have e:dq R a (fun i=>R i b)=fun i c=>R i (if c=a then b else c):=by
  funext i c;unfold dq;split<;>rfl
 rw[e,JH (R:=R) (fun c=>if c=a then b else c)];obtain⟨s,t,rfl⟩:=List.append_of_mem ha;have hb':b∈s\/b∈t:=by
  rcases List.mem_append.1 hb with h|h
  ·exact .inl h
  rcases List.mem_cons.1 h with h|h
  ·exact absurd h.symm hab
  exact .inr h
 rcases hb' with h|h
 ·obtain⟨x,y,rfl⟩:=List.append_of_mem h;simp only[List.map_append,List.map_cons,if_pos,if_neg (Ne.symm hab),List.append_assoc,List.cons_append];exact wR (Cj R k) b _ _ _ (by simp at hl⊢;omega)
 obtain⟨x,y,rfl⟩:=List.append_of_mem h;simp only[List.map_append,List.map_cons,if_pos,if_neg (Ne.symm hab)];exact wR (Cj R k) b _ _ _ (by simp at hl⊢;omega)
theorem sk: ∀n,(pK n).length=n
 |0=>rfl
 |n+1=>by rw[pK,List.length_cons,sk n]
theorem pL: ∀n,(pK n).Nodup
 |0=>List.nodup_nil
 |n+1=>List.nodup_cons.2 ⟨fun h=>by have:=jI h;omega,pL n⟩
theorem xc {n c:Nat} (h:c<n):c∈pK n:=by
 induction n with
 |zero=>omega
 |succ n ih=>
  by_cases e:c=n
  ·rw[e];exact List.mem_cons_self
  exact List.mem_cons_of_mem _ (ih (by omega))
section
variable {R:FF} {n a b:Nat} (ha:a<n)
include ha
theorem pN (u t:Int) (S T:Nat->Int):dk (dq R a (fun i=>u*S i+t*T i)) n=u*dk (dq R a S) n+t*dk (dq R a T) n:=JG n _ (pL n) (sk n) (xc ha)
theorem ss (hb:b<n) (hab:a≠b):dk (dq R a (fun i=>R i b)) n=0:=JI (pL n) (sk n) (xc ha) (xc hb) hab
theorem DG {S:Nat->Int} (h: ∀i,i<n->S i=0):dk (dq R a S) n=0:=by
 have h1:=pN (R:=R) (n:=n) ha 0 0 S S;have h2:dk (dq R a S) n=dk (dq R a (fun i=>0*S i+0*S i)) n:=ot fun i j hi _=>by
  unfold dq;split
  ·show S i=0*S i+0*S i;rw[h i hi];rfl
  rfl
 rw[h2,h1];omega
theorem mn (hb:b<n) (hab:a≠b) (t:Int):dk (dq R a (fun i=>R i a+t*R i b)) n=dk R n:=by
 have h1:=pN (R:=R) (n:=n) ha 1 t (fun i=>R i a) (fun i=>R i b);rw[mm,ss ha hb hab]at h1;simp only[Int.one_mul,Int.mul_zero,Int.add_zero]at h1;exact h1
theorem vz:dk (dq R a (fun i=> - R i a)) n= - dk R n:=by
 have h1:=pN (R:=R) (n:=n) ha (-1) 0 (fun i=>R i a) (fun i=>R i a);rw[mm]at h1;have e:(fun i=> -1*R i a+0*R i a)=fun i=> - R i a:=by funext i;omega
 rw[e]at h1;rw[h1];omega
end
theorem BE {R:FF} {n a b:Nat} (ha:a<n) (hb:b<n) (hab:a≠b):dk (fun i c=>if c=a then R i b else if c=b then R i a else R i c) n= - dk R n:=by
 have h1:=mn (R:=R) ha hb hab 1;generalize hR1:dq R a (fun i=>R i a+1*R i b)=R1 at h1;have h2:=mn (R:=R1) hb ha (Ne.symm hab) (-1);generalize hR2:dq R1 b (fun i=>R1 i b+ -1*R1 i a)=R2 at h2;have h3:=mn (R:=R2) ha hb hab 1;generalize hR3:dq R2 a (fun i=>R2 i a+1*R2 i b)=R3 at h3;have h4:=vz (R:=R3) hb;rw[h3,h2,h1]at h4;rw[<- h4]
 congr 1
 funext i c;subst hR3 hR2 hR1;unfold dq;by_cases e1:c=a
 ·subst e1;simp[hab];omega
 by_cases e2:c=b
 ·subst e2;simp[Ne.symm hab];omega
 simp[e1,e2]
/-! Rows exchanged. -/
theorem Po (n:Nat):dk (fun i j=>if i=j then 1 else 0) n=1:=by
 induction n with
 |zero=>rfl
 |succ n ih=>
  rw[bT,bk,dc,mp (pK n) _ (fun c hc=>by have:=jI hc;simp;omega)];unfold dk at ih;rw[ih];simp
end
theorem fF: ∀x:List Int,cB x x=0
 |[]=>rfl
 |a::x=>by simp[cB,fF x]
theorem mj: ∀{x y:List Int},cB x y=0->x=y
 |[],[],_=>rfl
 |[],_::_,h=>by simp[cB]at h
 |_::_,[],h=>by simp[cB]at h
 |a::x,b::y,h=>by
  unfold cB at h;split at h
  ·omega
  split at h
  ·omega
  rw[mj h,show a=b from by omega]
theorem Kc (A B:Option Addr) (c d:Nat) (a b:List (List Int)) (w:World) (ha:pC .i64 w A a) (hb:pC .i64 w B b) (la:a.length<=9223372036854775807) (lb:b.length<=9223372036854775807):
  Calls Tryz.prog 17 #[.slice A a.length c,.slice B b.length d] w fun e w'=>e= .returned (.bool (decide (a=b)))/\Ext w w':=by
 have HA:=Lib.hid ha;have HB:=Lib.hid hb;clear ha hb;by_cases hl:a.length=b.length
 ·have hlb:((a.length:Int) !=(b.length:Int))=false:=by simp[hl]
  have HL:=Lib.hid hl;have hle:a.length<=b.length:=by omega
  clear hl
  go_enter Tryz.func17,Tryz.ntmps17
  go_wp2_with fail
  clear hlb
  go_loopw [13,5] (fun i _ wr=> ∃k:Nat,k<=a.length/\i= .int .i64 k/\Hid (Ext w wr)/\Hid (∀j,j<k->a[j]?=b[j]?)) (fun i _ _=>a.length-(intOf i).toNat)
  case atStart=>exact⟨0,Nat.zero_le _,rfl,Lib.hid (Ext.refl _),Lib.hid (fun j h=>by omega)⟩
  case round=>
   obtain⟨k,hk,rfl,HE,HQ⟩:=hrel;by_cases hlt:k<a.length
   ·obtain⟨x,hx⟩:=getElem?_of_lt hlt;obtain⟨y,hy⟩:=getElem?_of_lt (l:=b) (k:=k) (by omega);obtain⟨b1,o1,B1,c1,rfl,hc1,hcl1,hlx,hr1⟩:=(HA.out.ext HE.out.drew).at_ hx;obtain⟨b2,o2,B2,c2,rfl,hc2,hcl2,hly,hr2⟩:=(HB.out.ext HE.out.drew).at_ hy;have HX:=Lib.hid hx;have HY:=Lib.hid hy;have HR1:=Lib.hid hr1;have HR2:=Lib.hid hr2;have HE1:=Lib.hid HE.out.drew;have hkb:(k:Int)<(b.length:Int):=by omega
    clear hx hy hr1 hr2 HE
    go_wp2_with fail
    refine cu 8 (by kernel_rfl) (by kernel_rfl) ?_;simp only[List.take_succ_cons,List.take_zero,List.drop_succ_cons,List.drop_zero];generalize wr.drew=w3 at*
    iterate 8 still_step
    refine wpStill_nil ?_;have HC:=Lib.hid (l7 B1 B2 c1 c2 x y w3 HR1.out HR2.out hlx hly);clear hc1 hc2;by_cases h0:cB x y=0
    ·have h0':(cB x y !=0)=false:=by simp[h0]
     have H0:=Lib.hid h0;clear h0
     go_wp2_with fail
     refine HC.out.mono ?_;rintro e w4 ⟨rfl,n,rfl⟩
     go_wp2_with fail
     go_roundw
     case rel=>
      refine⟨k+1,by omega,by go_num,Lib.hid (HE1.out.drewN n),Lib.hid (fun j hj=>?_)⟩;by_cases e:j=k
      ·subst e;rw[HX.out,HY.out,mj H0.out]
      exact HQ.out j (by omega)
     case measure=>simp[intOf];omega
    have h0':(cB x y !=0)=true:=by simp[h0]
    go_wp2_with fail
    refine HC.out.mono ?_;rintro e w4 ⟨rfl,n,rfl⟩
    go_wp2_with fail
    go_ret
    refine⟨dE (fun h=>?_),HE1.out.drewN n⟩;subst h;have h1:=HX.out;rw[HY.out]at h1;cases h1;exact h0 (fF _)
   go_wp2_with fail
   go_ret
   refine⟨xL ?_,HE.out⟩;apply List.ext_getElem?;intro j;rcases Nat.lt_or_ge j a.length with h|h
   ·exact HQ.out j (by omega)
   rw[List.getElem?_eq_none h,List.getElem?_eq_none (by have:=HL.out;omega)]
 have hlb:((a.length:Int) !=(b.length:Int))=true:=by simp;omega
 go_enter Tryz.func17,Tryz.ntmps17
 go_wp2_with fail
 go_ret
 exact⟨dE (fun h=>hl (by rw[h])),Ext.refl _⟩
end Go.Proofs.YtalmoejhjceflaaGreat
namespace Go.Proofs
open Go.Shelf
def Tryz.lays129_ren:Go.Shelf.Ren:=⟨fun|129=>185|n=>n,fun|53=>116|3=>3|4=>4|46=>164|5=>5|9=>9|n=>n,fun|n=>n⟩
theorem Tryz.lays129:Go.Proofs.Lays.n129 Tryz.prog Tryz.lays129_ren:={
 mixed:=by kernel_rfl
 f129:=Tryz.func185.trans (congrArg some (by kernel_rfl))
 t3:=Tryz.underlying3
 a3:=Tryz.isAgg3
 z3:=Tryz.sizeOf3
 v3:=Tryz.zeroValue3
 t4:=Tryz.underlying4
 a4:=Tryz.isAgg4
 z4:=Tryz.sizeOf4
 v4:=Tryz.zeroValue4
 t5:=Tryz.underlying5
 a5:=Tryz.isAgg5
 z5:=Tryz.sizeOf5
 v5:=Tryz.zeroValue5
 t9:=Tryz.underlying9
 a9:=Tryz.isAgg9
 z9:=Tryz.sizeOf9
 v9:=Tryz.zeroValue9
 t46:=Tryz.underlying164
 a46:=Tryz.isAgg164
 z46:=Tryz.sizeOf164
 v46:=Tryz.zeroValue164
 t53:=Tryz.underlying116
 a53:=Tryz.isAgg116
 z53:=Tryz.sizeOf116
 v53:=Tryz.zeroValue116}
end Go.Proofs
namespace Go.Proofs.YtalmoejhjceflaaGreat
open Go.RowKit
section
theorem rU {a:Act} {d:Option Tmp} {k:Nat} (v:Value) (h:d≠some k):(a.put d v).tmps[k]?=a.tmps[k]?:=by
 cases d with
 |none=>rfl
 |some d=>
  have:d≠k:=fun e=>h (by rw[e])
  simp[Act.put,Array.getElem?_setIfInBounds_ne this]
def mX (k:Nat) (v0:Value) (w0:World) (O X:Nat->Prop) (s:AS) (a:Act) (w:World):Prop:=cW w0 O X s a w/\a.tmps[k]?=some v0
def fK (P:Program) (k:Nat) (c:Code) (Q:Exit->AS->Prop) (s:AS):Prop:=
 ∀(v0:Value) (w0:World) (O X:Nat->Prop) (a:Act) (w:World),mX k v0 w0 O X s a w->c.wp P (fun e a' w'=> ∃s',Q e s'/\mX k v0 w0 O X s' a' w') a w
def kX (k:Nat) (ops:Array Oper):Bool:=ops.toList.all fun o=>o.dst !=some k
section
variable {P:Program} {k:Nat} {s s':AS} {Q:Exit->AS->Prop}
theorem mX.weak {v0:Value} {w0 w:World} {O X:Nat->Prop} {a:Act} (h:bW s s') (r:mX k v0 w0 O X s a w):mX k v0 w0 O X s' a w:=⟨h _ _ _ _ _ r.1,r.2⟩
theorem fK.weak {c:Code} (h:bW s s') (r:fK P k c Q s'):fK P k c Q s:=fun _ _ _ _ _ _ q=>r _ _ _ _ _ _ (q.weak h)
theorem fK.mono {c:Code} {Q':Exit->AS->Prop} (h:fK P k c Q s) (q: ∀e s',Q e s'->Q' e s'):fK P k c Q' s:=fun _ _ _ _ _ _ r=>
 wp_mono (h _ _ _ _ _ _ r) fun _ _ _ ⟨s',h1,h2⟩=>⟨s',q _ _ h1,h2⟩
theorem gU (h:Q .normal s):fK P k .skip Q s:=fun _ _ _ _ _ _ r=>wp_skip ⟨s,h,r⟩
theorem lk {id:Nat} (h:Q (.exit id) s):fK P k (.exit id) Q s:=fun _ _ _ _ _ _ r=>wp_exit ⟨s,h,r⟩
theorem nT (h:Q .ret s):fK P k .ret Q s:=fun _ _ _ _ _ _ r=>wp_ret ⟨s,h,r⟩
theorem cG {x y:Code} (h:fK P k x (mc (fK P k y Q) Q) s):fK P k (.seq x y) Q s:=fun _ _ _ _ _ _ r=>
 wp_seq (wp_mono (h _ _ _ _ _ _ r) fun e a w ⟨s',h1,h2⟩=>by
  cases e with
  |normal=>exact h1 _ _ _ _ _ _ h2
  |_=>exact⟨s',h1,h2⟩)
theorem fE {id:Nat} {x:Code} (h:fK P k x (lF id Q) s):fK P k (.block id x) Q s:=fun _ _ _ _ _ _ r=>
 wp_block (wp_mono (h _ _ _ _ _ _ r) fun e a w ⟨s',h1,h2⟩=>by
  cases e with
  |exit id'=>
   simp only[lF]at h1;simp only[Exit.inBlock];split at h1
   ·rename_i hid;rw[if_pos hid];exact⟨s',h1,h2⟩
   rename_i hid;rw[if_neg hid];exact⟨s',h1,h2⟩
  |_=>exact⟨s',h1,h2⟩)
theorem yu {c:Operand} {x y:Code} {b:Bool} (hc:s.ev c=some (.raw (.bool b))) (ht:b=true->fK P k x Q s) (hf:b=false->fK P k y Q s):fK P k (.cond c x y) Q s:=fun _ _ _ _ _ _ r=>by
 obtain⟨h1,hsz,ρ,hinv,htm⟩:=id r.1;have hb:=(bs (bD htm c _ hc)).1;exact wp_cond_split hb (fun h=>ht h _ _ _ _ _ _ r) (fun h=>hf h _ _ _ _ _ _ r)
theorem lj {c:Operand} {x y:Code} (hc:s.ev c=some (.raw (.bool true))) (h:fK P k x Q s):fK P k (.cond c x y) Q s:=yu hc (fun _=>h) (fun h=>by cases h)
theorem m0 {c:Operand} {x y:Code} (hc:s.ev c=some (.raw (.bool false))) (h:fK P k y Q s):fK P k (.cond c x y) Q s:=yu hc (fun h=>by cases h) (fun _=>h)
theorem wM {c:Operand} {y z:Code} (hc:s.ev c=some (.raw (.bool true))) (h:fK P k z Q s):fK P k (.seq (.cond c .skip y) z) Q s:=cG (lj hc (gU h))
theorem wL {c:Operand} {x z:Code} {id:Nat} (hc:s.ev c=some (.raw (.bool false))) (h:Q (.exit id) s):fK P k (.seq (.cond c x (.exit id)) z) Q s:=cG (m0 hc (lk h))
theorem Ht {G:Type} (St:G->AS) (μ:G->Nat) (g0:G) {c:Code} (h0:bW s (St g0))
  (round: ∀g,fK P k c (mc (fun s'=> ∃g',μ g'<μ g/\bW s' (St g')) Q) (St g)):fK P k (.loop c) Q s:=fun v0 w0 O X a w r=>by
 classical
 let p:Act->World->Nat->Prop:=fun a w n=> ∃g,μ g=n/\mX k v0 w0 O X (St g) a w
 let m:Act->World->Nat:=fun a w=>if h: ∃n,p a w n then Classical.choose (bF h)else 0
 refine wp_loop (fun a w=> ∃n,p a w n) m ⟨_,g0,rfl,r.weak h0⟩ ?_;intro a w hI;have hm:m a w=Classical.choose (bF hI):=dif_pos hI;obtain⟨hp,hleast⟩:=Classical.choose_spec (bF hI);rw[<- hm]at hp;obtain⟨g,hg,hr⟩:=hp;refine wp_mono (round g _ _ _ _ _ _ hr) fun e a' w' ⟨s',h1,h2⟩=>?_
 cases e with
 |normal=>
  obtain⟨g',hlt,hw⟩:=h1;have hr':=h2.weak hw;have hI': ∃n,p a' w' n:=⟨_,g',rfl,hr'⟩;refine⟨hI',?_⟩;have hm':m a' w'=Classical.choose (bF hI'):=dif_pos hI';obtain⟨_,hl'⟩:=Classical.choose_spec (bF hI');have:=hl' (μ g') ⟨g',rfl,hr'⟩;rw[hm'];omega
 |_=>exact⟨s',h1,h2⟩
theorem lw {G:Type} (St:G->AS) (μ:G->Nat) (g0:G) {id:Nat} {x:Code} (h0:bW s (St g0))
  (round: ∀g,fK P k x (mc (fun s'=> ∃g',μ g'<μ g/\bW s' (St g')) (lF id Q)) (St g)):fK P k (.block id (.loop x)) Q s:=
 fE (Ht St μ g0 h0 round)
theorem Ox {items:List (cQ P)} (hI:fL P items) {ow:List Nat} {ops:Array Oper} {i:Nat} {v0:Value} {w0 w:World} {O X:Nat->Prop} {a:Act} (hrel:mX k v0 w0 O X s a w) {o:Oper} (hd:o.dst≠some k) (h:bf P items ow ops i o s=some s') {K:Act->World->Prop} {Q:Exit->Act->World->Prop}
  (hK: ∀v w',mX k v0 w0 O X s' (a.put o.dst v) w'->K (a.put o.dst v) w'):if Region.wanted o (yielded ops a.tmps)then o.wp P a w K Q else K (a.put o.dst undef) w:=
 gA hI hrel.1 h fun v w' hr=>hK v w' ⟨hr,by rw[rU v hd];exact hrel.2⟩
theorem th {ops:Array Oper} (h:kX k ops=true) {j:Nat} {o:Oper} (ho:ops[j]?=some o):o.dst≠some k:=by
 unfold kX at h;rw[aj]at h;have:=h o (ax (by simpa using ho));simpa using this
theorem tO {items:List (cQ P)} (hI:fL P items) {ow:List Nat} {ops:Array Oper} (hk:kX k ops=true) {v0:Value} {w0:World} {O X:Nat->Prop} {Q:Exit->Act->World->Prop}: ∀(l:List Oper) (n:Nat) (s s':AS) (a:Act) (w:World),(∀(j:Nat) o,l[j]?=some o->ops[n+j]?=some o)->
  eD P items ow ops (l.zipIdx n) s=some s'->mX k v0 w0 O X s a w->(∀a' w',mX k v0 w0 O X s' a' w'->Q .normal a' w')->wpOps P ops Q (List.range' n l.length) a w
 |[],n,s,s',a,w,_,h,r,hQ=>by
  simp only[List.zipIdx_nil,eD]at h;injection h with h
  subst h;exact hQ a w r
 |o::l,n,s,s',a,w,hl,h,r,hQ=>by
  simp only[List.zipIdx_cons,eD]at h;split at h
  ·rename_i s1 hs1;simp only[List.length_cons,List.range'_succ,wpOps];have ho:ops[n]?=some o:=by have:=hl 0 o rfl;simpa using this
   rw[ho];simp only;have:=Ox (Q:=Q) hI r (th hk ho) hs1 (K:=wpOps P ops Q (List.range' (n+1) l.length)) (fun v w' hr=>tO hI hk l (n+1) s1 s' _ _ (fun j o hj=>by have:=hl (j+1) o (by simpa using hj);rwa[show n+(j+1)=n+1+j by omega]at this) h hr hQ);split at this
   ·rename_i hw;rw[if_pos hw];exact .inl this
   rename_i hw;rw[if_neg hw];exact this
  cases h
theorem Dm (items:List (aH P)) (ow:List Nat) {id:Nat} {ops:Array Oper} (hk:kX k ops=true) (h:ca P (items.map aH.a) ow (bC ops ops.toList 0) (some s) (Q .normal)):fK P k (.region id ops false) Q s:=fun v0 w0 O X a w r=>by
 obtain⟨s',h1,h2⟩:=bi P (items.map aH.a) ow ops ops.toList 0 s (Q .normal) h;refine wp_region ?_;rw[List.range_eq_range'];have:=tO (aH.ok items) hk (Q:=fun e a' w'=> ∃s',Q e s'/\mX k v0 w0 O X s' a' w') ops.toList 0 s s' a w (fun j o hj=>by simpa using hj) h1 r (fun a' w' hr=>⟨s',h2,hr⟩);simpa using this
theorem Hs (hmx:P.follows .mixedOrders=true) (items:List (aH P)) (ow:List Nat) {id:Nat} {ops:Array Oper} (hd:cL [] ops=true) (hk:kX k ops=true) (h:ca P (items.map aH.a) ow (bC ops ops.toList 0) (some s) (Q .normal)):fK P k (.region id ops true) Q s:=fun v0 w0 O X a w r=>by
 obtain⟨sF,h1,h2⟩:=bi P (items.map aH.a) ow ops ops.toList 0 s (Q .normal) h;refine wp_region_any hmx ?_;have hF:cn P (items.map aH.a) ow ops (List.range ops.size) s=some sF:=by
  rw[List.range_eq_range'];have:=dW (P:=P) (items:=items.map aH.a) (ow:=ow) ops.toList 0 s (fun j o hj=>by simpa using hj);rw[h1]at this;simpa using this.symm
 have hr':mX k v0 w0 O X s a {w with drawn:=w.drawn+1}:=by
  obtain⟨⟨q1,q2,ρ,hinv,htm⟩,hs⟩:=r;have e:Ext w {w with drawn:=w.drawn+1}:=⟨rfl,rfl,rfl,ae _,fun _ _=>rfl⟩;have htm:bq X ρ s a w:=htm;exact⟨⟨q1,q2,ρ,hinv.grow e,htm.grow e⟩,hs⟩
 refine m7 (sep:=[]) (ia hd (by simp)) hd (Q:=fun e a' w'=> ∃s',Q e s'/\mX k v0 w0 O X s' a' w') (fun _ s a w=>mX k v0 w0 O X s a w) ⟨cO r.1,fun x hx=>by simp at hx⟩ hF (fun p a w hall hr=>⟨sF,h2,hr⟩) (fun p i o s s1 a w K ho hpi _ hs hr hK=>?_) ops.size (Array.replicate ops.size false) s a _ (by simp) ?_ ?_ ?_ hr'
 ·exact Ox (aH.ok items) hr (th hk ho) hs fun v w' hr'=>hK v w' hr'
 ·intro j o ho hp;have hj:j<ops.size:=(Array.getElem?_eq_some_iff.1 ho).1;simp[hj]at hp
 ·exact Nat.le_trans (List.length_filter_le _ _) (by simp)
 have:i8 ops.size (fun j=>(Array.replicate ops.size false).getD j true)=[]:=by
  unfold i8;rw[List.filter_eq_nil_iff];intro j hj;have:=List.mem_range.1 hj;simp[this]
 rw[this];rfl
theorem yv (items:List (aH P)) (ow:List Nat) {id:Nat} {ops:Array Oper} {y:Code} (hk:kX k ops=true) (h: ∀K:AS->Prop,(∀s',fK P k y Q s'->K s')->ca P (items.map aH.a) ow (bC ops ops.toList 0) (some s) K):fK P k (.seq (.region id ops false) y) Q s:=
 cG (Dm items ow hk (h _ fun _ h=>h))
theorem Hu (items:List (aH P)) (ow:List Nat) {id:Nat} {ops:Array Oper} (hk:kX k ops=true) (h: ∀K:AS->Prop,(∀s',Q .normal s'->K s')->ca P (items.map aH.a) ow (bC ops ops.toList 0) (some s) K):fK P k (.region id ops false) Q s:=
 Dm items ow hk (h _ fun _ h=>h)
theorem ve (hmx:P.follows .mixedOrders=true) (items:List (aH P)) (ow:List Nat) {id:Nat} {ops:Array Oper} {y:Code} (hd:cL [] ops=true) (hk:kX k ops=true) (h: ∀K:AS->Prop,(∀s',fK P k y Q s'->K s')->ca P (items.map aH.a) ow (bC ops ops.toList 0) (some s) K):fK P k (.seq (.region id ops true) y) Q s:=
 cG (Hs hmx items ow hd hk (h _ fun _ h=>h))
theorem aV {y:Code} {id:Nat} {ops:Array Oper} (hk:kX k ops=true) (h: ∀K:AS->Prop,(∀s',fK P k y Q s'->K s')->ca P [] [] (bC ops ops.toList 0) (some s) K):fK P k (.seq (.region id ops false) y) Q s:=yv [] [] hk h
theorem dQ {id:Nat} {ops:Array Oper} (hk:kX k ops=true) (h: ∀K:AS->Prop,(∀s',Q .normal s'->K s')->ca P [] [] (bC ops ops.toList 0) (some s) K):fK P k (.region id ops false) Q s:=Hu [] [] hk h
theorem gu (hm:P.follows .mixedOrders=true) {y:Code} {id:Nat} {ops:Array Oper} (hd:cL [] ops=true) (hk:kX k ops=true) (h: ∀K:AS->Prop,(∀s',fK P k y Q s'->K s')->ca P [] [] (bC ops ops.toList 0) (some s) K):fK P k (.seq (.region id ops true) y) Q s:=ve hm [] [] hd hk h
end
/-! The contract of a function that writes a row. -/
def rho1 (b c:Nat):Rho:=fun a r=>if a=0/\r=0 then some (b,c)else none
structure qo (P:Program) (f:FuncId) (args:List TV) (k off len:Nat) (o o':OObj) (r:TV):Prop where
 able:callable P f=true
 es:o'.es=o.es
 size:o'.elems.length=o.elems.length
 pure: ∀e∈o'.elems,∀x∈e,isPure x=true
 noref:noRefTV r=true
 calls: ∀(X:Nat->Prop) (w:World) (vs:Array Value) (b c:Nat),(∀j,X j->j<w.heap.size)-> ¬X b->objRel (rho1 b c) (famH 0 [o]) (fun j=>X j\/j=b) w 0 0 o->vs.size=args.length->
  vs[k]?=some (.slice (some ⟨b,off*o.es,none⟩) len (c-off))->(∀(j:Nat) t,j≠k->args[j]?=some t-> ∃v:Value,vs[j]?=some v/\t.rel (fun _ _=>none) (fun _=>[]) (fun j=>X j\/j=b) w v)->
  Calls P f vs w fun e w'=> ∃v,e= .returned v/\But b w w'/\objRel (rho1 b c) (famH 0 [o']) (fun j=>X j\/j=b) w' 0 0 o'/\r.rel (rho1 b c) (famH 0 [o']) (fun j=>X j\/j=b) w' v
theorem Ti {X:Nat->Prop} {b c:Nat} {o:OObj}:Xo X (rho1 b c) (famH 0 [o])=fun j=>X j\/j=b:=by
 funext j;apply propext;constructor
 ·rintro(h|⟨a,r,o',c',h1,h2⟩)
  ·exact .inl h
  unfold rho1 at h2;split at h2
  ·injection h2 with h2;injection h2 with h2 h3;exact .inr h2.symm
  cases h2
 rintro(h|rfl)
 ·exact .inl h
 exact .inr ⟨0,0,o,c,rfl,by simp[rho1]⟩
theorem ox {a r:Nat} {o o':OObj} (h:(famH 0 [o] a)[r]?=some o'):a=0/\r=0/\o'=o:=by
 unfold famH at h;split at h
 ·rename_i ha;cases r with
  |zero=>simp at h;exact⟨ha,rfl,h.symm⟩
  |succ r=>simp at h
 simp at h
theorem lW {ρ ρ':Rho} {H H':OH} {Y:Nat->Prop} {w:World} {a r a' r':Nat} {o:OObj} (hp: ∀e∈o.elems,∀x∈e,isPure x=true) (h:objRel ρ H Y w a r o) (hρ:ρ' a' r'=ρ a r):objRel ρ' H' Y w a' r' o:=by
 obtain⟨h1,h2,h3⟩:=h;refine⟨h1,h2,?_⟩;rw[hρ];cases hr:ρ a r with
 |none=>rw[hr]at h3;exact h3
 |some bc=>
  obtain⟨b,c⟩:=bc;rw[hr]at h3;obtain⟨cells,g1,g2,g3,g4,g5⟩:=h3;refine⟨cells,g1,g2,g3,g4,fun i e j x he hx=>?_⟩;obtain⟨v,v1,v2,v3⟩:=g5 i e j x he hx;refine⟨v,v1,v2,?_⟩;have:=hp e (ax he) x (ax hx);cases x with
  |p x=>exact v3
  |_=>cases this
theorem p7 {ρ ρ':Rho} {H H':OH} {Y:Nat->Prop} {w:World} {r:TV} {v:Value} (hn:noRefTV r=true) (h:r.rel ρ H Y w v):r.rel ρ' H' Y w v:=by
 have av: ∀x u,dZ x=true->AV.rel ρ H Y w x u->AV.rel ρ' H' Y w x u:=fun x u hx hu=>by
  cases x with
  |p x=>exact hu
  |junk=>trivial
  |_=>cases hx
 have agg: ∀cs v,cs.all dZ=true->bJ ρ H Y w cs v->bJ ρ' H' Y w cs v:=fun cs v hc ⟨vs,g1,g2,g3⟩=>by
  simp only[aj]at hc;exact⟨vs,g1,g2,fun j x hx=>by obtain⟨u,u1,u2,u3⟩:=g3 j x hx;exact⟨u,u1,u2,av x u (hc x (ax hx)) u3⟩⟩
 cases r with
 |one x=>exact av x v hn h
 |agg cs=>exact agg cs v hn h
 |fn f cs=>obtain⟨u,h1,h2⟩:=h;exact⟨u,agg cs u hn h1,h2⟩
 |tup ts=>
  simp only[noRefTV,aj]at hn;obtain⟨vs,g1,g2,g3⟩:=h;refine⟨vs,g1,g2,fun j c cs hj=>?_⟩;obtain⟨u,u1,u2⟩:=g3 j c cs hj;have hall:=hn (c,cs) (ax hj);refine⟨u,u1,?_⟩;rcases u2 with⟨u2,u3⟩|⟨u2,x,rfl,u4⟩
  ·exact .inl ⟨u2,agg _ _ (List.all_eq_true.2 hall) u3⟩
  exact .inr ⟨u2,x,rfl,av x u (hall x (by simp)) u4⟩
def So (P:Program) (fn:Func) (k off len:Nat) (o':OObj) (r:TV) (s:AS):Prop:=
 s.tmps[k]?=some (.one (.sl 0 0 off len))/\s.H=famH 0 [o']/\qc P s fn.results.toList=some r
theorem r9 {P:Program} {f:FuncId} {fn:Func} {c:Code} {args:List TV} {k off len:Nat} {o o':OObj} {r:TV} (hf:P.funcs[f]?=some fn) (hb:fn.body=some c) (hn:callable P f=true) (hk:k<args.length) (hlen:0<len) (hol:off+len<=o.elems.length) (hop: ∀e∈o.elems,∀x∈e,isPure x=true)
  (he:o'.es=o.es) (hs:o'.elems.length=o.elems.length) (hp: ∀e∈o'.elems,∀x∈e,isPure x=true) (hr:noRefTV r=true)
  (h:fK P k c (fun e s=>(e= .normal\/e= .ret)/\ ∃s',bW s s'/\So P fn k off len o' r s') ⟨args.set k (.one (.sl 0 0 off len))++af (fn.ntmps-args.length) .undef,famH 0 [o]⟩):qo P f args k off len o o' r:=by
 refine⟨hn,he,hs,hp,hr,fun X w vs b cc hX hXb hobj hvs hvk hargs=>?_⟩;refine calls_of_wp hf hb ?_;have hXo:=Ti (X:=X) (b:=b) (c:=cc) (o:=o);have hblt:b<w.heap.size:=by
  obtain⟨_,_,q⟩:=hobj;simp only[rho1,and_self,if_true]at q;obtain⟨cells,q1,_⟩:=q;exact(Array.getElem?_eq_some_iff.1 q1).1
 have hlc:len<=cc-off:=by
  obtain⟨_,_,q⟩:=hobj;simp only[rho1,and_self,if_true]at q;obtain⟨cells,_,_,q3,_⟩:=q;omega
 have hrel:mX k (.slice (some ⟨b,off*o.es,none⟩) len (cc-off)) w (fun j=>j=b) X ⟨args.set k (.one (.sl 0 0 off len))++af (fn.ntmps-args.length) .undef,famH 0 [o]⟩ {tmps:=vs++Array.replicate (fn.ntmps-vs.size) undef,defers:=[]} w:=by
  refine⟨⟨rfl,by simp[hvs],rho1 b cc,⟨Keep.refl w,fun a r o1 ho=>?_,fun a r a' r' o1 o2 b1 c1 c2 ho ho' _ _=>?_,fun a r o1 b1 c1 ho h1=>?_,hX,fun a r o1 ho=>?_⟩,fun t x hx=>?_⟩,?_⟩
  ·obtain⟨rfl,rfl,rfl⟩:=ox ho;show objRel _ _ (Xo X (rho1 b cc) (famH 0 [o1])) w 0 0 o1;rw[hXo];exact hobj
  ·obtain⟨rfl,rfl,_⟩:=ox ho;obtain⟨rfl,rfl,_⟩:=ox ho';exact⟨rfl,rfl⟩
  ·obtain⟨rfl,rfl,_⟩:=ox ho;simp only[rho1,and_self,if_true]at h1;injection h1 with h1
   injection h1 with h1 h2
   subst h1;exact⟨.inr rfl,hXb⟩
  ·obtain⟨rfl,rfl,rfl⟩:=ox ho;exact dj hop
  ·show ∃v:Value,_/\x.rel (rho1 b cc) (famH 0 [o]) (Xo X (rho1 b cc) (famH 0 [o])) w v;rw[hXo];by_cases ht:t<args.length
   ·rw[List.getElem?_append_left (by simpa using ht)]at hx;by_cases htk:t=k
    ·subst htk;rw[List.getElem?_set_self ht]at hx;injection hx with hx
     subst hx;exact⟨_,by rw[Array.getElem?_append_left (by omega)];exact hvk,o,rfl,hol,.inr ⟨b,cc,cc-off,by simp[rho1],rfl,hlc,fun _=>rfl⟩⟩
    rw[List.getElem?_set_ne (Ne.symm htk)]at hx;obtain⟨v,v1,v2⟩:=hargs t x htk hx;refine⟨v,by rw[Array.getElem?_append_left (by omega)];exact v1,TV.rel_map v2 (fun y u hy=>?_)⟩;cases y with
    |p y=>exact hy
    |sl a r off len=>obtain⟨o,h1,_⟩:=hy;simp at h1
    |ptr a r i j=>obtain⟨o,_,_,h1,_⟩:=hy;simp at h1
    |fn f a qs=>exact(oA (fun _=>rfl) hy).elim
    |junk=>trivial
   rw[List.getElem?_append_right (by simp;omega),List.getElem?_replicate]at hx;split at hx
   ·rename_i hlt;injection hx with hx
    subst hx;refine⟨undef,?_,dX⟩;simp at hlt;rw[Array.getElem?_append_right (by omega),Array.getElem?_replicate,if_pos (by omega)]
   cases hx
  show(vs++_)[k]?=_;rw[Array.getElem?_append_left (by omega)];exact hvk
 refine wp_mono (h _ _ _ _ _ _ hrel) fun e a' w' ⟨s1,⟨hee,s2,hw,hW1,hW2,hW3⟩,hrel1⟩=>?_
 obtain⟨⟨h1,hsz,ρ,hinv,htm⟩,hslot⟩:=hrel1.weak hw;have htm:bq X ρ s2 a' w':=htm;rw[hW2]at hinv;obtain⟨v,v1,v2⟩:=eL (by rw[hW2];exact hinv) htm hW3;rw[hW2]at v2
 -- the row has not moved
 obtain⟨u,u1,u2⟩:=htm k _ hW1;rw[hslot]at u1;injection u1 with u1
 subst u1;obtain⟨o2,g1,g2,g3⟩:=u2;rw[hW2]at g1;obtain⟨_,_,rfl⟩:=ox g1;have hρ:ρ 0 0=some (b,cc):=by
  rcases g3 with⟨_,g4,_,_⟩|⟨b',c',cap,g4,g5,_,g9⟩
  ·cases g4
  have g9:=g9 (by decide);injection g5 with g5 g6 g7
  injection g5 with g5
  injection g5 with g5 g8
  subst g5;have hobj2:=hinv.objs 0 0 o2 rfl;obtain⟨q1,q2,q3⟩:=hobj2;rw[g4]at q3;obtain⟨cells,q4,q5,q6,_⟩:=q3;obtain⟨p1,p2,p3⟩:=hobj;simp only[rho1,and_self,if_true]at p3;obtain⟨cells',p4,p5,p6,_⟩:=p3;rw[g4,show c'=cc by omega]
 have hXo2:Xo X ρ (famH 0 [o2])=fun j=>X j\/j=b:=by
  funext j;apply propext;constructor
  ·rintro(h|⟨a,r,o3,c',h1,h2⟩)
   ·exact .inl h
   obtain⟨rfl,rfl,_⟩:=ox h1;rw[hρ]at h2;injection h2 with h2;injection h2 with h2 h3;exact .inr h2.symm
  rintro(h|rfl)
  ·exact .inl h
  exact .inr ⟨0,0,o2,cc,rfl,hρ⟩
 have hob:=hinv.objs 0 0 o2 rfl;rw[hXo2]at hob;rw[hXo2]at v2;have hbut:But b w w':=⟨hinv.keep.os,hinv.keep.tape,hinv.keep.output,hinv.keep.size,fun j hj hne=>hinv.keep.block j hj hne⟩;have hob1:objRel (rho1 b cc) (famH 0 [o2]) (fun j=>X j\/j=b) w' 0 0 o2:=by
  refine lW hp hob (by rw[hρ];simp[rho1])
 have hv1:r.rel (rho1 b cc) (famH 0 [o2]) (fun j=>X j\/j=b) w' v:=p7 hr v2;rcases hee with rfl|rfl
 ·exact⟨h1,v,v1,v,rfl,hbut,hob1,hv1⟩
 exact⟨h1,v,v1,v,rfl,hbut,hob1,hv1⟩
end
section
def gL:TV->Bool
 | .one (.p _)=>true
 | .agg cs=>cs.all isPure
 |_=>false
theorem tD {ρ ρ':Rho} {H H':OH} {Y Y':Nat->Prop} {w:World} {t:TV} {v:Value} (hY:Y'=Y) (hn:gL t=true) (h:t.rel ρ H Y w v):t.rel ρ' H' Y' w v:=by
 subst hY;refine p7 ?_ h;unfold gL at hn;split at hn
 ·rfl
 ·rename_i cs;simp only[noRefTV,aj]at hn⊢;intro x hx;have:=hn x hx;cases x<;>first|rfl|cases this
 cases hn
def oW (k:Nat):Nat->List TV->Bool
 |_,[]=>true
 |i,t::l=>(i==k||gL t)&&oW k (i+1) l
theorem tB {k:Nat}: ∀{l:List TV} {i j:Nat} {t:TV},oW k i l=true->i+j≠k->l[j]?=some t->gL t=true
 |[],_,_,_,_,_,h=>by simp at h
 |u::l,i,0,t,h,hj,ht=>by
  simp at ht;subst ht;simp only[oW,Bool.and_eq_true,Bool.or_eq_true,beq_iff_eq]at h;exact h.1.resolve_left (fun e=>hj (by rw[e,Nat.add_zero]))
 |u::l,i,j+1,t,h,hj,ht=>by
  simp only[oW,Bool.and_eq_true]at h;exact tB (i:=i+1) (j:=j) h.2 (by omega) (by simpa using ht)
theorem nB {k:Nat} {args:List TV} (h:oW k 0 args=true): ∀(j:Nat) t,j≠k->args[j]?=some t->gL t=true:=fun j t hj ht=>tB (i:=0) (j:=j) h (by omega) ht
theorem dJ {α:Type} (f:α->List PV) (l:List α): ∀e∈lc f l,∀x∈e,isPure x=true:=fun e he x hx=>by
 simp only[lc,am]at he;obtain⟨y,_,rfl⟩:=he;simp only[am]at hx;obtain⟨z,_,rfl⟩:=hx;rfl
theorem fW (F:List OObj):Hm [(0,F)]=famH 0 F:=by funext x;simp[Hm,famH]
section
variable {P:Program} {s:AS} {a:Act} {w0 w:World} {O X:Nat->Prop}
theorem K9 (hrel:cW w0 O X s a w) {o:Oper} {c:Call} {f:FuncId} (ho:o.op= .call c) (hcal:c.callee= .value (.func f)) {args:List TV} {k off len fa fr:Nat} {o0 o':OObj} {r:TV} (hcon:qo P f args k off len o0 o' r) (hfa:fa<=4999) (hk:k<args.length) (hlen:0<len)
  (hev:ew s.ev c.args.toList=some (args.set k (.one (.sl fa fr off len)))) (hpure: ∀(j:Nat) t,j≠k->args[j]?=some t->gL t=true) (hrow:(s.H fa)[fr]?=some o0) (hop: ∀e∈o0.elems,∀x∈e,isPure x=true) {K:Act->World->Prop} {Q:Exit->Act->World->Prop}
  (hK: ∀v w',cW w0 O X (AS.put ⟨s.tmps,aJ s.H fa ((s.H fa).set fr o')⟩ o.dst r) (a.put o.dst v) w'->K (a.put o.dst v) w'):o.wp P a w K Q:=by
 obtain⟨h1,hsz,ρ,hinv,htm⟩:=hrel;have htm:bq X ρ s a w:=htm;obtain⟨e1,e2⟩:=bZ hev;have hk1:(args.set k (.one (.sl fa fr off len)))[k]?=some (.one (.sl fa fr off len)):=List.getElem?_set_self hk;obtain⟨x,hx,hxt⟩:=e2 k _ hk1;obtain⟨o1,g1,g2,g3⟩:=bD htm x _ hxt;rw[hrow]at g1;injection g1 with g1
 subst g1;obtain⟨b,cc,hρ,hv⟩: ∃b cc,ρ fa fr=some (b,cc)/\a.eval x= .slice (some ⟨b,off*o0.es,none⟩) len (cc-off):=by
  rcases g3 with⟨_,_,g4,_⟩|⟨b,cc,cap,g3,g5,_,g6⟩
  ·omega
  exact⟨b,cc,g3,by rw[g5,g6 hfa]⟩
 have hob:=hinv.objs fa fr o0 hrow;have hXb:Xo X ρ s.H b:= .inr ⟨fa,fr,o0,cc,hrow,hρ⟩;have hset:(fun j=>(Xo X ρ s.H j/\j≠b)\/j=b)=Xo X ρ s.H:=by
  funext j;apply propext;constructor
  ·rintro(h|rfl)
   ·exact h.1
   exact hXb
  intro h;by_cases hj:j=b
  ·exact .inr hj
  exact .inl ⟨h,hj⟩
 have hXlt: ∀j,Xo X ρ s.H j->j<w.heap.size:=fun b hb=>by
  rcases hb with hb|⟨x,y,o',n,g1,g2⟩
  ·exact hinv.bar b hb
  exact bO (hinv.objs x y o' g1) g2
 have hrun:=i7 (w:=w) ho hcal (e:=a.eval) rfl hcon.able;unfold Oper.wp;rw[hrun];simp only[Oper.upon];have hsize:c.args.size=args.length:=by simpa using e1.symm
 refine(hcon.calls (fun j=>Xo X ρ s.H j/\j≠b) w (c.args.map a.eval) b cc (fun j hj=>hXlt j hj.1) (fun h=>h.2 rfl) ?_ (by simp[hsize]) ?_ ?_).mono ?_
 ·rw[hset];exact lW hop hob (by simp[rho1,hρ])
 ·rw[Array.getElem?_map];have:c.args[k]?=some x:=by simpa using hx
  rw[this];exact congrArg some hv
 ·intro j t hj ht;rw[hset];have ht2:(args.set k (.one (.sl fa fr off len)))[j]?=some t:=by rw[List.getElem?_set_ne (Ne.symm hj)];exact ht
  obtain⟨y,hy,hyt⟩:=e2 j t ht2;refine⟨a.eval y,?_,tD rfl (hpure j t hj ht) (bD htm y t hyt)⟩;rw[Array.getElem?_map];have:c.args[j]?=some y:=by simpa using hy
  rw[this];rfl
 rintro e w1 ⟨v,rfl,hbut,hob1,hr1⟩;show K (a.put o.dst v) w1;refine hK v w1 ?_;rw[hset]at hob1 hr1;have hfr:=(List.getElem?_eq_some_iff.1 hrow).1;have hnew: ∀(x y:Nat) o1,(aJ s.H fa ((s.H fa).set fr o') x)[y]?=some o1->(x=fa/\y=fr/\o1=o')\/(¬(x=fa/\y=fr)/\(s.H x)[y]?=some o1):=fun x y o1 h=>by
  by_cases hx:x=fa
  ·subst hx;rw[aX]at h;by_cases hy:y=fr
   ·subst hy;rw[List.getElem?_set_self hfr]at h;injection h with h
    exact .inl ⟨rfl,rfl,h.symm⟩
   rw[List.getElem?_set_ne (Ne.symm hy)]at h;exact .inr ⟨fun h=>hy h.2,h⟩
  rw[aN hx]at h;exact .inr ⟨fun h=>hx h.1,h⟩
 have hlive: ∀(x y:Nat) o1,(s.H x)[y]?=some o1-> ∃o2,(aJ s.H fa ((s.H fa).set fr o') x)[y]?=some o2/\o2.es=o1.es/\o1.elems.length<=o2.elems.length/\ρ x y=ρ x y:=fun x y o1 h=>by
  by_cases hx:x=fa
  ·subst hx;by_cases hy:y=fr
   ·subst hy;rw[hrow]at h;injection h with h
    subst h;exact⟨o',by rw[aX,List.getElem?_set_self hfr],hcon.es,by rw[hcon.size];exact ae _,rfl⟩
   exact⟨o1,by rw[aX,List.getElem?_set_ne (Ne.symm hy)];exact h,rfl,ae _,rfl⟩
  exact⟨o1,by rw[aN hx];exact h,rfl,ae _,rfl⟩
 have hback: ∀(x y:Nat) o1,(aJ s.H fa ((s.H fa).set fr o') x)[y]?=some o1-> ∃o2,(s.H x)[y]?=some o2:=fun x y o1 h=>by
  rcases hnew x y o1 h with⟨rfl,rfl,_⟩|⟨_,h⟩
  ·exact⟨o0,hrow⟩
  exact⟨o1,h⟩
 have hXo:Xo X ρ (aJ s.H fa ((s.H fa).set fr o'))=Xo X ρ s.H:=by
  funext j;apply propext;constructor
  ·rintro(h|⟨x,y,o1,n,h1,h2⟩)
   ·exact .inl h
   obtain⟨o2,h3⟩:=hback x y o1 h1;exact .inr ⟨x,y,o2,n,h3,h2⟩
  rintro(h|⟨x,y,o1,n,h1,h2⟩)
  ·exact .inl h
  obtain⟨o2,h3,_⟩:=hlive x y o1 h1;exact .inr ⟨x,y,o2,n,h3,h2⟩
 have mono: ∀x u,AV.rel ρ s.H (Xo X ρ s.H) w x u->AV.rel ρ (aJ s.H fa ((s.H fa).set fr o')) (Xo X ρ (aJ s.H fa ((s.H fa).set fr o'))) w1 x u:=fun x u hx=>
  lG hXb hbut hlive (fun x y o1 b' c' h1 h2 _=>by
   obtain⟨o2,h3⟩:=hback x y o1 h1;exact .inr ⟨x,y,o2,c',h3,h2⟩) hx
 have hinv':Inv w0 O X (aJ s.H fa ((s.H fa).set fr o')) ρ w1:=by
  refine⟨hinv.keep.but hbut (hinv.old fa fr o0 b cc hrow hρ).1,fun x y o1 h=>?_,fun x y x' y' o1 o2 j c1 c2 h h' q q'=>?_,fun x y o1 j c1 h q=>?_,fun j hj=>Nat.lt_of_lt_of_le (hinv.bar j hj) hbut.size,fun x y o1 h=>?_⟩
  ·rcases hnew x y o1 h with⟨rfl,rfl,rfl⟩|⟨hne,h⟩
   ·rw[hXo];exact lW hcon.pure hob1 (by simp[rho1,hρ])
   refine dK (hinv.objs x y o1 h) rfl (fun j c1 hj=>?_) mono;refine hbut.block j (bO (hinv.objs x y o1 h) hj) ?_;rintro rfl;exact hne (hinv.inj x y fa fr o1 o0 j c1 cc h hrow hj hρ)
  ·obtain⟨o3,h3⟩:=hback x y o1 h;obtain⟨o4,h4⟩:=hback x' y' o2 h';exact hinv.inj x y x' y' o3 o4 j c1 c2 h3 h4 q q'
  ·obtain⟨o3,h3⟩:=hback x y o1 h;exact hinv.old x y o3 j c1 h3 q
  rcases hnew x y o1 h with⟨rfl,rfl,rfl⟩|⟨hne,h⟩
  ·exact dj hcon.pure
  exact hinv.self x y o1 h
 have htm':bq X ρ ⟨s.tmps,aJ s.H fa ((s.H fa).set fr o')⟩ a w1:=fun t x hx=>by
  obtain⟨u,u1,u2⟩:=htm t x hx;exact⟨u,u1,TV.rel_map u2 mono⟩
 refine⟨by rw[fB];exact h1,by rw[i6,eA];exact hsz,ρ,by rw[eK];exact hinv',nC hsz htm' ?_⟩;show r.rel ρ (aJ s.H fa ((s.H fa).set fr o')) (Xo X ρ (aJ s.H fa ((s.H fa).set fr o'))) w1 v;rw[hXo];exact p7 hcon.noref hr1
def cwTs (ops:Array Oper) (m:Nat) (s:AS):Option (FuncId×List TV):=match ops[m]? with
 |some o=>match o.guard,o.op with
  |none,.call c=>match c.callee with
   | .value (.func f)=>match ew s.ev c.args.toList with
    |some ts=>some (f,ts)
    |none=>none
   |_=>none
  |_,_=>none
 |none=>none
def jY (ops:Array Oper) (m:Nat):Option Tmp:=(ops[m]?).bind (·.dst)
def Pj (ops:Array Oper) (m:Nat) (r:TV) (fa fr:Nat) (o':OObj) (s:AS):AS:=AS.put ⟨s.tmps,aJ s.H fa ((s.H fa).set fr o')⟩ (jY ops m) r
structure OG (ops:Array Oper) (m:Nat) (f:FuncId) (args:List TV) (k off len fa fr:Nat) (o0:OObj) (s:AS):Prop where
 ts:cwTs ops m s=some (f,args.set k (.one (.sl fa fr off len)))
 row:(s.H fa)[fr]?=some o0
theorem u9 (m:Nat) {f:FuncId} {args:List TV} {k off len:Nat} {o0 o':OObj} {r:TV} (hcon:qo P f args k off len o0 o' r) (fa fr:Nat) (items:List (aH P)) (ow:List Nat) {id:Nat} {ops:Array Oper} {Q:Exit->AS->Prop} (hk:k<args.length) (hlen:0<len) (hpure: ∀(j:Nat) t,j≠k->args[j]?=some t->gL t=true) (hop: ∀e∈o0.elems,∀x∈e,isPure x=true) (hl:s.tmps.length<=1000000) (hm:m<ops.toList.length)
  (h:ca P (items.map aH.a) ow (bC ops (ops.toList.take m) 0) (some s) (fun s1=>OG ops m f args k off len fa fr o0 s1/\s1.tmps.length<=1000000/\ca P (items.map aH.a) ow (bC ops (ops.toList.drop (m+1)) (m+1)) (some (Pj ops m r fa fr o' s1)) (Q .normal))) (hfa:fa<=4999):bu P (.region id ops false) Q s:=fun w0 O X a w r0=>by
 obtain⟨s1,h1,⟨q1,q2⟩,hl1,h2⟩:=bi P (items.map aH.a) ow ops _ 0 s _ h;obtain⟨s',h3,h4⟩:=bi P (items.map aH.a) ow ops _ (m+1) _ _ h2;obtain⟨o,ho⟩: ∃o,ops[m]?=some o:=⟨ops[m],by simp at hm;simp[hm]⟩;unfold cwTs at q1;rw[ho]at q1;simp only at q1;split at q1
 ·rename_i c hg hop1;split at q1
  ·rename_i f' hcal;split at q1
   ·rename_i ts hts;injection q1 with q1
    injection q1 with q1 q3
    subst q1 q3;refine wp_region ?_;have hsz:ops.size=(ops.toList.take m).length+(1+(ops.toList.drop (m+1)).length):=by simp at hm⊢;omega
    rw[hsz,List.range_eq_range',<- List.range'_append_1,Nat.zero_add];have hml:(ops.toList.take m).length=m:=by rw[List.length_take];omega
    refine tP (aH.ok items) (ops.toList.take m) 0 s s1 a w (fun j o hj=>?_) h1 r0 fun a' w' r'=>?_
    ·rw[List.getElem?_take]at hj;split at hj
     ·simpa using hj
     cases hj
    rw[hml,Nat.add_comm 1,List.range'_succ];simp only[wpOps,ho];rw[if_pos (by simp[Region.wanted,hg])];refine .inl (K9 r' hop1 hcal hcon hfa hk hlen hts hpure q2 hop fun v w1 hr1=>?_);refine kN (aH.ok items) (Q:=fun e a' w'=> ∃s',Q e s'/\cW w0 O X s' a' w') (ops.toList.drop (m+1)) (m+1) _ s' _ _ (fun j o hj=>?_) h3 ?_ (fun a' w' hr=>⟨s',h4,hr⟩)
    ·rw[List.getElem?_drop]at hj;simpa using hj
    have:jY ops m=o.dst:=by unfold jY;rw[ho];rfl
    unfold Pj;rw[this];exact hr1
   cases q1
  cases q1
 cases q1
theorem rP (m:Nat) {f:FuncId} {args:List TV} {k off len:Nat} {o0 o':OObj} {r:TV} (hcon:qo P f args k off len o0 o' r) (fa fr:Nat) (items:List (aH P)) (ow:List Nat) {id:Nat} {ops:Array Oper} {y:Code} {Q:Exit->AS->Prop} (hk:k<args.length) (hlen:0<len) (hpure: ∀(j:Nat) t,j≠k->args[j]?=some t->gL t=true) (hop: ∀e∈o0.elems,∀x∈e,isPure x=true) (hl:s.tmps.length<=1000000) (hm:m<ops.toList.length)
  (h: ∀K:AS->Prop,(∀s1,(OG ops m f args k off len fa fr o0 s1/\s1.tmps.length<=1000000/\ ∀K:AS->Prop,(∀s',bu P y Q s'->K s')->ca P (items.map aH.a) ow (bC ops (ops.toList.drop (m+1)) (m+1)) (some (Pj ops m r fa fr o' s1)) K)->K s1)->ca P (items.map aH.a) ow (bC ops (ops.toList.take m) 0) (some s) K) (hfa:fa<=4999:=by decide):bu P (.seq (.region id ops false) y) Q s:=
 aG (u9 m hcon fa fr items ow hk hlen hpure hop hl hm (h _ fun s1 ⟨q1,q2,q3⟩=>⟨q1,q2,q3 _ fun _ h=>h⟩) hfa)
theorem A8 (m:Nat) {f:FuncId} {args:List TV} {k off len:Nat} {o0 o':OObj} {r:TV} (hcon:qo P f args k off len o0 o' r) (fa fr:Nat) (items:List (aH P)) (ow:List Nat) {id:Nat} {ops:Array Oper} {Q:Exit->AS->Prop} (hk:k<args.length) (hlen:0<len) (hpure: ∀(j:Nat) t,j≠k->args[j]?=some t->gL t=true) (hop: ∀e∈o0.elems,∀x∈e,isPure x=true) (hl:s.tmps.length<=1000000) (hm:m<ops.toList.length)
  (h: ∀K:AS->Prop,(∀s1,(OG ops m f args k off len fa fr o0 s1/\s1.tmps.length<=1000000/\ ∀K:AS->Prop,(∀s',Q .normal s'->K s')->ca P (items.map aH.a) ow (bC ops (ops.toList.drop (m+1)) (m+1)) (some (Pj ops m r fa fr o' s1)) K)->K s1)->ca P (items.map aH.a) ow (bC ops (ops.toList.take m) 0) (some s) K) (hfa:fa<=4999:=by decide):bu P (.region id ops false) Q s:=
 u9 m hcon fa fr items ow hk hlen hpure hop hl hm (h _ fun s1 ⟨q1,q2,q3⟩=>⟨q1,q2,q3 _ fun _ h=>h⟩) hfa
end
end
end Go.Proofs.YtalmoejhjceflaaGreat
namespace Go.Proofs
open Go.Shelf
def Tryz.lays133_ren:Go.Shelf.Ren:=⟨fun|133=>211|128=>184|n=>n,fun|51=>165|3=>3|4=>4|46=>164|5=>5|9=>9|n=>n,fun|n=>n⟩
theorem Tryz.lays133:Go.Proofs.Lays.n133 Tryz.prog Tryz.lays133_ren:={
 mixed:=by kernel_rfl
 f128:=Tryz.func184.trans (congrArg some (by kernel_rfl))
 f133:=Tryz.func211.trans (congrArg some (by kernel_rfl))
 t3:=Tryz.underlying3
 a3:=Tryz.isAgg3
 z3:=Tryz.sizeOf3
 v3:=Tryz.zeroValue3
 t4:=Tryz.underlying4
 a4:=Tryz.isAgg4
 z4:=Tryz.sizeOf4
 v4:=Tryz.zeroValue4
 t5:=Tryz.underlying5
 a5:=Tryz.isAgg5
 z5:=Tryz.sizeOf5
 v5:=Tryz.zeroValue5
 t9:=Tryz.underlying9
 a9:=Tryz.isAgg9
 z9:=Tryz.sizeOf9
 v9:=Tryz.zeroValue9
 t46:=Tryz.underlying164
 a46:=Tryz.isAgg164
 z46:=Tryz.sizeOf164
 v46:=Tryz.zeroValue164
 t51:=Tryz.underlying165
 a51:=Tryz.isAgg165
 z51:=Tryz.sizeOf165
 v51:=Tryz.zeroValue165}
end Go.Proofs
namespace Go.Proofs.YtalmoejhjceflaaGreat
open Go.RowKit
section
def fC:AV->Bool
 | .p (.raw _)=>true
 | .p (.sl [])=>true
 | .p _=>false
 |_=>true
def Cw:TV->Bool
 | .one x=>fC x
 | .agg cs=>cs.all fC
 | .tup ts=>ts.all fun t=>t.2.all fC
 | .fn _ cs=>cs.all fC
def Ek (r:CallRes):Prop:=Cw r.r=true/\ ∀o∈r.fam,∀e∈o.elems,∀x∈e,fC x=true
def tC:TV->Bool
 | .fn _ cs=>cs.all isPure
 |t=>gL t
section
variable {P:Program} {s:AS} {a:Act} {w0 w w1:World} {O X:Nat->Prop} {ρ:Rho} {H:OH}
theorem pe {Y Y':Nat->Prop} {x:AV} {v:Value} (hs:fC x=true) (h:AV.rel ρ H Y w x v):AV.rel ρ H Y' w x v:=by
 cases x with
 |p x=>
  cases x with
  |raw u=>
   obtain⟨rfl,h1⟩:=bs (ρ:=ρ) (H:=H) h;exact bX.raw _ h1
  |sl xs=>
   cases xs with
   |nil=>
    have h:bX Y w (.sl []) v:=h;generalize hx:PV.sl []=x at h;cases h with
    |raw v h=>cases hx
    |ptr b off cs f hX hb hc hr=>cases hx
    |nil a c=>exact bX.nil _ _
    |sl b off es cap xs f hX hb hes hcap hm hc hr=>
     injection hx with hx
     subst hx;exact bX.nil _ _
   |cons e xs=>cases hs
  |ptr cs=>cases hs
 |sl a r off len=>exact h
 |ptr a r i j=>exact h
 |fn=>exact h
 |junk=>trivial
theorem Cx {Y Y':Nat->Prop} {t:TV} {v:Value} (hs:Cw t=true) (h:t.rel ρ H Y w v):t.rel ρ H Y' w v:=by
 have agg: ∀cs v,cs.all fC=true->bJ ρ H Y w cs v->bJ ρ H Y' w cs v:=fun cs v hc ⟨vs,g1,g2,g3⟩=>by
  simp only[aj]at hc;exact⟨vs,g1,g2,fun j x hx=>by obtain⟨u,u1,u2,u3⟩:=g3 j x hx;exact⟨u,u1,u2,pe (hc x (ax hx)) u3⟩⟩
 cases t with
 |one x=>exact pe hs h
 |agg cs=>exact agg cs v hs h
 |fn f cs=>obtain⟨u,h1,h2⟩:=h;exact⟨u,agg cs u hs h1,h2⟩
 |tup ts=>
  simp only[Cw,aj]at hs;obtain⟨vs,g1,g2,g3⟩:=h;refine⟨vs,g1,g2,fun j c cs hj=>?_⟩;obtain⟨u,u1,u2⟩:=g3 j c cs hj;have hall:=hs (c,cs) (ax hj);refine⟨u,u1,?_⟩;rcases u2 with⟨u2,u3⟩|⟨u2,x,rfl,u4⟩
  ·exact .inl ⟨u2,agg _ _ (by simpa only[aj] using hall) u3⟩
  exact .inr ⟨u2,_,rfl,pe (hall x (by simp)) u4⟩
theorem jx {ρ':Rho} {H':OH} {Y:Nat->Prop} {t:TV} {v:Value} (hn:gL t=true) (h:t.rel ρ H Y w v):t.rel ρ' H' (fun _=>False) w v:=by
 refine tD (Y:=fun _=>False) rfl hn ?_ (ρ:=ρ) (H:=H);unfold gL at hn;split at hn
 ·exact bX.weaken (fun _ _ h=>h.elim) h
 ·rename_i cs;simp only[aj]at hn;obtain⟨vs,g1,g2,g3⟩:=h;refine⟨vs,g1,g2,fun j x hx=>?_⟩;obtain⟨u,u1,u2,u3⟩:=g3 j x hx;have:=hn x (ax hx);refine⟨u,u1,u2,?_⟩;cases x<;>first|exact bX.weaken (fun _ _ h=>h.elim) u3|cases this
 cases hn
theorem qP {ρ':Rho} {H':OH} {Y:Nat->Prop} {t:TV} {v:Value} (hn:tC t=true) (h:t.rel ρ H Y w v):t.rel ρ' H' (fun _=>False) w v:=by
 cases t with
 |fn f cs=>
  obtain⟨u,h1,h2⟩:=h;exact⟨u,jx (t:= .agg cs) hn h1,h2⟩
 |one x=>exact jx hn h
 |agg cs=>exact jx hn h
 |tup ts=>exact jx hn h
end
end
end Go.Proofs.YtalmoejhjceflaaGreat
