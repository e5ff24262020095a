/-
  Part 14 of a proof (walks and plain facts).
-/
import Derived.Test.YtfgeomlagfomgaaGreatDoorP12
set_option linter.all false
set_option maxRecDepth 100000
set_option maxHeartbeats 64000000
open Nat renaming reduceAdd → aa
open Go.Value renaming oneCell' → ab
open List renaming getElem?_cons_zero → ag
open List renaming getElem?_cons_succ → ah
open Nat renaming le_refl → ai
open List renaming replicate → aj
open List renaming all_eq_true → aq
open List renaming mem_map → au
open Int renaming natCast_nonneg → ax
open List renaming getElem?_eq_none → aC
open List renaming mem_of_getElem? → aE
open List renaming getElem?_map → aH
open Nat renaming le_trans → aI
namespace Go.Proofs.YtfgeomlagfomgaaGreatDoor
open Go.RowKit
section
def zN:TV->Bool
 | .one (.p _)=>true
 | .agg cs=>cs.all isPure
 | .fn _ cs=>cs.all isPure
 |_=>false
theorem zP {ρ ρ':Rho} {H H':OH} {Y Y':Nat->Prop} {w:World} {t:TV} {v:Value} (hY: ∀b,Y' b->Y b) (hn:zN t=true) (h:t.rel ρ H Y w v):t.rel ρ' H' Y' w v:=by
 have av: ∀x u,isPure x=true->AV.rel ρ H Y w x u->AV.rel ρ' H' Y' w x u:=fun x u hx hu=>by
  cases x with
  |p x=>exact ee.weaken (fun b _ hb=>hY b hb) hu
  |_=>cases hx
 have agg: ∀cs v,cs.all isPure=true->dL ρ H Y w cs v->dL ρ' H' Y' w cs v:=fun cs v hc ⟨vs,g1,g2,g3⟩=>by
  simp only[aq]at hc
  exact⟨vs,g1,g2,fun j x hx=>by obtain⟨u,u1,u2,u3⟩:=g3 j x hx;exact⟨u,u1,u2,av x u (hc x (aE hx)) u3⟩⟩
 cases t with
 |one x=>
  cases x with
  |p x=>exact ee.weaken (fun b _ hb=>hY b hb) h
  |_=>cases hn
 |agg cs=>exact agg cs v hn h
 |fn f cs=>obtain⟨u,h1,h2⟩:=h;exact⟨u,agg cs u hn h1,h2⟩
 |tup ts=>cases hn
def ju (k:Nat):Nat->List TV->Bool
 |_,[]=>true
 |i,t::l=>(i==k||zN t)&&ju k (i+1) l
theorem qy {k:Nat}: ∀{l:List TV} {i j:Nat} {t:TV},ju k i l=true->i+j≠k->l[j]?=some t->zN t=true
 |[],_,_,_,_,_,h=>by simp at h
 |u::l,i,0,t,h,hj,ht=>by
  simp at ht
  subst ht
  simp only[ju,Bool.and_eq_true,Bool.or_eq_true,beq_iff_eq]at h
  exact h.1.resolve_left (fun e=>hj (by rw[e,Nat.add_zero]))
 |u::l,i,j+1,t,h,hj,ht=>by
  simp only[ju,Bool.and_eq_true]at h
  exact qy (i:=i+1) (j:=j) h.2 (by omega) (by simpa using ht)
def famB (F:List OObj) (ρ:Rho):Nat->Prop:=fun j=> ∃(r:Nat) (o:OObj) (c:Nat),F[r]?=some o/\ρ 0 r=some (j,c)
structure qm (P:Program) (f:FuncId) (args:List TV) (k n:Nat) (F F':List OObj) (r:TV):Prop where
 able:callable P f=true
 noref:noRefTV r=true
 head: ∃o o',F[0]?=some o/\F'[0]?=some o'/\o.elems.length=n/\o'.elems.length=n/\o'.es=o.es
 calls: ∀(X:Nat->Prop) (w:World) (vs:Array Value) (ρ:Rho) (b c:Nat),Inv w (famB F ρ) X (famH 0 F) ρ w->ρ 0 0=some (b,c)->vs.size=args.length->vs[k]?=some (.slice (some ⟨b,0,none⟩) n c)->
  (∀(j:Nat) t,j≠k->args[j]?=some t-> ∃v:Value,vs[j]?=some v/\t.rel (fun _ _=>none) (fun _=>[]) (Xo X ρ (famH 0 F)) w v)->
  Calls P f vs w fun e w'=> ∃v,e= .returned v/\ ∃ρ':Rho,Inv w (famB F ρ) X (famH 0 F') ρ' w'/\ρ' 0 0=some (b,c)/\r.rel ρ' (famH 0 F') (Xo X ρ' (famH 0 F')) w' v
def LI (P:Program) (fn:Func) (k n:Nat) (F':List OObj) (r:TV) (s:AS):Prop:=
 s.tmps[k]?=some (.one (.sl 0 0 0 n))/\s.H=famH 0 F'/\cH P s fn.results.toList=some r
theorem rx {P:Program} {f:FuncId} {fn:Func} {c:Code} {args:List TV} {k n:Nat} {F F':List OObj} {r:TV} (hf:P.funcs[f]?=some fn) (hb:fn.body=some c) (hn:callable P f=true) (hk:k<args.length) (hlen:0<n)
  (hhead: ∃o o',F[0]?=some o/\F'[0]?=some o'/\o.elems.length=n/\o'.elems.length=n/\o'.es=o.es) (hr:noRefTV r=true)
  (h:gZ P k c (fun e s=>(e= .normal\/e= .ret)/\ ∃s',eg s s'/\LI P fn k n F' r s') ⟨args.set k (.one (.sl 0 0 0 n))++aj (fn.ntmps-args.length) .undef,famH 0 F⟩):qm P f args k n F F' r:=by
 refine⟨hn,hr,hhead,fun X w vs ρ b cc hinv0 hρ hvs hvk hargs=>?_⟩
 obtain⟨o0,o1,ho0,ho1,hl0,hl1,hes⟩:=hhead
 refine calls_of_wp hf hb ?_
 have hob:=hinv0.objs 0 0 o0 (by simpa[famH] using ho0)
 obtain⟨_,hpos,q3⟩:=hob
 rw[hρ]at q3
 obtain⟨cells,_,_,p3,_⟩:=q3
 have hrel:lL k (.slice (some ⟨b,0,none⟩) n cc) w (famB F ρ) X ⟨args.set k (.one (.sl 0 0 0 n))++aj (fn.ntmps-args.length) .undef,famH 0 F⟩ {tmps:=vs++Array.replicate (fn.ntmps-vs.size) undef,defers:=[]} w:=by
  refine⟨⟨rfl,by simp[hvs],ρ,hinv0,fun t x hx=>?_⟩,?_⟩
  ·by_cases ht:t<args.length
   ·rw[List.getElem?_append_left (by simpa using ht)]at hx
    by_cases htk:t=k
    ·subst htk
     rw[List.getElem?_set_self ht]at hx
     injection hx with hx
     subst hx
     exact⟨_,by rw[Array.getElem?_append_left (by omega)];exact hvk,o0,by simpa[famH] using ho0,by omega,.inr ⟨b,cc,cc,hρ,by rw[Nat.zero_mul],by omega,fun _=>rfl⟩⟩
    rw[List.getElem?_set_ne (Ne.symm htk)]at hx
    obtain⟨v,v1,v2⟩:=hargs t x htk hx
    refine⟨v,by rw[Array.getElem?_append_left (by omega)];exact v1,TV.rel_map v2 (fun y u hy=>?_)⟩
    cases y with
    |p y=>exact hy
    |sl a r off len=>obtain⟨o,h1,_⟩:=hy;simp at h1
    |ptr a r i j=>obtain⟨o,_,_,h1,_⟩:=hy;simp at h1
    |junk=>trivial
   rw[List.getElem?_append_right (by simp;omega),List.getElem?_replicate]at hx
   split at hx
   ·rename_i hlt
    injection hx with hx
    subst hx
    refine⟨undef,?_,jb⟩
    simp at hlt
    rw[Array.getElem?_append_right (by omega),Array.getElem?_replicate,if_pos (by omega)]
   cases hx
  show(vs++_)[k]?=_
  rw[Array.getElem?_append_left (by omega)];exact hvk
 refine wp_mono (h _ _ _ _ _ _ hrel) fun e a' w' ⟨s1,⟨hee,s2,hw,hW1,hW2,hW3⟩,hrel1⟩=>?_
 obtain⟨⟨h1,hsz,ρ',hinv,htm⟩,hslot⟩:=hrel1.weak hw
 have htm:dN X ρ' s2 a' w':=htm
 rw[hW2]at hinv
 obtain⟨v,v1,v2⟩:=l9 (by rw[hW2];exact hinv) htm hW3
 rw[hW2]at v2
 obtain⟨u,u1,u2⟩:=htm k _ hW1
 rw[hslot]at u1
 injection u1 with u1
 subst u1
 obtain⟨o2,g1,g2,g3⟩:=u2
 have hρ':ρ' 0 0=some (b,cc):=by
  rcases g3 with⟨_,g4,_,_⟩|⟨b',c',cap,g4,g5,_,g9⟩
  ·cases g4
  have g9:=g9 (by decide)
  injection g5 with g5 g6 g7
  injection g5 with g5
  injection g5 with g5 g8
  rw[g4,g5,show c'=cc by omega]
 rcases hee with rfl|rfl
 ·exact⟨h1,v,v1,v,rfl,ρ',hinv,hρ',v2⟩
 exact⟨h1,v,v1,v,rfl,ρ',hinv,hρ',v2⟩
theorem zF {ρ ρ':Rho} {H H':OH} {Y Y':Nat->Prop} {w:World} {r:TV} {v:Value} (hY: ∀j,j<w.heap.size->Y' j->Y j) (hn:noRefTV r=true) (h:r.rel ρ H Y w v):r.rel ρ' H' Y' w v:=by
 have av: ∀x u,bf x=true->AV.rel ρ H Y w x u->AV.rel ρ' H' Y' w x u:=fun x u hx hu=>by
  cases x with
  |p x=>exact ee.weaken hY hu
  |junk=>trivial
  |_=>cases hx
 have agg: ∀cs v,cs.all bf=true->dL ρ H Y w cs v->dL ρ' H' Y' w cs v:=fun cs v hc ⟨vs,g1,g2,g3⟩=>by
  simp only[aq]at hc
  exact⟨vs,g1,g2,fun j x hx=>by obtain⟨u,u1,u2,u3⟩:=g3 j x hx;exact⟨u,u1,u2,av x u (hc x (aE hx)) u3⟩⟩
 cases r with
 |one x=>exact av x v hn h
 |agg cs=>exact agg cs v hn h
 |fn f cs=>obtain⟨u,h1,h2⟩:=h;exact⟨u,agg cs u hn h1,h2⟩
 |tup ts=>
  simp only[noRefTV,aq]at hn
  obtain⟨vs,g1,g2,g3⟩:=h
  refine⟨vs,g1,g2,fun j c cs hj=>?_⟩
  obtain⟨u,u1,u2⟩:=g3 j c cs hj
  have hall:=hn (c,cs) (aE hj)
  refine⟨u,u1,?_⟩
  rcases u2 with⟨u2,u3⟩|⟨u2,x,rfl,u4⟩
  ·exact .inl ⟨u2,agg _ _ (List.all_eq_true.2 hall) u3⟩
  exact .inr ⟨u2,x,rfl,av x u (hall x (by simp)) u4⟩
def kM (fa:Nat):Nat->Nat->Bool:=fun x y=>x==fa&&y !=0
section
variable {P:Program} {s:AS} {a:Act} {w0 w:World} {O X:Nat->Prop}
theorem EN (hrel:iW w0 O X s a w) {o:Oper} {c:Call} {f:FuncId} (ho:o.op= .call c) (hcal:c.callee= .value (.func f)) {args:List TV} {k n fa:Nat} {F F':List OObj} {r:TV} (hcon:qm P f args k n F F' r) (hfa:fa<=4999) (hk:k<args.length) (hlen:0<n)
  (hev:bO s.ev c.args.toList=some (args.set k (.one (.sl fa 0 0 n)))) (hpure:ju k 0 args=true) (hfam:s.H fa=F.map (renO fa)) (hself: ∀o∈F,selfO 0 o) (hself': ∀o∈F',selfO 0 o) {K:Act->World->Prop} {Q:Exit->Act->World->Prop}
  (hK: ∀v w',iW w0 O X (AS.put ⟨s.tmps.map (bz (kM fa)),bD s.H fa (F'.map (renO fa))⟩ o.dst r) (a.put o.dst v) w'->K (a.put o.dst v) w'):o.wp P a w K Q:=by
 obtain⟨h1,hsz,ρ,hinv,htm⟩:=hrel
 have htm:dN X ρ s a w:=htm
 obtain⟨e1,e2⟩:=fw hev
 have hk1:(args.set k (.one (.sl fa 0 0 n)))[k]?=some (.one (.sl fa 0 0 n)):=List.getElem?_set_self hk
 obtain⟨x,hx,hxt⟩:=e2 k _ hk1
 obtain⟨o0,o1,ho0,ho1,hl0,hl1,hes⟩:=hcon.head
 have hF: ∀(y:Nat) o',(s.H fa)[y]?=some o'↔ ∃o,F[y]?=some o/\o'=renO fa o:=fun y o'=>by
  rw[hfam,aH]
  constructor
  ·intro h
   obtain⟨o,g1,g2⟩:=Option.map_eq_some_iff.1 h
   exact⟨o,g1,g2.symm⟩
  rintro⟨o,g1,rfl⟩
  rw[g1];rfl
 obtain⟨b,cc,hρ,hv⟩: ∃b cc,ρ fa 0=some (b,cc)/\a.eval x= .slice (some ⟨b,0,none⟩) n cc:=by
  obtain⟨o',g1,g2,g3⟩:=eH htm x _ hxt
  rcases g3 with⟨_,_,g4,_⟩|⟨b,cc,cap,g3,g5,_,g6⟩
  ·omega
  exact⟨b,cc,g3,by rw[g5,g6 hfa,Nat.zero_mul,Nat.sub_zero]⟩
 let ρ0:Rho:=fun x y=>if x=0 then ρ fa y else none
 have hρ0: ∀y,ρ0 0 y=ρ fa y:=fun y=>if_pos rfl
 let own:Nat->Prop:=famB F ρ0
 have hown: ∀j,own j↔ ∃(y:Nat) (o':OObj) (c':Nat),(s.H fa)[y]?=some o'/\ρ fa y=some (j,c'):=fun j=>by
  constructor
  ·rintro⟨y,o,c',g1,g2⟩
   exact⟨y,_,c',(hF y _).2 ⟨o,g1,rfl⟩,by rw[<- hρ0];exact g2⟩
  rintro⟨y,o',c',g1,g2⟩
  obtain⟨o,g3,_⟩:=(hF y o').1 g1
  exact⟨y,o,c',g3,by rw[hρ0];exact g2⟩
 have hownX: ∀j,own j->Xo X ρ s.H j:=fun j hj=>by
  obtain⟨y,o',c',g1,g2⟩:=(hown j).1 hj
  exact .inr ⟨fa,y,o',c',g1,g2⟩
 let X1:Nat->Prop:=fun j=>Xo X ρ s.H j/\ ¬own j
 have hXlt: ∀j,Xo X ρ s.H j->j<w.heap.size:=fun b hb=>by
  rcases hb with hb|⟨x,y,o',n,g1,g2⟩
  ·exact hinv.bar b hb
  exact dW (hinv.objs x y o' g1) g2
 have hset:Xo X1 ρ0 (famH 0 F)=Xo X ρ s.H:=by
  funext j
  apply propext
  constructor
  ·rintro(h|⟨x,y,o',c',g1,g2⟩)
   ·exact h.1
   have hx0:x=0:=by
    by_cases h:x=0
    ·exact h
    simp[famH,h]at g1
   subst hx0
   exact hownX j ⟨y,o',c',by simpa[famH] using g1,g2⟩
  intro h
  by_cases hj:own j
  ·obtain⟨y,o',c',g1,g2⟩:=hj
   exact .inr ⟨0,y,o',c',by simpa[famH] using g1,g2⟩
  exact .inl ⟨h,hj⟩
 have f0: ∀(x y:Nat) o',(famH 0 F x)[y]?=some o'->x=0/\F[y]?=some o':=fun x y o' h=>by
  by_cases hx:x=0
  ·subst hx;exact⟨rfl,by simpa[famH] using h⟩
  simp[famH,hx]at h
 have back0: ∀x v,fP 0 x->AV.rel ρ s.H (Xo X ρ s.H) w (bM fa x) v->AV.rel ρ0 (famH 0 F) (Xo X ρ s.H) w x v:=fun x v hs h=>by
  cases x with
  |p x=>exact h
  |junk=>trivial
  |sl z y off len=>
   have hs:z=0:=hs
   subst hs
   obtain⟨o',g1,g2,g3⟩:=h
   obtain⟨o2,g4,rfl⟩:=(hF y o').1 g1
   exact⟨o2,by simpa[famH] using g4,by simpa[renO] using g2,me hfa g3 (hρ0 y)⟩
  |ptr z y i j=>
   have hs:z=0:=hs
   subst hs
   obtain⟨o',b',c',g1,g2,g3,g5⟩:=h
   obtain⟨o2,g4,rfl⟩:=(hF y o').1 g1
   exact⟨o2,b',c',by simpa[famH] using g4,by rw[hρ0];exact g2,by simpa[renO] using g3,g5⟩
 have hinv0:Inv w own X1 (famH 0 F) ρ0 w:=by
  refine⟨Keep.refl w,fun x y o' ho'=>?_,fun x y x' y' o1 o2 j c1 c2 ho1 ho2 q1 q2=>?_,fun x y o' j c' ho' q=>?_,fun j hj=>hXlt j hj.1,fun x y o' ho'=>?_⟩
  ·obtain⟨rfl,ho'⟩:=f0 x y o' ho'
   rw[hset]
   obtain⟨z1,z2,z3⟩:=hinv.objs fa y (renO fa o') ((hF y _).2 ⟨o',ho',rfl⟩)
   refine⟨fun e he=>?_,z2,?_⟩
   ·have:=z1 (e.map (bM fa)) (by simp only[renO,au];exact⟨e,he,rfl⟩)
    simpa[renO] using this
   rw[hρ0]
   cases hr:ρ fa y with
   |none=>rw[hr]at z3;simpa[renO] using z3
   |some bc=>
    obtain⟨b',c'⟩:=bc
    rw[hr]at z3
    obtain⟨cells,p1,p2,p3,p4,p5⟩:=z3
    refine⟨cells,p1,p2,by simpa[renO] using p3,p4,fun i e j z he hz=>?_⟩
    obtain⟨u,u1,u2,u3⟩:=p5 i (e.map (bM fa)) j (bM fa z) (by simp[renO,he]) (by rw[aH,hz];rfl)
    exact⟨u,u1,u2,back0 z u (hself o' (aE ho') e (aE he) z (aE hz)) u3⟩
  ·obtain⟨rfl,ho1⟩:=f0 x y o1 ho1
   obtain⟨rfl,ho2⟩:=f0 x' y' o2 ho2
   exact⟨rfl,(hinv.inj fa y fa y' _ _ j c1 c2 ((hF y _).2 ⟨o1,ho1,rfl⟩) ((hF y' _).2 ⟨o2,ho2,rfl⟩) (by rw[<- hρ0];exact q1) (by rw[<- hρ0];exact q2)).2⟩
  ·obtain⟨rfl,ho'⟩:=f0 x y o' ho'
   have ho2:own j:=⟨y,o',c',ho',q⟩
   exact⟨.inr ho2,fun h=>h.2 ho2⟩
  obtain⟨rfl,ho'⟩:=f0 x y o' ho'
  exact hself o' (aE ho')
 have hrun:=mR (w:=w) ho hcal (e:=a.eval) rfl hcon.able
 unfold Oper.wp
 rw[hrun]
 simp only[Oper.upon]
 have hsize:c.args.size=args.length:=by simpa using e1.symm
 refine(hcon.calls X1 w (c.args.map a.eval) ρ0 b cc hinv0 (by rw[hρ0];exact hρ) (by simp[hsize]) ?_ ?_).mono ?_
 ·rw[Array.getElem?_map]
  have:c.args[k]?=some x:=by simpa using hx
  rw[this]
  exact congrArg some hv
 ·intro j t hj ht
  rw[hset]
  have ht2:(args.set k (.one (.sl fa 0 0 n)))[j]?=some t:=by rw[List.getElem?_set_ne (Ne.symm hj)];exact ht
  obtain⟨y,hy,hyt⟩:=e2 j t ht2
  refine⟨a.eval y,?_,zP (fun _ h=>h) (qy (i:=0) hpure (by omega) ht) (eH htm y t hyt)⟩
  rw[Array.getElem?_map]
  have:c.args[j]?=some y:=by simpa using hy
  rw[this];rfl
 rintro e w1 ⟨v,rfl,ρ',hi,hρ',hr1⟩
 show K (a.put o.dst v) w1
 refine hK v w1 ?_
 have f1: ∀(x y:Nat) o',(famH 0 F' x)[y]?=some o'->x=0/\F'[y]?=some o':=fun x y o' h=>by
  by_cases hx:x=0
  ·subst hx;exact⟨rfl,by simpa[famH] using h⟩
  simp[famH,hx]at h
 generalize hH1:bD s.H fa (F'.map (renO fa))=H1
 generalize hρ1e:(fun x y=>if x=fa then ρ' 0 y else ρ x y:Rho)=ρ1
 have hHf:H1 fa=F'.map (renO fa):=by rw[<- hH1];exact dr
 have hHn: ∀x,x≠fa->H1 x=s.H x:=fun x h=>by rw[<- hH1];exact cz h
 have hρf: ∀y,ρ1 fa y=ρ' 0 y:=fun y=>by rw[<- hρ1e];exact if_pos rfl
 have hρn: ∀x y,x≠fa->ρ1 x y=ρ x y:=fun x y h=>by rw[<- hρ1e];exact if_neg h
 have hF1: ∀(y:Nat) o',(H1 fa)[y]?=some o'↔ ∃o,F'[y]?=some o/\o'=renO fa o:=fun y o'=>by
  rw[hHf,aH]
  constructor
  ·intro h
   obtain⟨o,g1,g2⟩:=Option.map_eq_some_iff.1 h
   exact⟨o,g1,g2.symm⟩
  rintro⟨o,g1,rfl⟩
  rw[g1];rfl
 have hblk: ∀j,j<w.heap.size-> ¬own j->w1.heap[j]?=w.heap[j]?:=fun j hj hno=>hi.keep.block j hj hno
 have hnew: ∀(y:Nat) o' j c',F'[y]?=some o'->ρ' 0 y=some (j,c')->(w.heap.size<=j\/own j)/\ ¬X1 j:=fun y o' j c' g1 g2=>hi.old 0 y o' j c' (by simpa[famH] using g1) g2
 have hXn: ∀j,j<w.heap.size->Xo X ρ1 H1 j->Xo X ρ s.H j:=fun j hj h=>by
  rcases h with h|⟨x,y,o',c',g1,g2⟩
  ·exact .inl h
  by_cases hx:x=fa
  ·subst hx
   obtain⟨o2,g3,_⟩:=(hF1 y o').1 g1
   rw[hρf]at g2
   rcases(hnew y o2 j c' g3 g2).1 with g|g
   ·omega
   exact hownX j g
  rw[hHn x hx]at g1
  rw[hρn x y hx]at g2
  exact .inr ⟨x,y,o',c',g1,g2⟩
 have monop: ∀x v,ee (Xo X ρ s.H) w x v->ee (Xo X ρ1 H1) w1 x v:=fun x v h=>ee.later (fun j hj hx=>hXn j hj hx) hi.keep.size (fun p v hp hno hc=>by
  rw[<- hc]
  exact pG (hblk p.block hp fun h=>hno (hownX _ h))) h
 -- what the call says of the family, told of number fa
 have hset1: ∀j,j<w1.heap.size->Xo X ρ1 H1 j->Xo X1 ρ' (famH 0 F') j:=fun j _ h=>by
  rcases h with h|⟨x,y,o',c',g1,g2⟩
  ·have hj:=hinv.bar j h
   by_cases ho2:own j
   ·obtain⟨y,o',c',g1,g2⟩:=(hown j).1 ho2
    exact absurd h (hinv.old fa y o' j c' g1 g2).2
   exact .inl ⟨.inl h,ho2⟩
  by_cases hx:x=fa
  ·subst hx
   obtain⟨o2,g3,_⟩:=(hF1 y o').1 g1
   rw[hρf]at g2
   exact .inr ⟨0,y,o2,c',by simpa[famH] using g3,g2⟩
  rw[hHn x hx]at g1
  rw[hρn x y hx]at g2
  by_cases ho2:own j
  ·obtain⟨y',o2,c2,k1,k2⟩:=(hown j).1 ho2
   exact absurd (hinv.inj x y fa y' o' o2 j c' c2 g1 k1 g2 k2).1 hx
  exact .inl ⟨.inr ⟨x,y,o',c',g1,g2⟩,ho2⟩
 have fwd: ∀x v,fP 0 x->AV.rel ρ' (famH 0 F') (Xo X1 ρ' (famH 0 F')) w1 x v->AV.rel ρ1 H1 (Xo X ρ1 H1) w1 (bM fa x) v:=fun x v hs h=>by
  cases x with
  |p x=>exact ee.weaken (fun j hj hx=>hset1 j hj hx) h
  |junk=>trivial
  |sl z y off len=>
   have hs:z=0:=hs
   subst hs
   obtain⟨o',g1,g2,g3⟩:=h
   obtain⟨_,g1⟩:=f1 0 y o' g1
   exact⟨renO fa o',(hF1 y _).2 ⟨o',g1,rfl⟩,by simpa[renO] using g2,me (by decide) g3 (hρf y)⟩
  |ptr z y i j=>
   have hs:z=0:=hs
   subst hs
   obtain⟨o',b',c',g1,g2,g3,g5⟩:=h
   obtain⟨_,g1⟩:=f1 0 y o' g1
   exact⟨renO fa o',b',c',(hF1 y _).2 ⟨o',g1,rfl⟩,by rw[hρf];exact g2,by simpa[renO] using g3,g5⟩
 have mono: ∀x v,AV.rel ρ s.H (Xo X ρ s.H) w x v->AV.rel ρ1 H1 (Xo X ρ1 H1) w1 (bx (kM fa) x) v:=fun x v h=>by
  cases x with
  |p x=>exact monop x v h
  |junk=>trivial
  |sl z y off len=>
   obtain⟨o',g1,g2,g3⟩:=h
   simp only[bx]
   by_cases hz:z=fa
   ·subst hz
    by_cases hy:y=0
    ·subst hy
     obtain⟨o2,g4,rfl⟩:=(hF 0 o').1 g1
     rw[ho0]at g4
     injection g4 with g4
     subst g4
     rw[if_neg (by simp[kM])]
     refine⟨renO z o1,(hF1 0 _).2 ⟨o1,ho1,rfl⟩,by simp[renO]at g2⊢;omega,?_⟩
     have:(renO z o1).es=(renO z o0).es:=hes
     rw[this]
     exact me hfa g3 (by rw[hρf,hρ',hρ])
    rw[if_pos (by simp[kM,hy])];trivial
   rw[if_neg (by simp[kM,hz])]
   exact⟨o',by rw[hHn z hz];exact g1,g2,by rw[hρn z y hz];exact g3⟩
  |ptr z y i j=>
   obtain⟨o',b',c',g1,g2,g3,g5⟩:=h
   simp only[bx]
   by_cases hz:z=fa
   ·subst hz
    by_cases hy:y=0
    ·subst hy
     obtain⟨o2,g4,rfl⟩:=(hF 0 o').1 g1
     rw[ho0]at g4
     injection g4 with g4
     subst g4
     rw[if_neg (by simp[kM])]
     refine⟨renO z o1,b',c',(hF1 0 _).2 ⟨o1,ho1,rfl⟩,by rw[hρf,hρ',<- hρ];exact g2,by simp[renO]at g3⊢;omega,?_⟩
     have:(renO z o1).es=(renO z o0).es:=hes
     rw[this];exact g5
    rw[if_pos (by simp[kM,hy])];trivial
   rw[if_neg (by simp[kM,hz])]
   exact⟨o',b',c',by rw[hHn z hz];exact g1,by rw[hρn z y hz];exact g2,g3,g5⟩
 have monoN: ∀(z:Nat) x v,z≠fa->fP z x->AV.rel ρ s.H (Xo X ρ s.H) w x v->AV.rel ρ1 H1 (Xo X ρ1 H1) w1 x v:=fun z x v hz hs h=>by
  have:=mono x v h
  cases x with
  |sl y _ _ _=>have hs:y=z:=hs;subst hs;simpa[bx,kM,hz] using this
  |ptr y _ _ _=>have hs:y=z:=hs;subst hs;simpa[bx,kM,hz] using this
  |p x=>exact this
  |junk=>trivial
 have hinv':Inv w0 O X H1 ρ1 w1:=by
  refine⟨⟨hi.keep.os.trans hinv.keep.os,hi.keep.tape.trans hinv.keep.tape,hi.keep.output.trans hinv.keep.output,aI hinv.keep.size hi.keep.size,fun j hj hno=>?_⟩,fun x y o' ho'=>?_,fun x y x' y' o1 o2 j c1 c2 ho1 ho2 q1 q2=>?_,fun x y o' j c' ho' q=>?_,fun j hj=>Nat.lt_of_lt_of_le (hinv.bar j hj) hi.keep.size,fun x y o' ho'=>?_⟩
  ·rw[hblk j (Nat.lt_of_lt_of_le hj hinv.keep.size) fun h=>?_]
   ·exact hinv.keep.block j hj hno
   obtain⟨y,o',c',g1,g2⟩:=(hown j).1 h
   rcases(hinv.old fa y o' j c' g1 g2).1 with g|g
   ·omega
   exact hno g
  ·by_cases hx:x=fa
   ·subst hx
    obtain⟨o2,g3,rfl⟩:=(hF1 y o').1 ho'
    obtain⟨z1,z2,z3⟩:=hi.objs 0 y o2 (by simpa[famH] using g3)
    refine⟨fun e he=>?_,z2,?_⟩
    ·simp only[renO,au]at he
     obtain⟨e',he',rfl⟩:=he
     rw[List.length_map];exact z1 e' he'
    rw[hρf]
    cases hr:ρ' 0 y with
    |none=>rw[hr]at z3;simp[renO,z3]
    |some bc=>
     obtain⟨b',c'⟩:=bc
     rw[hr]at z3
     obtain⟨cells,p1,p2,p3,p4,p5⟩:=z3
     refine⟨cells,p1,p2,by simpa[renO] using p3,p4,fun i e j z he hz=>?_⟩
     simp only[renO,aH]at he
     obtain⟨e',he',rfl⟩:=Option.map_eq_some_iff.1 he
     rw[aH]at hz
     obtain⟨z',hz',rfl⟩:=Option.map_eq_some_iff.1 hz
     obtain⟨u,u1,u2,u3⟩:=p5 i e' j z' he' hz'
     exact⟨u,u1,u2,fwd z' u (hself' o2 (aE g3) e' (aE he') z' (aE hz')) u3⟩
   rw[hHn x hx]at ho'
   have hob:=hinv.objs x y o' ho'
   obtain⟨z1,z2,z3⟩:=id hob
   refine⟨z1,z2,?_⟩
   rw[hρn x y hx]
   cases hr:ρ x y with
   |none=>rw[hr]at z3;exact z3
   |some bc=>
    obtain⟨b',c'⟩:=bc
    rw[hr]at z3
    obtain⟨cells,p1,p2,p3,p4,p5⟩:=z3
    refine⟨cells,?_,p2,p3,p4,fun i e j z he hz=>?_⟩
    ·rw[hblk b' (dW hob hr) fun h=>?_]
     ·exact p1
     obtain⟨y',o2,c2,k1,k2⟩:=(hown b').1 h
     exact hx (hinv.inj x y fa y' o' o2 b' c' c2 ho' k1 hr k2).1
    obtain⟨u,u1,u2,u3⟩:=p5 i e j z he hz
    exact⟨u,u1,u2,monoN x z u hx (hinv.self x y o' ho' e (aE he) z (aE hz)) u3⟩
  ·by_cases hx:x=fa
   ·subst hx
    obtain⟨o3,g3,_⟩:=(hF1 y o1).1 ho1
    rw[hρf]at q1
    by_cases hx':x'=x
    ·subst hx'
     obtain⟨o4,g4,_⟩:=(hF1 y' o2).1 ho2
     rw[hρf]at q2
     exact⟨rfl,(hi.inj 0 y 0 y' o3 o4 j c1 c2 (by simpa[famH] using g3) (by simpa[famH] using g4) q1 q2).2⟩
    rw[hHn x' hx']at ho2
    rw[hρn x' y' hx']at q2
    exfalso
    have hlt:=dW (hinv.objs x' y' o2 ho2) q2
    rcases(hnew y o3 j c1 g3 q1).1 with g|g
    ·omega
    obtain⟨y3,o5,c5,k1,k2⟩:=(hown j).1 g
    exact hx' (hinv.inj x' y' x y3 o2 o5 j c2 c5 ho2 k1 q2 k2).1
   rw[hHn x hx]at ho1
   rw[hρn x y hx]at q1
   by_cases hx':x'=fa
   ·subst hx'
    obtain⟨o4,g4,_⟩:=(hF1 y' o2).1 ho2
    rw[hρf]at q2
    exfalso
    have hlt:=dW (hinv.objs x y o1 ho1) q1
    rcases(hnew y' o4 j c2 g4 q2).1 with g|g
    ·omega
    obtain⟨y3,o5,c5,k1,k2⟩:=(hown j).1 g
    exact hx (hinv.inj x y x' y3 o1 o5 j c1 c5 ho1 k1 q1 k2).1
   rw[hHn x' hx']at ho2
   rw[hρn x' y' hx']at q2
   exact hinv.inj x y x' y' o1 o2 j c1 c2 ho1 ho2 q1 q2
  ·by_cases hx:x=fa
   ·subst hx
    obtain⟨o3,g3,_⟩:=(hF1 y o').1 ho'
    rw[hρf]at q
    rcases(hnew y o3 j c' g3 q).1 with g|g
    ·refine⟨.inl (aI hinv.keep.size g),fun hX=>?_⟩
     have:=hinv.bar j hX
     omega
    obtain⟨y3,o5,c5,k1,k2⟩:=(hown j).1 g
    exact hinv.old x y3 o5 j c5 k1 k2
   rw[hHn x hx]at ho'
   rw[hρn x y hx]at q
   exact hinv.old x y o' j c' ho' q
  by_cases hx:x=fa
  ·subst hx
   obtain⟨o3,g3,rfl⟩:=(hF1 y o').1 ho'
   intro e he z hz
   simp only[renO,au]at he
   obtain⟨e',he',rfl⟩:=he
   simp only[au]at hz
   obtain⟨z',hz',rfl⟩:=hz
   exact j1 x z'
  rw[hHn x hx]at ho'
  exact hinv.self x y o' ho'
 have htm':dN X ρ1 ⟨s.tmps.map (bz (kM fa)),H1⟩ a w1:=fun t x hx=>by
  simp only[aH]at hx
  obtain⟨y,hy,rfl⟩:=Option.map_eq_some_iff.1 hx
  obtain⟨u,u1,u2⟩:=htm t y hy
  exact⟨u,u1,n6 u2 mono⟩
 refine⟨by rw[jZ];exact h1,by rw[mP,gm];simpa using hsz,ρ1,by rw[jY];exact hinv',sy (s:=⟨s.tmps.map (bz (kM fa)),H1⟩) (by simpa using hsz) htm' ?_⟩
 exact zF (fun j hj hx=>hset1 j hj hx) hcon.noref hr1
end
end
section
section
variable {P:Program} {k:Nat} {s s':AS} {Q:Exit->AS->Prop}
theorem x7 {items:List (fh P)} (hI:iL P items) {ow:List Nat} {ops:Array Oper} (hk:lw k ops=true) {v0:Value} {w0:World} {O X:Nat->Prop} {Q:Exit->Act->World->Prop} {suf:List Nat}: ∀(l:List Oper) (n:Nat) (s s':AS) (a:Act) (w:World),(∀(j:Nat) o,l[j]?=some o->ops[n+j]?=some o)->
  jG P items ow ops (l.zipIdx n) s=some s'->lL k v0 w0 O X s a w->(∀a' w',lL k v0 w0 O X s' a' w'->wpOps P ops Q suf a' w')->wpOps P ops Q (List.range' n l.length++suf) a w
 |[],n,s,s',a,w,_,h,r,hQ=>by
  simp only[List.zipIdx_nil,jG]at h
  injection h with h
  subst h
  exact hQ a w r
 |o::l,n,s,s',a,w,hl,h,r,hQ=>by
  simp only[List.zipIdx_cons,jG]at h
  split at h
  ·rename_i s1 hs1
   simp only[List.length_cons,List.range'_succ,List.cons_append,wpOps]
   have ho:ops[n]?=some o:=by have:=hl 0 o rfl;simpa using this
   rw[ho]
   simp only
   have:=F6 (Q:=Q) hI r (oX hk ho) hs1 (K:=wpOps P ops Q (List.range' (n+1) l.length++suf)) (fun v w' hr=>x7 hI hk l (n+1) s1 s' _ _ (fun j o hj=>by have:=hl (j+1) o (by simpa using hj);rwa[show n+(j+1)=n+1+j by omega]at this) h hr hQ)
   split at this
   ·rename_i hw;rw[if_pos hw];exact .inl this
   rename_i hw;rw[if_neg hw];exact this
  cases h
structure Ju (ops:Array Oper) (m:Nat) (f:FuncId) (args:List TV) (k n fa:Nat) (F:List OObj) (s:AS):Prop where
 ts:cwTs ops m s=some (f,args.set k (.one (.sl fa 0 0 n)))
 fam:s.H fa=F.map (renO fa)
def G5 (ops:Array Oper) (m:Nat) (r:TV) (fa:Nat) (F':List OObj) (s:AS):AS:=AS.put ⟨s.tmps.map (bz (kM fa)),bD s.H fa (F'.map (renO fa))⟩ (cwD ops m) r
theorem G6 {ops:Array Oper} {m:Nat} {r:TV} {fa:Nat} {F':List OObj} {s:AS}:(G5 ops m r fa F' s).tmps.length=s.tmps.length:=by
 unfold G5;rw[gm];simp
theorem tN (m:Nat) {f:FuncId} {args:List TV} {ka n:Nat} {F F':List OObj} {r:TV} (hcon:qm P f args ka n F F' r) (fa:Nat) (items:List (bj P)) (ow:List Nat) {id:Nat} {ops:Array Oper} (hkd:lw k ops=true) (hk:ka<args.length) (hlen:0<n) (hpure:ju ka 0 args=true) (hself: ∀o∈F,selfO 0 o) (hself': ∀o∈F',selfO 0 o) (hfa:fa<=4999) (hl:s.tmps.length<=1000000) (hm:m<ops.toList.length)
  (h:fd P (items.map bj.a) ow (dZ ops (ops.toList.take m) 0) (some s) (fun s1=>Ju ops m f args ka n fa F s1/\s1.tmps.length<=1000000/\fd P (items.map bj.a) ow (dZ ops (ops.toList.drop (m+1)) (m+1)) (some (G5 ops m r fa F' s1)) (Q .normal))):gZ P k (.region id ops false) Q s:=fun v0 w0 O X a w r0=>by
 obtain⟨s1,h1,⟨q1,q2⟩,hl1,h2⟩:=eA P (items.map bj.a) ow ops _ 0 s _ hl h
 obtain⟨s',h3,h4⟩:=eA P (items.map bj.a) ow ops _ (m+1) _ _ (by rw[G6];exact hl1) h2
 obtain⟨o,ho⟩: ∃o,ops[m]?=some o:=⟨ops[m],by simp at hm;simp[hm]⟩
 unfold cwTs at q1
 rw[ho]at q1
 simp only at q1
 split at q1
 ·rename_i c hg hop1
  split at q1
  ·rename_i f' hcal
   split at q1
   ·rename_i ts hts
    injection q1 with q1
    injection q1 with q1 q3
    subst q1 q3
    refine wp_region ?_
    have hsz:ops.size=(ops.toList.take m).length+(1+(ops.toList.drop (m+1)).length):=by simp at hm⊢;omega
    rw[hsz,List.range_eq_range',<- List.range'_append_1,Nat.zero_add]
    have hml:(ops.toList.take m).length=m:=by rw[List.length_take];omega
    refine x7 (bj.ok items) hkd (ops.toList.take m) 0 s s1 a w (fun j o hj=>?_) h1 r0 fun a' w' r'=>?_
    ·rw[List.getElem?_take]at hj
     split at hj
     ·simpa using hj
     cases hj
    rw[hml,Nat.add_comm 1,List.range'_succ]
    simp only[wpOps,ho]
    rw[if_pos (by simp[Region.wanted,hg])]
    refine .inl (EN r'.1 hop1 hcal hcon hfa hk hlen hts hpure q2 hself hself' fun v w1 hr1=>?_)
    refine oh (bj.ok items) hkd (Q:=fun e a' w'=> ∃s',Q e s'/\lL k v0 w0 O X s' a' w') (ops.toList.drop (m+1)) (m+1) _ s' _ _ (fun j o hj=>?_) h3 ⟨?_,?_⟩ (fun a' w' hr=>⟨s',h4,hr⟩)
    ·rw[List.getElem?_drop]at hj
     simpa using hj
    ·have:cwD ops m=o.dst:=by unfold cwD;rw[ho];rfl
     unfold G5
     rw[this]
     exact hr1
    rw[rm v (oX hkd ho)];exact r'.2
   cases q1
  cases q1
 cases q1
theorem yP (m:Nat) {f:FuncId} {args:List TV} {ka n:Nat} {F F':List OObj} {r:TV} (hcon:qm P f args ka n F F' r) (fa:Nat) (items:List (bj P)) (ow:List Nat) {id:Nat} {ops:Array Oper} {y:Code} (hkd:lw k ops=true) (hk:ka<args.length) (hlen:0<n) (hpure:ju ka 0 args=true) (hself: ∀o∈F,selfO 0 o) (hself': ∀o∈F',selfO 0 o) (hfa:fa<=4999) (hl:s.tmps.length<=1000000) (hm:m<ops.toList.length)
  (h: ∀K:AS->Prop,(∀s1,(Ju ops m f args ka n fa F s1/\s1.tmps.length<=1000000/\ ∀K:AS->Prop,(∀s',gZ P k y Q s'->K s')->fd P (items.map bj.a) ow (dZ ops (ops.toList.drop (m+1)) (m+1)) (some (G5 ops m r fa F' s1)) K)->K s1)->fd P (items.map bj.a) ow (dZ ops (ops.toList.take m) 0) (some s) K):gZ P k (.seq (.region id ops false) y) Q s:=
 dw (tN m hcon fa items ow hkd hk hlen hpure hself hself' hfa hl hm (h _ fun s1 ⟨q1,q2,q3⟩=>⟨q1,q2,q3 _ fun _ h=>h⟩))
theorem rk (m:Nat) {f:FuncId} {args:List TV} {ka n:Nat} {F F':List OObj} {r:TV} (hcon:qm P f args ka n F F' r) (fa:Nat) (items:List (bj P)) (ow:List Nat) {id:Nat} {ops:Array Oper} (hkd:lw k ops=true) (hk:ka<args.length) (hlen:0<n) (hpure:ju ka 0 args=true) (hself: ∀o∈F,selfO 0 o) (hself': ∀o∈F',selfO 0 o) (hfa:fa<=4999) (hl:s.tmps.length<=1000000) (hm:m<ops.toList.length)
  (h: ∀K:AS->Prop,(∀s1,(Ju ops m f args ka n fa F s1/\s1.tmps.length<=1000000/\ ∀K:AS->Prop,(∀s',Q .normal s'->K s')->fd P (items.map bj.a) ow (dZ ops (ops.toList.drop (m+1)) (m+1)) (some (G5 ops m r fa F' s1)) K)->K s1)->fd P (items.map bj.a) ow (dZ ops (ops.toList.take m) 0) (some s) K):gZ P k (.region id ops false) Q s:=
 tN m hcon fa items ow hkd hk hlen hpure hself hself' hfa hl hm (h _ fun s1 ⟨q1,q2,q3⟩=>⟨q1,q2,q3 _ fun _ h=>h⟩)
theorem DF {c:Code} (hk:k<s.tmps.length) (h:gZ P k c Q s):da P c Q s:=fun w0 O X a w r=>by
 obtain⟨v0,hv⟩: ∃v0,a.tmps[k]?=some v0:=⟨a.tmps[k]'(by rw[r.2.1];exact hk),by simp⟩
 exact wp_mono (h v0 w0 O X a w ⟨r,hv⟩) fun e a' w' ⟨s',h1,h2⟩=>⟨s',h1,h2.1⟩
end
def vk (m:Nat):AV->Prop
 | .sl _ r _ _=>r<m
 | .ptr _ r _ _=>r<m
 |_=>True
theorem B0 {s:AS} (a:Nat) {F:List OObj} {o:OObj} (hH:s.H a=F++[o]) (hself: ∀q∈F,∀e∈q.elems,∀x∈e,vk F.length x):
  eg s ⟨s.tmps.map (bz fun x y=>x==a&&y==F.length),bD s.H a F⟩:=by
 rintro w0 O X act w ⟨h1,hsz,ρ,hinv,htm⟩
 have htm:dN X ρ s act w:=htm
 generalize hH1:bD s.H a F=H1
 have hHa:H1 a=F:=by rw[<- hH1];exact dr
 have hHn: ∀x,x≠a->H1 x=s.H x:=fun x h=>by rw[<- hH1];exact cz h
 have back: ∀(x y:Nat) q,(H1 x)[y]?=some q->(s.H x)[y]?=some q/\(x=a->y<F.length/\q∈F):=fun x y q h=>by
  by_cases hx:x=a
  ·subst hx
   rw[hHa]at h
   have hlt:=(List.getElem?_eq_some_iff.1 h).1
   exact⟨by rw[hH,List.getElem?_append_left hlt];exact h,fun _=>⟨hlt,aE h⟩⟩
  rw[hHn x hx]at h
  exact⟨h,fun e=>absurd e hx⟩
 have fwd: ∀(x y:Nat) q,(s.H x)[y]?=some q-> ¬(x=a/\y=F.length)->(H1 x)[y]?=some q:=fun x y q h hne=>by
  by_cases hx:x=a
  ·subst hx
   rw[hH]at h
   rw[hHa]
   have hlt:=(List.getElem?_eq_some_iff.1 h).1
   simp at hlt
   rw[List.getElem?_append_left (by have:y≠F.length:=fun e=>hne ⟨rfl,e⟩;omega)]at h
   exact h
  rw[hHn x hx];exact h
 have hXo: ∀c,Xo X ρ H1 c->Xo X ρ s.H c:=fun c hc=>by
  rcases hc with hc|⟨x,y,q,n,g1,g2⟩
  ·exact .inl hc
  exact .inr ⟨x,y,q,n,(back x y q g1).1,g2⟩
 have hav: ∀x v,AV.rel ρ s.H (Xo X ρ s.H) w x v->AV.rel ρ H1 (Xo X ρ H1) w (bx (fun x y=>x==a&&y==F.length) x) v:=fun x v h=>by
  cases x with
  |p x=>exact ee.weaken (fun c _ hc=>hXo c hc) h
  |junk=>trivial
  |sl x y off len=>
   simp only[bx]
   by_cases hc:x=a/\y=F.length
   ·rw[if_pos (by simp[hc])];trivial
   rw[if_neg (by simpa using hc)]
   obtain⟨q,g1,g2⟩:=h
   exact⟨q,fwd x y q g1 hc,g2⟩
  |ptr x y i j=>
   simp only[bx]
   by_cases hc:x=a/\y=F.length
   ·rw[if_pos (by simp[hc])];trivial
   rw[if_neg (by simpa using hc)]
   obtain⟨q,b,c,g1,g2⟩:=h
   exact⟨q,b,c,fwd x y q g1 hc,g2⟩
 refine⟨h1,by simpa using hsz,ρ,⟨hinv.keep,fun x y q hq=>?_,fun x y x' y' q q' c n n' hq hq'=>hinv.inj x y x' y' q q' c n n' (back x y q hq).1 (back x' y' q' hq').1,fun x y q c n hq=>hinv.old x y q c n (back x y q hq).1,hinv.bar,fun x y q hq=>hinv.self x y q (back x y q hq).1⟩,fun t x hx=>?_⟩
 ·obtain⟨hb1,hb2⟩:=back x y q hq
  obtain⟨q1,q2,q3⟩:=hinv.objs x y q hb1
  refine⟨q1,q2,?_⟩
  cases hr:ρ x y with
  |none=>rw[hr]at q3;exact q3
  |some bc=>
   obtain⟨b',c⟩:=bc
   rw[hr]at q3
   obtain⟨cells,p1,p2,p3,p4,p5⟩:=q3
   refine⟨cells,p1,p2,p3,p4,fun i e j z he hz=>?_⟩
   obtain⟨u,u1,u2,u3⟩:=p5 i e j z he hz
   refine⟨u,u1,u2,?_⟩
   have hs:=hinv.self x y q hb1 e (aE he) z (aE hz)
   have hk:=hav z u u3
   have hlt:x=a->vk F.length z:=fun hx=>hself q (hb2 hx).2 e (aE he) z (aE hz)
   cases z with
   |p z=>exact hk
   |junk=>trivial
   |sl z r off len=>
    have hs:z=x:=hs
    subst hs
    rw[show bx (fun x y=>x==a&&y==F.length) (.sl z r off len)= .sl z r off len from if_neg (by
     simp only[Bool.and_eq_true,beq_iff_eq]
     rintro⟨e1,e2⟩
     have hl:r<F.length:=hlt e1
     omega)]at hk
    exact hk
   |ptr z r i' j'=>
    have hs:z=x:=hs
    subst hs
    rw[show bx (fun x y=>x==a&&y==F.length) (.ptr z r i' j')= .ptr z r i' j' from if_neg (by
     simp only[Bool.and_eq_true,beq_iff_eq]
     rintro⟨e1,e2⟩
     have hl:r<F.length:=hlt e1
     omega)]at hk
    exact hk
 simp only[aH]at hx
 obtain⟨y,hy,rfl⟩:=Option.map_eq_some_iff.1 hx
 obtain⟨v,v1,v2⟩:=htm t y hy
 exact⟨v,v1,n6 v2 hav⟩
end
section
structure I7 (P:Program) (b:Nat) (ty:TypeId) (cs:List PV) where
 i:Nat
 f:FuncId
 args:List TV
 res:CallRes
 h:CallT P b ty f args cs res cs
 ok:lentOk args res cs=true
def I7.a {P:Program} {b:Nat} {ty:TypeId} {cs:List PV} (it:I7 P b ty cs):fh P:=⟨it.i,it.f,it.args,it.res⟩
section
variable {P:Program} {b:Nat} {ty:TypeId} {cs:List PV} {Q:Exit->AS->List PV->Prop} {s:AS}
end
end
section
def u5 (b:Nat) (_ty:TypeId) (cs:List PV) (w:World):Prop:=
 b<w.heap.size/\ ∀(j:Nat) x,cs[j]?=some x-> ∃v:Value,x= .raw v/\w.cell? ⟨b,j,none⟩=some v/\v.oneCell'=true
theorem u5.lt {b:Nat} {ty:TypeId} {cs:List PV} {w:World} (h:u5 b ty cs w):b<w.heap.size:=h.1
def nO (b:Nat) (ty:TypeId) (w0:World) (O X:Nat->Prop) (s:AS) (cs:List PV) (a:Act) (w:World):Prop:=iW w0 O X s a w/\u5 b ty cs w0/\ ¬O b
theorem nO.box {b:Nat} {ty:TypeId} {w0 w:World} {O X:Nat->Prop} {s:AS} {cs:List PV} {a:Act} (h:nO b ty w0 O X s cs a w):u5 b ty cs w:=by
 obtain⟨⟨_,_,ρ,hinv,_⟩,hb,hO⟩:=h
 have hlt:=hb.lt
 refine⟨Nat.lt_of_lt_of_le hlt hinv.keep.size,fun j x hx=>?_⟩
 obtain⟨v,h1,h2,h3⟩:=hb.2 j x hx
 exact⟨v,h1,by rw[pG (hinv.keep.block b hlt hO)];exact h2,h3⟩
section
variable {P:Program} {b:Nat} {ty:TypeId} {cs cs':List PV} {s s':AS} {w0 w:World} {O X:Nat->Prop} {a:Act}
def f6 (P:Program) (b:Nat) (ty:TypeId) (c:Code) (Q:Exit->AS->List PV->Prop) (s:AS) (cs:List PV):Prop:=
 ∀(w0:World) (O X:Nat->Prop) (a:Act) (w:World),nO b ty w0 O X s cs a w->c.wp P (fun e a' w'=> ∃s' cs',Q e s' cs'/\nO b ty w0 O X s' cs' a' w') a w
variable {Q:Exit->AS->List PV->Prop}
theorem nQ {c:Code} (h:da P c (fun e s'=>Q e s' cs) s):f6 P b ty c Q s cs:=fun w0 O X a w r=>
 wp_mono (h _ _ _ _ _ r.1) fun e a' w' ⟨s',g1,g2⟩=>⟨s',cs,g1,g2,r.2⟩
theorem nO.weak (h:eg s s') (r:nO b ty w0 O X s cs a w):nO b ty w0 O X s' cs a w:=⟨h _ _ _ _ _ r.1,r.2⟩
theorem f6.weak {c:Code} (h:eg s s') (k:f6 P b ty c Q s' cs):f6 P b ty c Q s cs:=fun _ _ _ _ _ r=>k _ _ _ _ _ (r.weak h)
theorem f6.mono {c:Code} {Q':Exit->AS->List PV->Prop} (h:f6 P b ty c Q s cs) (k: ∀e s' cs',Q e s' cs'->Q' e s' cs'):f6 P b ty c Q' s cs:=fun _ _ _ _ _ r=>
 wp_mono (h _ _ _ _ _ r) fun _ _ _ ⟨s',cs',h1,h2⟩=>⟨s',cs',k _ _ _ h1,h2⟩
theorem d7 (h:Q .normal s cs):f6 P b ty .skip Q s cs:=fun _ _ _ _ _ r=>wp_skip ⟨s,cs,h,r⟩
theorem gB {id:Nat} (h:Q (.exit id) s cs):f6 P b ty (.exit id) Q s cs:=fun _ _ _ _ _ r=>wp_exit ⟨s,cs,h,r⟩
theorem ib (h:Q .ret s cs):f6 P b ty .ret Q s cs:=fun _ _ _ _ _ r=>wp_ret ⟨s,cs,h,r⟩
theorem cP {x y:Code} (h:f6 P b ty x (uT (f6 P b ty y Q) Q) s cs):f6 P b ty (.seq x y) Q s cs:=fun _ _ _ _ _ r=>
 wp_seq (wp_mono (h _ _ _ _ _ r) fun e a w ⟨s',cs',h1,h2⟩=>by
  cases e with
  |normal=>exact h1 _ _ _ _ _ h2
  |_=>exact⟨s',cs',h1,h2⟩)
theorem eh {id:Nat} {x:Code} (h:f6 P b ty x (pF id Q) s cs):f6 P b ty (.block id x) Q s cs:=fun _ _ _ _ _ r=>
 wp_block (wp_mono (h _ _ _ _ _ r) fun e a w ⟨s',cs',h1,h2⟩=>by
  cases e with
  |exit id'=>
   simp only[pF]at h1
   simp only[Exit.inBlock]
   split at h1
   ·rename_i hid;rw[if_pos hid];exact⟨s',cs',h1,h2⟩
   rename_i hid;rw[if_neg hid];exact⟨s',cs',h1,h2⟩
  |_=>exact⟨s',cs',h1,h2⟩)
theorem wJ {c:Operand} {x y:Code} {v:Bool} (hc:s.ev c=some (.raw (.bool v))) (ht:v=true->f6 P b ty x Q s cs) (hf:v=false->f6 P b ty y Q s cs):f6 P b ty (.cond c x y) Q s cs:=fun _ _ _ _ _ r=>by
 obtain⟨⟨h1,hsz,ρ,hinv,htm⟩,_⟩:=id r
 have hb:=(dQ (eH htm c _ hc)).1
 exact wp_cond_split hb (fun h=>ht h _ _ _ _ _ r) (fun h=>hf h _ _ _ _ _ r)
theorem fv {P:Program} {b:Nat} {ty:TypeId} {cs:List PV} {s:AS} {Q:Exit->AS->List PV->Prop} {c:Operand} {x y:Code} {v:Bool} (hc:s.ev c=some (.raw (.bool v))) (ht:f6 P b ty x Q s cs) (hf:v=false->False:=by intro h;simp at h<;>omega):f6 P b ty (.cond c x y) Q s cs:=wJ hc (fun _=>ht) (fun h=>(hf h).elim)
theorem fK {P:Program} {b:Nat} {ty:TypeId} {cs:List PV} {s:AS} {Q:Exit->AS->List PV->Prop} {c:Operand} {x y:Code} {v:Bool} (hc:s.ev c=some (.raw (.bool v))) (ht:f6 P b ty y Q s cs) (hf:v=true->False:=by intro h;simp at h<;>omega):f6 P b ty (.cond c x y) Q s cs:=wJ hc (fun h=>(hf h).elim) (fun _=>ht)
theorem DH {G:Type} (St:G->AS) (Sc:G->List PV) (μ:G->Nat) (g0:G) {c:Code} (h0:eg s (St g0)) (h0':Sc g0=cs)
  (round: ∀g,f6 P b ty c (uT (fun s' cs'=> ∃g',μ g'<μ g/\eg s' (St g')/\Sc g'=cs') Q) (St g) (Sc g)):f6 P b ty (.loop c) Q s cs:=fun w0 O X a w r=>by
 classical
 subst h0'
 let p:Act->World->Nat->Prop:=fun a w n=> ∃g,μ g=n/\nO b ty w0 O X (St g) (Sc g) a w
 let m:Act->World->Nat:=fun a w=>if h: ∃n,p a w n then Classical.choose (dB h)else 0
 refine wp_loop (fun a w=> ∃n,p a w n) m ⟨_,g0,rfl,r.weak h0⟩ ?_
 intro a w hI
 have hm:m a w=Classical.choose (dB hI):=dif_pos hI
 obtain⟨hp,hleast⟩:=Classical.choose_spec (dB hI)
 rw[<- hm]at hp
 obtain⟨g,hg,hr⟩:=hp
 refine wp_mono (round g _ _ _ _ _ hr) fun e a' w' ⟨s',cs',h1,h2⟩=>?_
 cases e with
 |normal=>
  obtain⟨g',hlt,hw,hcs⟩:=h1
  subst hcs
  have hr':=h2.weak hw
  have hI': ∃n,p a' w' n:=⟨_,g',rfl,hr'⟩
  refine⟨hI',?_⟩
  have hm':m a' w'=Classical.choose (dB hI'):=dif_pos hI'
  obtain⟨_,hl'⟩:=Classical.choose_spec (dB hI')
  have:=hl' (μ g') ⟨g',rfl,hr'⟩
  rw[hm']
  omega
 |_=>exact⟨s',cs',h1,h2⟩
theorem f9 {G:Type} (St:G->AS) (Sc:G->List PV) (μ:G->Nat) (g0:G) {id:Nat} {x:Code} (h0:eg s (St g0)) (h0':Sc g0=cs)
  (round: ∀g,f6 P b ty x (uT (fun s' cs'=> ∃g',μ g'<μ g/\eg s' (St g')/\Sc g'=cs') (pF id Q)) (St g) (Sc g)):f6 P b ty (.block id (.loop x)) Q s cs:=
 eh (DH St Sc μ g0 h0 h0' round)
/-! Regions. -/
theorem bX {y:Code} (items:List (bj P)) (ow:List Nat) {id:Nat} {ops:Array Oper} (hl:s.tmps.length<=1000000) (h: ∀K:AS->Prop,(∀s',f6 P b ty y Q s' cs->K s')->fd P (items.map bj.a) ow (dZ ops ops.toList 0) (some s) K):f6 P b ty (.seq (.region id ops false) y) Q s cs:=
 cP (nQ (m6 items ow hl (h _ fun _ h=>h)))
theorem eu (items:List (bj P)) (ow:List Nat) {id:Nat} {ops:Array Oper} (hl:s.tmps.length<=1000000) (h: ∀K:AS->Prop,(∀s',Q .normal s' cs->K s')->fd P (items.map bj.a) ow (dZ ops ops.toList 0) (some s) K):f6 P b ty (.region id ops false) Q s cs:=
 nQ (m6 items ow hl (h _ fun _ h=>h))
theorem iI (hm:P.follows .mixedOrders=true) (items:List (bj P)) (ow:List Nat) {id:Nat} {y:Code} {ops:Array Oper} (hd:gJ [] ops=true) (hl:s.tmps.length<=1000000) (h: ∀K:AS->Prop,(∀s',f6 P b ty y Q s' cs->K s')->fd P (items.map bj.a) ow (dZ ops ops.toList 0) (some s) K):f6 P b ty (.seq (.region id ops true) y) Q s cs:=
 cP (nQ (kY hm items ow hd (by simp) (fun x hx=>by simp at hx) hl (h _ fun _ h=>h)))
theorem i4 (hm:P.follows .mixedOrders=true) (items:List (bj P)) (ow:List Nat) {id:Nat} {ops:Array Oper} (hd:gJ [] ops=true) (hl:s.tmps.length<=1000000) (h: ∀K:AS->Prop,(∀s',Q .normal s' cs->K s')->fd P (items.map bj.a) ow (dZ ops ops.toList 0) (some s) K):f6 P b ty (.region id ops true) Q s cs:=
 nQ (kY hm items ow hd (by simp) (fun x hx=>by simp at hx) hl (h _ fun _ h=>h))
def CallG (P:Program) (b:Nat) (ty:TypeId) (f:FuncId) (args:List TV) (cs:List PV) (res:CallRes):Prop:=callable P f=true/\ ∀w,u5 b ty cs w->yG P f args res w
theorem iP {f:FuncId} {fn:Func} {c:Code} {args:List TV} {res:CallRes} (hf:P.funcs[f]?=some fn) (hb:fn.body=some c) (hn:callable P f=true)
  (h:f6 P b ty c (fun e s k=>(e= .normal\/e= .ret)/\k=cs/\ ∃s',eg s s'/\nH P fn res s') ⟨args++aj (fn.ntmps-args.length) .undef,fun _=>[]⟩ cs):CallG P b ty f args cs res:=
 ⟨hn,fun w hw=>ru (u5 b ty cs) hf hb hn (fun w0 X a hG r=>wp_mono (h w0 _ X a w0 ⟨r,hG,fun h=>h⟩) fun e a' w' ⟨s',k,⟨g1,_,g2⟩,g3⟩=>⟨s',⟨g1,g2⟩,g3.1⟩) w hw⟩
end
structure io (P:Program) (b:Nat) (ty:TypeId) (cs:List PV) where
 i:Nat
 f:FuncId
 args:List TV
 res:CallRes
 h:CallG P b ty f args cs res
 ok:cs=cs
def io.a {P:Program} {b:Nat} {ty:TypeId} {cs:List PV} (it:io P b ty cs):fh P:=⟨it.i,it.f,it.args,it.res⟩
section
variable {P:Program} {b:Nat} {ty:TypeId} {cs cs':List PV} {s s':AS} {w0 w:World} {O X:Nat->Prop} {a:Act} {Q:Exit->AS->List PV->Prop}
theorem CG (items:List (bj P)) (lents:List (io P b ty cs)) (hw:u5 b ty cs w):lK P (items.map bj.a++lents.map io.a) w:=fun it hit=>by
 rcases List.mem_append.1 hit with h|h
 ·exact(bj.ok items).at w it h
 obtain⟨x,_,rfl⟩:=List.mem_map.1 h
 exact x.h.2 w hw
theorem KB (items:List (bj P)) (lents:List (io P b ty cs)) {ow:List Nat} {ops:Array Oper} {i:Nat} {o:Oper} {s1:AS} (hrel:nO b ty w0 O X s cs a w) (h:dR P (items.map bj.a++lents.map io.a) ow ops i o s=some s1) {K:Act->World->Prop} {Q:Exit->Act->World->Prop}
  (hK: ∀v w',nO b ty w0 O X s1 cs (a.put o.dst v) w'->K (a.put o.dst v) w'):if Region.wanted o (yielded ops a.tmps)then o.wp P a w K Q else K (a.put o.dst undef) w:=
 qn (CG items lents hrel.box) hrel.1 h fun v w' hr=>hK v w' ⟨hr,hrel.2⟩
theorem FC (items:List (bj P)) (lents:List (io P b ty cs)) {ow:List Nat} {ops:Array Oper} {Q:Exit->Act->World->Prop}:
  ∀(l:List Oper) (k:Nat) (s s':AS) (a:Act) (w:World),(∀(j:Nat) o,l[j]?=some o->ops[k+j]?=some o)->jG P (items.map bj.a++lents.map io.a) ow ops (l.zipIdx k) s=some s'->nO b ty w0 O X s cs a w->
   (∀a' w',nO b ty w0 O X s' cs a' w'->Q .normal a' w')->wpOps P ops Q (List.range' k l.length) a w
 |[],k,s,s',a,w,_,h,r,hQ=>by
  simp only[List.zipIdx_nil,jG]at h
  injection h with h
  subst h
  exact hQ a w r
 |o::l,k,s,s',a,w,hl,h,r,hQ=>by
  simp only[List.zipIdx_cons,jG]at h
  split at h
  ·rename_i s1 hs1
   simp only[List.length_cons,List.range'_succ,wpOps]
   have ho:ops[k]?=some o:=by have:=hl 0 o rfl;simpa using this
   rw[ho]
   simp only
   have:=KB (Q:=Q) items lents r hs1 (K:=wpOps P ops Q (List.range' (k+1) l.length)) (fun v w' hr=>FC items lents l (k+1) s1 s' _ _ (fun j o hj=>by have:=hl (j+1) o (by simpa using hj);rwa[show k+(j+1)=k+1+j by omega]at this) h hr hQ)
   split at this
   ·rename_i hw;rw[if_pos hw];exact .inl this
   rename_i hw;rw[if_neg hw];exact this
  cases h
theorem B7 (lents:List (io P b ty cs)) (items:List (bj P)) (ow:List Nat) {id:Nat} {ops:Array Oper} (hl:s.tmps.length<=1000000)
  (h:fd P (items.map bj.a++lents.map io.a) ow (dZ ops ops.toList 0) (some s) (fun s'=>Q .normal s' cs)):f6 P b ty (.region id ops false) Q s cs:=fun w0 O X a w r=>by
 obtain⟨s',h1,h2⟩:=eA P _ ow ops ops.toList 0 s _ hl h
 refine wp_region ?_
 rw[List.range_eq_range']
 have:=FC (w0:=w0) (O:=O) (X:=X) items lents (Q:=fun e a' w'=> ∃s' k,Q e s' k/\nO b ty w0 O X s' k a' w') ops.toList 0 s s' a w (fun j o hj=>by simpa using hj) h1 r (fun a' w' hr=>⟨s',cs,h2,hr⟩)
 simpa using this
theorem gp (lents:List (io P b ty cs)) (items:List (bj P)) (ow:List Nat) {id:Nat} {ops:Array Oper} {y:Code} (hl:s.tmps.length<=1000000)
  (h: ∀K:AS->Prop,(∀s',f6 P b ty y Q s' cs->K s')->fd P (items.map bj.a++lents.map io.a) ow (dZ ops ops.toList 0) (some s) K):f6 P b ty (.seq (.region id ops false) y) Q s cs:=
 cP (B7 lents items ow hl (h _ fun _ h=>h))
theorem DI (m j d:Nat) (T:TV) (items:List (bj P)) (ow:List Nat) {id:Nat} {ops:Array Oper} (hl:s.tmps.length<=1000000) (hm:m<ops.toList.length)
  (h:fd P (items.map bj.a) ow (dZ ops (ops.toList.take m) 0) (some s) (fun s1=>KZ P b cs ops m j d T s1/\s1.tmps.length<=1000000/\fd P (items.map bj.a) ow (dZ ops (ops.toList.drop (m+1)) (m+1)) (some (s1.put (some d) T)) (fun s'=>Q .normal s' cs))):f6 P b ty (.region id ops false) Q s cs:=fun w0 O X a w r0=>by
 obtain⟨s1,h1,⟨⟨t,x,o,ho,hop,hdst,hg,hx,hT⟩⟩,hl1,h2⟩:=eA P (items.map bj.a) ow ops _ 0 s _ hl h
 obtain⟨s',h3,h4⟩:=eA P (items.map bj.a) ow ops _ (m+1) _ _ (by rw[gm];exact hl1) h2
 refine wp_region ?_
 have hsz:ops.size=(ops.toList.take m).length+(1+(ops.toList.drop (m+1)).length):=by simp at hm⊢;omega
 rw[hsz,List.range_eq_range',<- List.range'_append_1,Nat.zero_add]
 have hml:(ops.toList.take m).length=m:=by rw[List.length_take];omega
 refine pp (bj.ok items) (ops.toList.take m) 0 s s1 a w (fun j o hj=>?_) h1 r0.1 fun a' w' r'=>?_
 ·rw[List.getElem?_take]at hj
  split at hj
  ·simpa using hj
  cases hj
 rw[hml,Nat.add_comm 1,List.range'_succ]
 simp only[wpOps,ho]
 rw[if_pos (by simp[Region.wanted,hg])]
 refine .inl ?_
 have rG:nO b ty w0 O X s1 cs a' w':=⟨r',r0.2⟩
 have p6:=rG.box.2
 obtain⟨k1,k2,ρ,hinv,htm⟩:=r'
 have htm:dN X ρ s1 a' w':=htm
 have hv:=(dQ (eH htm x _ hx)).1
 have hcs:lS ρ s1.H (Xo X ρ s1.H) w' b j ((cs.drop j).map AV.p):=fun i y hy=>by
  rw[aH]at hy
  obtain⟨z,hz,rfl⟩:=Option.map_eq_some_iff.1 hy
  rw[List.getElem?_drop]at hz
  obtain⟨v,rfl,v1,v2⟩:=p6 _ z hz
  exact⟨v,v1,v2,ee.raw _ v2⟩
 obtain⟨v,g1,g2⟩:=lZ hT hcs
 have hrun:(execOp a'.eval o).run P w'= .ok (.value v) w':=by
  unfold execOp
  rw[hop]
  refine fG ?_
  rw[hv]
  exact g1
 unfold Oper.wp
 rw[hrun]
 simp only[Oper.upon]
 rw[hdst]
 refine j6 (bj.ok items) (Q:=fun e a' w'=> ∃s' cs',Q e s' cs'/\nO b ty w0 O X s' cs' a' w') (ops.toList.drop (m+1)) (m+1) _ s' _ _ (fun j o hj=>?_) h3 (iR k1 k2 hinv htm g2) (fun a' w' hr=>⟨s',cs,h4,hr,r0.2⟩)
 rw[List.getElem?_drop]at hj
 simpa using hj
theorem B8 (m j d:Nat) (T:TV) (items:List (bj P)) (ow:List Nat) {id:Nat} {ops:Array Oper} {y:Code} (hl:s.tmps.length<=1000000) (hm:m<ops.toList.length)
  (h: ∀K:AS->Prop,(∀s1,(KZ P b cs ops m j d T s1/\s1.tmps.length<=1000000/\ ∀K:AS->Prop,(∀s',f6 P b ty y Q s' cs->K s')->fd P (items.map bj.a) ow (dZ ops (ops.toList.drop (m+1)) (m+1)) (some (s1.put (some d) T)) K)->K s1)->fd P (items.map bj.a) ow (dZ ops (ops.toList.take m) 0) (some s) K):f6 P b ty (.seq (.region id ops false) y) Q s cs:=
 cP (DI m j d T items ow hl hm (h _ fun s1 ⟨q1,q2,q3⟩=>⟨q1,q2,q3 _ fun _ h=>h⟩))
end
end
def fl (c:Nat) (g:Nat->Nat->Int):Nat->Int:=fun k=>g (k/c) (k%c)
theorem K9 {c:Nat} (g:Nat->Nat->Int) {i j:Nat} (hj:j<c):fl c g (i*c+j)=g i j:=by
 unfold fl
 have h:=vy (i:=i) (j:=j) (sz:=c) hj
 rw[h.1,h.2]
theorem oN {n c:Nat} {g g':Nat->Nat->Int} (h: ∀a b,a<n->b<c->g a b=g' a b):dz (n*c) (fl c g)=dz (n*c) (fl c g'):=j5 fun k hk=>by
 have hc:0<c:=by
  rcases Nat.eq_zero_or_pos c with h|h
  ·subst h;simp at hk
  exact h
 exact h _ _ (Nat.div_lt_of_lt_mul (by rw[Nat.mul_comm];exact hk)) (Nat.mod_lt _ hc)
theorem Es {n c i j:Nat} (g:Nat->Nat->Int) {v:Int} (hi:i<n) (hj:j<c):(dz (n*c) (fl c g)).set (i*c+j) v=dz (n*c) (fl c (upd g i j v)):=by
 rw[po]
 refine j5 fun k hk=>?_
 have hc:0<c:=by omega
 unfold fl upd
 by_cases h:k=i*c+j
 ·subst h
  have h:=vy (i:=i) (j:=j) (sz:=c) hj
  rw[h.1,h.2];simp
 rw[if_neg h]
 by_cases h1:k/c=i
 ·have h2:k%c≠j:=fun hh=>h (by
   have:=Nat.div_add_mod k c
   rw[h1,hh,Nat.mul_comm]at this
   exact this.symm)
  rw[if_pos h1]
  show _=if k%c=j then v else g i (k%c)
  rw[if_neg h2,h1]
 rw[if_neg h1]
theorem A9 (l:List Int) (k:Nat) (v:Int):(lc fZ l).set k [.p (.raw (.bool (decide (v<0)))),.p (.sl (ls fU (bT v.natAbs)))]=lc fZ (l.set k v):=by
 rw[<- vP];rfl
def Ae (d n c i:Nat):List (List AV):=(List.range n).map fun k=>if k<i then[.sl d 1 (k*c) c]else[.p (.sl [])]
def ww (d n c i:Nat) (g:Nat->Nat->Int):List OObj:=[⟨84,1,Ae d n c i⟩,⟨42,2,lc fZ (dz (n*c) (fl c g))⟩]
theorem pz (d n c i:Nat):(Ae d n c i).length=n:=by simp[Ae]
theorem kB {d n c i k:Nat} (h:k<n):(Ae d n c i)[k]?=some (if k<i then[.sl d 1 (k*c) c]else[.p (.sl [])]):=by
 unfold Ae
 rw[aH,List.getElem?_range h];rfl
theorem BI {d n c i:Nat}:(Ae d n c i).set i [.sl d 1 (i*c) c]=Ae d n c (i+1):=by
 apply List.ext_getElem?
 intro k
 by_cases hk:k<n
 ·by_cases h:k=i
  ·subst h
   rw[List.getElem?_set_self (by rw[pz];exact hk),kB hk,if_pos (Nat.lt_succ_self k)]
  rw[List.getElem?_set_ne (Ne.symm h),kB hk,kB hk]
  by_cases h2:k<i
  ·rw[if_pos h2,if_pos (by omega)]
  rw[if_neg h2,if_neg (by omega)]
 rw[aC (by rw[List.length_set,pz];omega),aC (by rw[pz];omega)]
theorem yo (d n c:Nat):([⟨84,1,aj n [.raw (.slice none 0 0)]⟩]:List OObj).map zO=[⟨84,1,Ae d n c 0⟩]:=by
 simp[zO,Ae,Ak,BV,List.map_const']
theorem BK (n c:Nat) (g:Nat->Nat->Int):([⟨42,2,aj (n*c) [.raw (.bool false),.raw (.slice none 0 0)]⟩]:List OObj).map zO=[⟨42,2,lc fZ (dz (n*c) (fl c (part g 0 0)))⟩]:=by
 have e2:dz (n*c) (fl c (part g 0 0))=aj (n*c) 0:=by
  apply List.ext_getElem?
  intro b
  by_cases hb:b<n*c
  ·rw[cu _ hb,List.getElem?_replicate,if_pos hb]
   simp[fl,part]
  rw[aC (by rw[dj];omega),aC (by simp;omega)]
 simp[e2,zO,lc,fZ,Ak,BV,ef,ls]
theorem yn (ty d n c:Nat):pc ⟨ty,1,Ae d n c 0⟩:=fun e he x hx=>by
 simp only[Ae,au]at he
 obtain⟨k,_,rfl⟩:=he
 simp at hx
 subst hx
 rfl
theorem BJ {H:OH} {d n c i:Nat} {g:Nat->Nat->Int} (h:H d=ww d n c i g):tn H d:=fun r o ho e he x hx=>by
 rw[h]at ho
 match r,ho with
 |0,ho=>
  simp[ww]at ho
  subst ho
  simp only[Ae,au]at he
  obtain⟨k,_,rfl⟩:=he
  split at hx
  ·simp at hx
   subst hx
   exact .inr ⟨1,_,_,⟨42,2,lc fZ (dz (n*c) (fl c g))⟩,rfl,by rw[h];rfl,gu _ _ _⟩
  simp at hx
  subst hx
  exact .inl rfl
 |1,ho=>
  simp[ww]at ho
  subst ho
  exact .inl (gu _ _ _ e he x hx)
 |r+2,ho=>simp[ww]at ho
theorem C9 {n c i:Nat} (g:Nat->Nat->Int) (hi:i<n):((dz (n*c) (fl c g)).take (i*c+c)).drop (i*c)=dz c (g i):=by
 have hk:i*c+c<=n*c:=by
  have:=Nat.mul_le_mul_right c hi
  rw[Nat.succ_mul]at this;exact this
 apply List.ext_getElem?
 intro j
 rw[List.getElem?_drop,List.getElem?_take]
 by_cases hj:j<c
 ·rw[if_pos (by omega),cu _ (by omega),K9 g hj,cu _ hj]
 rw[if_neg (by omega),aC (by rw[dj];omega)]
theorem Ga {H:OH} {n c:Nat} {g:Nat->Nat->Int} (_hc:1<=c) (h:H 5016=ww 5016 n c n g):gT H 5016 (.one (.sl 5016 0 0 n))= .one (.p (.sl (ls (fR fZ) (dC n c g)))):=by
 have h0:(H 5016)[0]?=some ⟨84,1,Ae 5016 n c n⟩:=by rw[h];rfl
 have h1:(H 5016)[1]?=some ⟨42,2,lc fZ (dz (n*c) (fl c g))⟩:=by rw[h];rfl
 simp only[gT,gh,if_true,h0]
 congr 3
 rw[Nat.zero_add,List.drop_zero,List.take_of_length_le (by rw[pz];exact ai _)]
 apply List.ext_getElem?
 intro k
 rw[aH,ch]
 by_cases hk:k<n
 ·rw[kB hk,if_pos hk,dm c g hk]
  simp only[Option.map_some,List.map_cons,List.map_nil,kn,h1,eB,vO,C9 g hk,kq]
  rfl
 rw[aC (by rw[pz];omega),aC (by rw[cT];omega)];rfl
theorem IR (fu:FuncId) (cs1:List PV) (n c:Nat) (g:Nat->Nat->Int) (hn1:1<=n) (hn:n<=16) (hc1:1<=c) (hc:c<=16)
  (hf: ∀i j,i<n->j<c->CallC Tryz.prog fu [.raw (.int .i64 (i:Int)),.raw (.int .i64 (j:Int)),.one (.p (.ptr cs1))] ⟨[],tZ (g i j)⟩):
  CallC Tryz.prog 146 [.raw (.int .i64 (n:Int)),.raw (.int .i64 (c:Int)),.fn fu [.p (.ptr cs1)]] ⟨[],eF (dC n c g)⟩:=by
 have hN:n*c<=256:=aI (Nat.mul_le_mul hn hc) (by omega)
 have e0:IntKind.i64.wrap ((n:Int)*(c:Int))=((n*c:Nat):Int):=by rw[<- Int.natCast_mul];exact cd (by omega) (by omega)
 refine bG Tryz.func146 rfl (by kernel_rfl) ?_;rw[Tryz.ntmps146]
 (refine aL [] fun K hK=>?_;simp(disch:=omega) only[kc,aM,aa,aj,aN,ab];apply hK)
 (refine aL [] fun K hK=>?_;simp(disch:=omega) only[kc,aM,aa,aU,aO,aR,aX,aS,e0,cY,bU,bI,cE,cx,bS,kC,ax,ab,and_true,cQ];apply hK)
 (refine aL [] fun K hK=>?_;simp(disch:=omega) only[kc,aM,aa,cY,bU,bI,cb,jQ,dy,nF,ax,ab,and_true,cQ,bD,Nat.reduceEqDiff];apply hK)
 refine da.weak ((jd 14).trans ((jd 16).trans ((tL 16 14 5016 (oa:=⟨84,1,Ae 5016 n c 0⟩) (oe:=⟨42,2,lc fZ (dz (n*c) (fl c (part g 0 0)))⟩) ?_ ?_ rfl (yn _ _ _ _) (gu _ _ _) (by omega) (by omega) (by omega)).trans (aT (tm:=[jk,.raw (.int .i64 (c:Int)),.fn fu [.p (.ptr cs1)],jk,jk,jk,jk,.one (.sl 5016 1 0 (n*c)),.one (.sl 5016 0 0 n),jk,jk,jk,jk,jk,jk,jk,jk,jk,jk,jk,jk,jk,jk,jk,jk,jk,jk,jk,jk,jk,jk,jk,jk,jk,jk,jk,jk,jk,jk,jk,jk,jk,jk,jk,jk,jk,jk,jk,jk,jk,jk,jk,jk,jk,jk,jk,jk,jk,jk]) (l:=[(5016,ww 5016 n c 0 (part g 0 0))]) ⟨rfl,trivial⟩ ?_)))) ?_
 ·exact yo 5016 n c
 ·exact BK n c g
 ·simp[di,b9,b8,Hv,pP]
 simp only[ww]
 (refine aP (aL [] fun K hK=>?_);simp(disch:=omega) only[kc,aM,aa,Hm,be,aZ,cb,aN,ab];apply hK)
 refine cC (G:=ov n) (fun q=>⟨[jk,.raw (.int .i64 (c:Int)),.fn fu [.p (.ptr cs1)],jk,jk,jk,jk,.one (.sl 5016 1 0 (n*c)),.one (.sl 5016 0 0 n),jk,jk,jk,jk,jk,jk,jk,jk,.one (.sl 5016 0 0 n),.raw (.int .i64 (n:Int)),.raw (.int .i64 (q.i:Int)),jk,jk,jk,jk,jk,jk,jk,jk,jk,jk,jk,jk,jk,jk,jk,jk,jk,jk,jk,jk,jk,jk,jk,jk,jk,jk,jk,jk,jk,jk,jk,jk,jk,jk,jk,jk,jk,jk,jk],Hm [(5016,ww 5016 n c q.i (part g q.i 0))]⟩) (fun q=>n-q.i) ⟨0,by omega⟩ ?_ ?_
 ·refine aT ⟨rfl,trivial⟩ ?_
  simp[di,b9,b8]
 rintro⟨i,hi⟩
 simp only
 by_cases hm:i<n
 ·have k1:i*c<(i+1)*c:=by rw[Nat.add_mul];omega
  have k2:(i+1)*c<=n*c:=Nat.mul_le_mul_right _ hm
  have k3:(i+1)*c-i*c=c:=by rw[Nat.add_mul];omega
  have e1:IntKind.i64.wrap ((i:Int)*(c:Int))=((i*c:Nat):Int):=by rw[<- Int.natCast_mul];exact cd (by omega) (by omega)
  have e2:IntKind.i64.wrap (((i:Int)+1)*(c:Int))=(((i+1)*c:Nat):Int):=by
   have:((i:Int)+1)*(c:Int)=(((i+1)*c:Nat):Int):=by rw[Int.natCast_mul];rfl
   rw[this];exact cd (by omega) (by omega)
  have t1:=kB (d:=5016) (n:=n) (c:=c) (i:=i) hm
  rw[if_neg (Nat.lt_irrefl i)]at t1
  have t2:=BI (d:=5016) (n:=n) (c:=c) (i:=i)
  have t3:=kB (d:=5016) (n:=n) (c:=c) (i:=i+1) (k:=i) hm
  rw[if_pos (Nat.lt_succ_self i)]at t3
  (refine aL [] fun K hK=>?_;simp(disch:=omega) only[kc,aM,Hm,aU,aO,aR,aX,aS,cw];apply hK)
  refine aP (bJ rfl (bi ?_))
  refine aP (bA ?_)
  (refine aL [] fun K hK=>?_;simp(disch:=omega) only[kc,aM];apply hK)
  simp only[ww]
  (refine aL [] fun K hK=>?_;simp(disch:=omega) only[kc,aM,aa,aU,aO,aR,aX,aS,e1,aN,ab,cd,e2,gR,aZ,cE,eK,aW,bS,k1,ai,k2,Nat.reduceLeDiff,k3,aQ,cb,dy,cQ,bo,ew,cU,t1,bu,t2,d4,bz,bx];apply hK)
  (refine aL [] fun K hK=>?_;simp(disch:=omega) only[kc,aM,aa,aQ,aZ,aW,cb,bD,d4,dy,cQ,t3,packT,dD,be,cE,aN,ab];apply hK)
  refine cC (G:=ov c) (fun q=>⟨[jk,.raw (.int .i64 (c:Int)),.fn fu [.p (.ptr cs1)],jk,jk,jk,jk,.one (.sl 5016 1 0 (n*c)),.one (.sl 5016 0 0 n),.raw (.int .i64 (i:Int)),jk,jk,jk,jk,jk,jk,jk,.one (.sl 5016 0 0 n),.raw (.int .i64 (n:Int)),.raw (.int .i64 (i:Int)),jk,jk,jk,jk,jk,jk,jk,jk,jk,jk,jk,jk,jk,jk,jk,jk,jk,jk,jk,jk,jk,jk,.raw (.int .i64 (c:Int)),.raw (.int .i64 (q.i:Int)),jk,jk,jk,jk,jk,jk,jk,jk,jk,jk,jk,jk,jk,jk,jk],Hm [(5016,ww 5016 n c (i+1) (part g i q.i))]⟩) (fun q=>c-q.i) ⟨0,by omega⟩ ?_ ?_
  ·refine aT ⟨rfl,trivial⟩ ?_
   simp[di,b9,b8]
  rintro⟨j,hj⟩
  simp only
  by_cases hm2:j<c
  ·have hS:=hf i j hm hm2
   have hk:i*c+j<n*c:=by omega
   have g1:=cu (fl c (part g i j)) hk
   have g2:=Es (n:=n) (c:=c) (part g i j) (v:=g i j) hm hm2
   (refine aL [] fun K hK=>?_;simp(disch:=omega) only[kc,aM,Hm,aU,aO,aR,aX,aS,cw];apply hK)
   refine aP (bJ rfl (bi ?_))
   refine aP (bA ?_)
   (refine aL [] fun K hK=>?_;simp(disch:=omega) only[kc,aM];apply hK)
   simp only[ww]
   ((refine gP cJ [⟨8,_,_,_,hS⟩] [] (by kernel_rfl) (by simp) fun K hK=>?_);simp(disch:=omega) only[kc,tZ,bj.a,aM,aa,aQ,aZ,aW,cb,dy,cQ,t3,packT,dD,jM,bU,bI,rr,List.find?_cons,bO,cq,CallRes.plain,bV,bW,bs,noRefTV,bf,bQ,bM,cE,bS,bo,ew,cU,dp,fZ,g1,cellsOf,ai,isPure,bu,A9,g2,bz,bx];apply hK)
   show da _ _ _ _
   ((refine bK [] [] (by simp) fun K hK=>?_);simp(disch:=omega) only[kc,aM,aU,aO,aR,aX,aN,ab,aS,cd];apply hK)
   refine⟨⟨j+1,by omega⟩,by simp only;omega,aT ⟨?_,trivial⟩ ?_⟩
   ·show[_,_]=[_,_]
    rw[oN fun a b _ _=>nA g i j a b]
   simp[di,b9,b8]
  have hjc:j=c:=by omega
  subst hjc
  (refine aL [] fun K hK=>?_;simp(disch:=omega) only[kc,aM,Hm,aU,aO,aR,aX,aS,cp];apply hK)
  refine aP (bL rfl (ck ?_))
  show da _ _ _ _
  ((refine bK [] [] (by simp) fun K hK=>?_);simp(disch:=omega) only[kc,aM,aU,aO,aR,aX,aN,ab,aS,cd];apply hK)
  refine⟨⟨i+1,by omega⟩,by simp only;omega,aT ⟨?_,trivial⟩ ?_⟩
  ·show[_,_]=[_,_]
   rw[oN fun a b _ hb=>pa g i a b hb]
  simp[di,b9,b8]
 have hin:i=n:=by omega
 subst hin
 (refine aL [] fun K hK=>?_;simp(disch:=omega) only[kc,aM,Hm,aU,aO,aR,aX,aS,cp];apply hK)
 refine aP (bL rfl (ck ?_))
 show da _ _ _ _
 (refine aL [] fun K hK=>?_;simp(disch:=omega) only[kc,aM];apply hK)
 refine da.weak ((fp 5016 (BJ rfl)).trans (aT (tm:=[jk,jk,jk,jk,jk,jk,eF (dC i c g),jk,jk,jk,jk,jk,jk,jk,jk,jk,jk,jk,jk,jk,jk,jk,jk,jk,jk,jk,jk,jk,jk,jk,jk,jk,jk,jk,jk,jk,jk,jk,jk,jk,jk,jk,jk,jk,jk,jk,jk,jk,jk,jk,jk,jk,jk,jk,jk,jk,jk,jk,jk]) (l:=[]) trivial ?_)) ?_
 ·have e:=Ga (c:=c) (H:=Hm [(5016,ww 5016 i c i (part g i 0))]) hc1 rfl
  rw[i7 fun a b ha _=>o9 g a b ha]at e
  simp[di,b9,b8]
  exact e.symm
 (refine bC ⟨.inr rfl,bF rfl ?_ rfl⟩;simp(disch:=omega) only[cH,Tryz.results146,bH,eF,ah,ag])
theorem IS (fu:FuncId) (cs1:List PV) (b:Nat) (ty:TypeId) (cs:List PV) (n c:Nat) (g:Nat->Nat->Int) (hn1:1<=n) (hn:n<=16) (hc1:1<=c) (hc:c<=16)
  (hf: ∀i j,i<n->j<c->CallT Tryz.prog b ty fu [.raw (.int .i64 (i:Int)),.raw (.int .i64 (j:Int)),.one (.p (.ptr cs1)),.raw (.pointer (some ⟨b,0,none⟩))] cs ⟨[],tZ (g i j)⟩ cs):
  CallT Tryz.prog b ty 146 [.raw (.int .i64 (n:Int)),.raw (.int .i64 (c:Int)),.fn fu [.p (.ptr cs1),.p (.raw (.pointer (some ⟨b,0,none⟩)))]] cs ⟨[],eF (dC n c g)⟩ cs:=by
 have hN:n*c<=256:=aI (Nat.mul_le_mul hn hc) (by omega)
 have e0:IntKind.i64.wrap ((n:Int)*(c:Int))=((n*c:Nat):Int):=by rw[<- Int.natCast_mul];exact cd (by omega) (by omega)
 refine w8 Tryz.func146 rfl (by kernel_rfl) ?_;rw[Tryz.ntmps146]
 (refine gC [] [] (by simp) fun K hK=>?_;simp(disch:=omega) only[kc,aM,aa,aj,aN,ab];apply hK)
 (refine gC [] [] (by simp) fun K hK=>?_;simp(disch:=omega) only[kc,aM,aa,aU,aO,aR,aX,aS,e0,cY,bU,bI,cE,cx,bS,kC,ax,ab,and_true,cQ];apply hK)
 (refine gC [] [] (by simp) fun K hK=>?_;simp(disch:=omega) only[kc,aM,aa,cY,bU,bI,cb,jQ,dy,nF,ax,ab,and_true,cQ,bD,Nat.reduceEqDiff];apply hK)
 refine kX.weak ((jd 14).trans ((jd 16).trans ((tL 16 14 5016 (oa:=⟨84,1,Ae 5016 n c 0⟩) (oe:=⟨42,2,lc fZ (dz (n*c) (fl c (part g 0 0)))⟩) ?_ ?_ rfl (yn _ _ _ _) (gu _ _ _) (by omega) (by omega) (by omega)).trans (aT (tm:=[jk,.raw (.int .i64 (c:Int)),.fn fu [.p (.ptr cs1),.p (.raw (.pointer (some ⟨b,0,none⟩)))],jk,jk,jk,jk,.one (.sl 5016 1 0 (n*c)),.one (.sl 5016 0 0 n),jk,jk,jk,jk,jk,jk,jk,jk,jk,jk,jk,jk,jk,jk,jk,jk,jk,jk,jk,jk,jk,jk,jk,jk,jk,jk,jk,jk,jk,jk,jk,jk,jk,jk,jk,jk,jk,jk,jk,jk,jk,jk,jk,jk,jk,jk,jk,jk,jk,jk]) (l:=[(5016,ww 5016 n c 0 (part g 0 0))]) ⟨rfl,trivial⟩ ?_)))) ?_
 ·exact yo 5016 n c
 ·exact BK n c g
 ·simp[di,b9,b8,Hv,pP]
 simp only[ww]
 (refine kj (gC [] [] (by simp) fun K hK=>?_);simp(disch:=omega) only[kc,aM,aa,Hm,be,aZ,cb,aN,ab];apply hK)
 refine wO (G:=ov n) (fun q=>⟨[jk,.raw (.int .i64 (c:Int)),.fn fu [.p (.ptr cs1),.p (.raw (.pointer (some ⟨b,0,none⟩)))],jk,jk,jk,jk,.one (.sl 5016 1 0 (n*c)),.one (.sl 5016 0 0 n),jk,jk,jk,jk,jk,jk,jk,jk,.one (.sl 5016 0 0 n),.raw (.int .i64 (n:Int)),.raw (.int .i64 (q.i:Int)),jk,jk,jk,jk,jk,jk,jk,jk,jk,jk,jk,jk,jk,jk,jk,jk,jk,jk,jk,jk,jk,jk,jk,jk,jk,jk,jk,jk,jk,jk,jk,jk,jk,jk,jk,jk,jk,jk,jk],Hm [(5016,ww 5016 n c q.i (part g q.i 0))]⟩) (fun _=>cs) (fun q=>n-q.i) ⟨0,by omega⟩ ?_ rfl ?_
 ·refine aT ⟨rfl,trivial⟩ ?_
  simp[di,b9,b8]
 rintro⟨i,hi⟩
 simp only
 by_cases hm:i<n
 ·have k1:i*c<(i+1)*c:=by rw[Nat.add_mul];omega
  have k2:(i+1)*c<=n*c:=Nat.mul_le_mul_right _ hm
  have k3:(i+1)*c-i*c=c:=by rw[Nat.add_mul];omega
  have e1:IntKind.i64.wrap ((i:Int)*(c:Int))=((i*c:Nat):Int):=by rw[<- Int.natCast_mul];exact cd (by omega) (by omega)
  have e2:IntKind.i64.wrap (((i:Int)+1)*(c:Int))=(((i+1)*c:Nat):Int):=by
   have:((i:Int)+1)*(c:Int)=(((i+1)*c:Nat):Int):=by rw[Int.natCast_mul];rfl
   rw[this];exact cd (by omega) (by omega)
  have t1:=kB (d:=5016) (n:=n) (c:=c) (i:=i) hm
  rw[if_neg (Nat.lt_irrefl i)]at t1
  have t2:=BI (d:=5016) (n:=n) (c:=c) (i:=i)
  have t3:=kB (d:=5016) (n:=n) (c:=c) (i:=i+1) (k:=i) hm
  rw[if_pos (Nat.lt_succ_self i)]at t3
  (refine gC [] [] (by simp) fun K hK=>?_;simp(disch:=omega) only[kc,aM,Hm,aU,aO,aR,aX,aS,cw];apply hK)
  refine kj (DM rfl (wQ ?_))
  refine kj (pC ?_)
  (refine gC [] [] (by simp) fun K hK=>?_;simp(disch:=omega) only[kc,aM];apply hK)
  simp only[ww]
  (refine gC [] [] (by simp) fun K hK=>?_;simp(disch:=omega) only[kc,aM,aa,aU,aO,aR,aX,aS,e1,aN,ab,cd,e2,gR,aZ,cE,eK,aW,bS,k1,ai,k2,Nat.reduceLeDiff,k3,aQ,cb,dy,cQ,bo,ew,cU,t1,bu,t2,d4,bz,bx];apply hK)
  (refine gC [] [] (by simp) fun K hK=>?_;simp(disch:=omega) only[kc,aM,aa,aQ,aZ,aW,cb,bD,d4,dy,cQ,t3,packT,dD,be,cE,aN,ab];apply hK)
  refine wO (G:=ov c) (fun q=>⟨[jk,.raw (.int .i64 (c:Int)),.fn fu [.p (.ptr cs1),.p (.raw (.pointer (some ⟨b,0,none⟩)))],jk,jk,jk,jk,.one (.sl 5016 1 0 (n*c)),.one (.sl 5016 0 0 n),.raw (.int .i64 (i:Int)),jk,jk,jk,jk,jk,jk,jk,.one (.sl 5016 0 0 n),.raw (.int .i64 (n:Int)),.raw (.int .i64 (i:Int)),jk,jk,jk,jk,jk,jk,jk,jk,jk,jk,jk,jk,jk,jk,jk,jk,jk,jk,jk,jk,jk,jk,.raw (.int .i64 (c:Int)),.raw (.int .i64 (q.i:Int)),jk,jk,jk,jk,jk,jk,jk,jk,jk,jk,jk,jk,jk,jk,jk],Hm [(5016,ww 5016 n c (i+1) (part g i q.i))]⟩) (fun _=>cs) (fun q=>c-q.i) ⟨0,by omega⟩ ?_ rfl ?_
  ·refine aT ⟨rfl,trivial⟩ ?_
   simp[di,b9,b8]
  rintro⟨j,hj⟩
  simp only
  by_cases hm2:j<c
  ·have hS:=hf i j hm hm2
   have hk:i*c+j<n*c:=by omega
   have g1:=cu (fl c (part g i j)) hk
   have g2:=Es (n:=n) (c:=c) (part g i j) (v:=g i j) hm hm2
   (refine gC [] [] (by simp) fun K hK=>?_;simp(disch:=omega) only[kc,aM,Hm,aU,aO,aR,aX,aS,cw];apply hK)
   refine kj (DM rfl (wQ ?_))
   refine kj (pC ?_)
   (refine gC [] [] (by simp) fun K hK=>?_;simp(disch:=omega) only[kc,aM];apply hK)
   simp only[ww]
   ((refine yQ cJ 8 hS [] [] (by kernel_rfl) (by kernel_rfl) (by rfl) (by rfl) (by simp) fun K hK=>?_);simp(disch:=omega) only[kc,tZ,aM,aa,aQ,aZ,aW,cb,dy,cQ,t3,packT,dD,jM,bU,bI,rr,List.find?_cons,bO,cq,CallRes.plain,bV,bW,bs,noRefTV,bf,bQ,bM,cE,bS,bo,ew,cU,dp,fZ,g1,cellsOf,ai,isPure,bu,A9,g2,bz,bx];apply hK)
   show kX _ _ _ _ _ _ _
   ((refine wP [] [] (by simp) fun K hK=>?_);simp(disch:=omega) only[kc,aM,aU,aO,aR,aX,aN,ab,aS,cd];apply hK)
   refine⟨⟨j+1,by omega⟩,by simp only;omega,aT ⟨?_,trivial⟩ ?_,rfl⟩
   ·show[_,_]=[_,_]
    rw[oN fun a b _ _=>nA g i j a b]
   simp[di,b9,b8]
  have hjc:j=c:=by omega
  subst hjc
  (refine gC [] [] (by simp) fun K hK=>?_;simp(disch:=omega) only[kc,aM,Hm,aU,aO,aR,aX,aS,cp];apply hK)
  refine kj (DL rfl (wN ?_))
  show kX _ _ _ _ _ _ _
  ((refine wP [] [] (by simp) fun K hK=>?_);simp(disch:=omega) only[kc,aM,aU,aO,aR,aX,aN,ab,aS,cd];apply hK)
  refine⟨⟨i+1,by omega⟩,by simp only;omega,aT ⟨?_,trivial⟩ ?_,rfl⟩
  ·show[_,_]=[_,_]
   rw[oN fun a b _ hb=>pa g i a b hb]
  simp[di,b9,b8]
 have hin:i=n:=by omega
 subst hin
 (refine gC [] [] (by simp) fun K hK=>?_;simp(disch:=omega) only[kc,aM,Hm,aU,aO,aR,aX,aS,cp];apply hK)
 refine kj (DL rfl (wN ?_))
 show kX _ _ _ _ _ _ _
 (refine gC [] [] (by simp) fun K hK=>?_;simp(disch:=omega) only[kc,aM];apply hK)
 refine kX.weak ((fp 5016 (BJ rfl)).trans (aT (tm:=[jk,jk,jk,jk,jk,jk,eF (dC i c g),jk,jk,jk,jk,jk,jk,jk,jk,jk,jk,jk,jk,jk,jk,jk,jk,jk,jk,jk,jk,jk,jk,jk,jk,jk,jk,jk,jk,jk,jk,jk,jk,jk,jk,jk,jk,jk,jk,jk,jk,jk,jk,jk,jk,jk,jk,jk,jk,jk,jk,jk,jk]) (l:=[]) trivial ?_)) ?_
 ·have e:=Ga (c:=c) (H:=Hm [(5016,ww 5016 i c i (part g i 0))]) hc1 rfl
  rw[i7 fun a b ha _=>o9 g a b ha]at e
  simp[di,b9,b8]
  exact e.symm
 (refine GN ⟨.inr rfl,rfl,bF rfl ?_ rfl⟩;simp(disch:=omega) only[cH,Tryz.results146,bH,eF,ah,ag])
theorem gk (l:List Nat) (hb:l.length<=1073741824):CallC Tryz.prog 145 [de l] ⟨[],de (fE l)⟩:=by
 refine bG Tryz.func145 rfl (by kernel_rfl) ?_;rw[Tryz.ntmps145]
 (refine aL [] fun K hK=>?_;simp(disch:=omega) only[kc,aM,de,aj,aN,ab];apply hK)
 refine aP (cC (G:={n:Nat//n<=l.length/\fE l=fE (l.take n)}) (fun n=>⟨[de (l.take n.1),jk,jk,jk,jk,jk,jk,jk,jk,jk,jk,jk,jk,jk,jk,jk,jk,jk,jk,jk,jk],Hm []⟩) (fun n=>n.1) ⟨l.length,ai _,by simp⟩ ?_ ?_)
 ·refine aT trivial ?_
  simp[di,b9,b8]
 rintro⟨n,hn,hT⟩
 simp only
 have hlen:(l.take n).length=n:=by simp;omega
 by_cases h0:0<n
 ·obtain⟨a,ha⟩:=getElem?_of_lt (l:=l) (k:=n-1) (by omega)
  have e1:((n:Int)-1).toNat=n-1:=by omega
  have ha2:(l.take n)[n-1]?=some a:=by rw[List.getElem?_take,if_pos (by omega),ha]
  have htk:l.take n=l.take (n-1)++[a]:=by
   have:=List.take_succ_eq_append_getElem (i:=n-1) (l:=l) (by omega)
   rw[show n-1+1=n by omega]at this
   rw[this,(List.getElem?_eq_some_iff.1 ha).2]
  (refine aP (aL [] fun K hK=>?_);simp(disch:=omega) only[kc,aM,aa,de,Hm,be,aZ,aV,bE,hlen,aU,aO,aR,aX,aN,ab,aS,cw,bP,cQ,cd,aQ,aW,e1,ch,ha2,fU,cg,packT,cW,b7];apply hK)
  refine iA rfl (fun hz=>bi ?_) (fun hz=>ck ?_)
  ·have hz':a=0:=by simpa using hz
   refine bA ?_
   ((refine bK [] [] (by simp) fun K hK=>?_);simp(disch:=omega) only[kc,aM,aa,cw,be,aZ,aV,bE,hlen,aU,aO,aR,aX,aN,ab,aS,cd,gR,eK,aW,e1,cg,zz vC,and_true,Bb,cQ];apply hK)
   refine⟨⟨n-1,by omega,?_⟩,by simp only;omega,aT trivial ?_⟩
   ·rw[hT,htk,hz',mZ]
   simp[di,b9,b8,List.take_take,Nat.min_eq_left (show n-1<=n by omega)]
  have hz':a≠0:=by intro e;simp[e]at hz
  have hfin:fE l=l.take n:=by rw[hT,htk,uU hz']
  show da _ _ _ _
  (refine aL [] fun K hK=>?_;simp(disch:=omega) only[kc,aM,cp];apply hK)
  (refine bC ⟨.inr rfl,bF rfl ?_ rfl⟩;simp(disch:=omega) only[cH,Tryz.results145,bH,ah,ag,de,hfin])
 have hn0:n=0:=by omega
 subst hn0
 have hfin:fE l=l.take 0:=by rw[hT];simp[fE]
 (refine aP (aL [] fun K hK=>?_);simp(disch:=omega) only[kc,aM,aa,de,jX,Hm,be,aZ,aV,aU,aO,aR,aX,aN,ab,aS,cp,bP,Option.map_none,cQ,aQ,b7];apply hK)
 refine iA rfl (fun hz=>by cases hz) (fun hz=>ck ?_)
 show da _ _ _ _
 (refine aL [] fun K hK=>?_;simp(disch:=omega) only[kc,aM];apply hK)
 (refine bC ⟨.inr rfl,bF rfl ?_ rfl⟩;simp(disch:=omega) only[cH,Tryz.results145,bH,ah,ag,de,hfin,List.take_zero,jX])
theorem gD (neg:Bool) (n:Nat):CallC Tryz.prog 141 [.raw (.bool neg),de (bT n)] ⟨[],tZ (iw neg n)⟩:=by
 by_cases h0:n=0
 ·subst h0
  rw[ef,show tZ (iw neg 0)= .agg [.p (.raw (.bool false)),.p (.sl (ls fU []))] by
   have:iw neg 0=0:=by cases neg<;>rfl
   simp[this,tZ,ef]]
  refine bG Tryz.func141 rfl (by kernel_rfl) ?_;rw[Tryz.ntmps141]
  (refine aL [] fun K hK=>?_;simp(disch:=omega) only[kc,aM,de,jX,aa,aj,cy,bU,bI,cx,ab,cQ];apply hK)
  (refine aP (aL [] fun K hK=>?_);simp(disch:=omega) only[kc,aM,aa,be,aZ,aV,aU,aO,aR,aX,aN,ab,aS,cw];apply hK)
  refine bJ rfl ?_
  (refine aL [] fun K hK=>?_;simp(disch:=omega) only[kc,aM,jL,aZ,cx,jx,ab,iC,bo,ew,cU,bS,bD,cellsOf,aa,ai,isPure,cQ,bu,bz,bx];apply hK)
  refine bC ⟨.inr rfl,?_⟩
  refine⟨_,jd 4,pn (d:=1000) rfl ?_ rfl⟩
  simp(disch:=omega) only[kc,cH,Tryz.results141,bH,zH,bD,cQ,zO,Ak,BV,d4,packT,bS,cf,aa,ai,jX]
 have hl:=gW (n:=n)
 have hl':(bT n).length≠0:=by omega
 rw[show tZ (iw neg n)= .agg [.p (.raw (.bool neg)),.p (.sl (ls fU (bT n)))] by
  have:decide (0<n)=true:=by simp;omega
  simp[tZ,mT,wm,this]]
 refine bG Tryz.func141 rfl (by kernel_rfl) ?_;rw[Tryz.ntmps141]
 (refine aL [] fun K hK=>?_;simp(disch:=omega) only[kc,aM,de,aa,aj,cy,bU,bI,cx,ab,cQ];apply hK)
 (refine aP (aL [] fun K hK=>?_);simp(disch:=omega) only[kc,aM,aa,be,aZ,aV,bE,aU,aO,aR,aX,aN,ab,aS,cp];apply hK)
 refine bL rfl (bi ?_)
 show da _ _ _ _
 (refine aL [] fun K hK=>?_;simp(disch:=omega) only[kc,aM,aa,jL,aZ,cx,jx,ab,iC,cellsOf,Nat.reduceLeDiff,ai,cQ,bo,ew,cU,bS,bD,isPure,bu,bz,bx];apply hK)
 (refine bC ⟨.inr rfl,bF rfl ?_ rfl⟩;simp(disch:=omega) only[kc,cH,Tryz.results141,bH,bD,d4,packT,bS,cf,aa,ai])
theorem rt {P:Program} {f:FuncId} {args:List TV} {r:TV} (hc:callable P f=true) (h: ∀(X:Nat->Prop) (w:World) (vs:Array Value),(∀b,X b->b<w.heap.size)->vs.size=args.length->
  (∀(j:Nat) t,args[j]?=some t-> ∃v:Value,vs[j]?=some v/\t.rel (fun _ _=>none) (fun _=>[]) X w v)->Calls P f vs w fun e w'=> ∃v,e= .returned v/\(∀ρ H Y,(∀b,Y b->b<w.heap.size)->r.rel ρ H Y w' v)/\Ext w w'):CallC P f args ⟨[],r⟩:=
 ⟨hc,fun X w vs hX hvs ha=>(h X w vs hX hvs ha).mono fun e w' ⟨v,h1,h2,h3⟩=>⟨v,h1,fun _ _=>none,A2 h3 hX,h2 _ _ _ (fun b hb=>by
  rcases hb with hb|⟨a,r,o,c,ho,hr⟩
  ·exact hX b hb
  cases hr)⟩⟩
end Go.Proofs.YtfgeomlagfomgaaGreatDoor
