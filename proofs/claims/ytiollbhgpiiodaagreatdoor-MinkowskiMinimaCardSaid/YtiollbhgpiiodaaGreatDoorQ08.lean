/-
  Part 9 of a proof (walks and plain facts).
-/
import Derived.Test.YtiollbhgpiiodaaGreatDoorQ07
import Derived.Lib.SliceRun
set_option linter.all false
set_option maxRecDepth 100000
set_option maxHeartbeats 64000000
open Nat renaming le_refl → ac
open List renaming replicate → ae
open List renaming all_eq_true → ai
open List renaming mem_map → ak
open List renaming mem_of_getElem? → aw
open List renaming getElem?_map → az
open Nat renaming le_trans → aA
namespace Go.Proofs.YtiollbhgpiiodaaGreatDoor
open Go.RowKit
section
theorem cu.later {Y Y':Nat->Prop} {w w':World} (hY: ∀b,b<w.heap.size->Y' b->Y b) (hs:w.heap.size<=w'.heap.size) (hc: ∀p v,p.block<w.heap.size-> ¬Y p.block->w.cell? p=some v->w'.cell? p=some v) {x:PV} {v:Value} (h:cu Y w x v):cu Y' w' x v:=by
 induction h with
 |raw v h=>exact .raw v h
 |nil a c=>exact .nil a c
 |sl b off es cap xs f hX hb hes hcap hm hcc hr ih=>exact .sl b off es cap xs f (fun h=>hX (hY _ hb h)) (Nat.lt_of_lt_of_le hb hs) hes hcap hm (fun i e j x h1 h2=>hc ⟨b,_,none⟩ _ hb hX (hcc i e j x h1 h2)) ih
 |ptr b off cs f hX hb hcc hr ih=>exact .ptr b off cs f (fun h=>hX (hY _ hb h)) (Nat.lt_of_lt_of_le hb hs) (fun j x h1=>hc ⟨b,_,none⟩ _ hb hX (hcc j x h1)) ih
theorem lG {w w':World} {p:Addr} (h:w'.heap[p.block]?=w.heap[p.block]?):w'.cell? p=w.cell? p:=by unfold World.cell?;rw[h]
def kH (b:Nat) (ty:TypeId) (cs:List PV) (Y:Nat->Prop) (w:World):Prop:=
 ∃(cells:Array Value) (c:Nat),w.heap[b]?=some (.cells cells ty (0,0))/\cells.size=c*cs.length/\1<=c/\c<=9223372036854775807/\0<cs.length/\
  ∀(j:Nat) x,cs[j]?=some x-> ∃v:Value,cells[j]?=some v/\v.oneCell'=true/\cu Y w x v
theorem kH.later {b:Nat} {ty:TypeId} {cs:List PV} {Y Y':Nat->Prop} {w w':World} (hY: ∀j,j<w.heap.size->Y' j->Y j) (hs:w.heap.size<=w'.heap.size) (hb:w'.heap[b]?=w.heap[b]?) (hc: ∀j,j<w.heap.size-> ¬Y j->w'.heap[j]?=w.heap[j]?)
  (h:kH b ty cs Y w):kH b ty cs Y' w':=by
 obtain⟨cells,c,h1,h2,h3,h4,h5,h6⟩:=h;refine⟨cells,c,by rw[hb];exact h1,h2,h3,h4,h5,fun j x hx=>?_⟩;obtain⟨v,v1,v2,v3⟩:=h6 j x hx;exact⟨v,v1,v2,v3.later hY hs fun p u hp hn hu=>by rw[lG (hc p.block hp hn)];exact hu⟩
theorem kH.weaken {b:Nat} {ty:TypeId} {cs:List PV} {Y Y':Nat->Prop} {w:World} (hY: ∀j,j<w.heap.size->Y' j->Y j) (h:kH b ty cs Y w):kH b ty cs Y' w:=
 h.later hY (ac _) rfl fun _ _ _=>rfl
section
variable {P:Program} {b:Nat} {ty:TypeId} {cs cs':List PV} {w0 w:World} {O X:Nat->Prop} {s s':AS} {a:Act}
def ik (b:Nat) (ty:TypeId) (w0:World) (O X:Nat->Prop) (s:AS) (cs:List PV) (a:Act) (w:World):Prop:=
 a.defers=[]/\a.tmps.size=s.tmps.length/\ ∃ρ,Inv w0 O X s.H ρ w/\bY X ρ s a w/\O b/\X b/\kH b ty cs (Xo X ρ s.H) w
theorem ik.rel (h:ik b ty w0 O X s cs a w):fW w0 O X s a w:=by
 obtain⟨h1,h2,ρ,h3,h4,_⟩:=h;exact⟨h1,h2,ρ,h3,h4⟩
theorem ik.rebase (h:ik b ty w0 O X s cs a w): ∃Own:Nat->Prop,fW w Own X s a w/\ ∀s1 a1 w1,fW w Own X s1 a1 w1->ik b ty w0 O X s1 cs a1 w1:=by
 obtain⟨h1,hsz,ρ,hinv,htm,hO,hX,hbox⟩:=h;refine⟨fun j=> ∃(x r:Nat) (o:OObj) (c:Nat),(s.H x)[r]?=some o/\ρ x r=some (j,c),⟨h1,hsz,ρ,⟨Keep.refl w,hinv.objs,hinv.inj,fun x r o j c ho hj=>⟨.inr ⟨x,r,o,c,ho,hj⟩,(hinv.old x r o j c ho hj).2⟩,hinv.bar,hinv.self⟩,htm⟩,?_⟩;rintro s1 a1 w1 ⟨k1,ksz,ρ1,kinv,ktm⟩;have hown: ∀j,(∃(x r:Nat) (o:OObj) (c:Nat),(s.H x)[r]?=some o/\ρ x r=some (j,c))->(w0.heap.size<=j\/O j)/\ ¬X j:=fun j ⟨x,r,o,c,g1,g2⟩=>hinv.old x r o j c g1 g2
 refine⟨k1,ksz,ρ1,⟨⟨kinv.keep.os.trans hinv.keep.os,kinv.keep.tape.trans hinv.keep.tape,kinv.keep.output.trans hinv.keep.output,aA hinv.keep.size kinv.keep.size,fun j hj hn=>?_⟩,kinv.objs,kinv.inj,fun x r o j c ho hj=>?_,kinv.bar,kinv.self⟩,ktm,hO,hX,?_⟩
 ·rw[kinv.keep.block j (Nat.lt_of_lt_of_le hj hinv.keep.size) (fun hh=>by
   rcases(hown j hh).1 with h|h
   ·omega
   exact hn h)]
  exact hinv.keep.block j hj hn
 ·obtain⟨g1,g2⟩:=kinv.old x r o j c ho hj;refine⟨?_,g2⟩;rcases g1 with g|g
  ·exact .inl (aA hinv.keep.size g)
  exact(hown j g).1
 refine hbox.later (fun j hj hh=>?_) kinv.keep.size (kinv.keep.block b (hinv.bar b hX) (fun hh=>(hown b hh).2 hX)) (fun j hj hn=>kinv.keep.block j hj (fun hh=>hn (.inr hh)));rcases hh with hh|⟨x,r,o,c,g1,g2⟩
 ·exact .inl hh
 rcases(kinv.old x r o j c g1 g2).1 with g|g
 ·omega
 exact .inr g
def fb (P:Program) (b:Nat) (ty:TypeId) (c:Code) (Q:Exit->AS->List PV->Prop) (s:AS) (cs:List PV):Prop:=
 ∀(w0:World) (O X:Nat->Prop) (a:Act) (w:World),ik b ty w0 O X s cs a w->c.wp P (fun e a' w'=> ∃s' cs',Q e s' cs'/\ik b ty w0 O X s' cs' a' w') a w
def mT (next:AS->List PV->Prop) (Q:Exit->AS->List PV->Prop):Exit->AS->List PV->Prop
 | .normal,s,k=>next s k
 |e,s,k=>Q e s k
def rY (id:Nat) (Q:Exit->AS->List PV->Prop):Exit->AS->List PV->Prop
 | .exit id',s,k=>if id'=id then Q .normal s k else Q (.exit id') s k
 |e,s,k=>Q e s k
variable {Q:Exit->AS->List PV->Prop}
theorem DQ {c:Code} (h:bL P c (fun e s'=>Q e s' cs) s):fb P b ty c Q s cs:=fun w0 O X a w r=>by
 obtain⟨Own,h1,h2⟩:=r.rebase;exact wp_mono (h _ _ _ _ _ h1) fun e a' w' ⟨s',g1,g2⟩=>⟨s',cs,g1,h2 _ _ _ g2⟩
theorem fb.weak {c:Code} (h:ci s s') (k:fb P b ty c Q s' cs):fb P b ty c Q s cs:=fun _ _ _ _ _ r=>by
 obtain⟨Own,h1,h2⟩:=r.rebase;exact k _ _ _ _ _ (h2 _ _ _ (h _ _ _ _ _ h1))
theorem ik.weak (h:ci s s') (r:ik b ty w0 O X s cs a w):ik b ty w0 O X s' cs a w:=by
 obtain⟨Own,h1,h2⟩:=r.rebase;exact h2 _ _ _ (h _ _ _ _ _ h1)
theorem fb.mono {c:Code} {Q':Exit->AS->List PV->Prop} (h:fb P b ty c Q s cs) (k: ∀e s' cs',Q e s' cs'->Q' e s' cs'):fb P b ty c Q' s cs:=fun _ _ _ _ _ r=>
 wp_mono (h _ _ _ _ _ r) fun _ _ _ ⟨s',cs',h1,h2⟩=>⟨s',cs',k _ _ _ h1,h2⟩
theorem i7 (h:Q .normal s cs):fb P b ty .skip Q s cs:=fun _ _ _ _ _ r=>wp_skip ⟨s,cs,h,r⟩
theorem Bj {id:Nat} (h:Q (.exit id) s cs):fb P b ty (.exit id) Q s cs:=fun _ _ _ _ _ r=>wp_exit ⟨s,cs,h,r⟩
theorem oy (h:Q .ret s cs):fb P b ty .ret Q s cs:=fun _ _ _ _ _ r=>wp_ret ⟨s,cs,h,r⟩
theorem db {x y:Code} (h:fb P b ty x (mT (fb P b ty y Q) Q) s cs):fb P b ty (.seq x y) Q s cs:=fun _ _ _ _ _ r=>
 wp_seq (wp_mono (h _ _ _ _ _ r) fun e a w ⟨s',cs',h1,h2⟩=>by
  cases e with
  |normal=>exact h1 _ _ _ _ _ h2
  |_=>exact⟨s',cs',h1,h2⟩)
theorem dT {id:Nat} {x:Code} (h:fb P b ty x (rY id Q) s cs):fb P b ty (.block id x) Q s cs:=fun _ _ _ _ _ r=>
 wp_block (wp_mono (h _ _ _ _ _ r) fun e a w ⟨s',cs',h1,h2⟩=>by
  cases e with
  |exit id'=>
   simp only[rY]at h1;simp only[Exit.inBlock];split at h1
   ·rename_i hid;rw[if_pos hid];exact⟨s',cs',h1,h2⟩
   rename_i hid;rw[if_neg hid];exact⟨s',cs',h1,h2⟩
  |_=>exact⟨s',cs',h1,h2⟩)
theorem Bi {c:Operand} {x y:Code} {v:Bool} (hc:s.ev c=some (.raw (.bool v))) (ht:v=true->fb P b ty x Q s cs) (hf:v=false->fb P b ty y Q s cs):fb P b ty (.cond c x y) Q s cs:=fun _ _ _ _ _ r=>by
 obtain⟨h1,hsz,ρ,hinv,htm,_⟩:=id r;have hb:=(bO (cz htm c _ hc)).1;exact wp_cond_split hb (fun h=>ht h _ _ _ _ _ r) (fun h=>hf h _ _ _ _ _ r)
theorem ip {c:Operand} {x y:Code} (hc:s.ev c=some (.raw (.bool true))) (h:fb P b ty x Q s cs):fb P b ty (.cond c x y) Q s cs:=Bi hc (fun _=>h) (fun h=>by cases h)
theorem de {c:Operand} {x y:Code} (hc:s.ev c=some (.raw (.bool false))) (h:fb P b ty y Q s cs):fb P b ty (.cond c x y) Q s cs:=Bi hc (fun h=>by cases h) (fun _=>h)
theorem yT {c:Operand} {y z:Code} (hc:s.ev c=some (.raw (.bool true))) (h:fb P b ty z Q s cs):fb P b ty (.seq (.cond c .skip y) z) Q s cs:=db (ip hc (i7 h))
theorem yS {c:Operand} {x z:Code} {id:Nat} (hc:s.ev c=some (.raw (.bool false))) (h:Q (.exit id) s cs):fb P b ty (.seq (.cond c x (.exit id)) z) Q s cs:=db (de hc (Bj h))
theorem KA {G:Type} (St:G->AS) (Sc:G->List PV) (μ:G->Nat) (g0:G) {c:Code} (h0:ci s (St g0)) (h0':Sc g0=cs)
  (round: ∀g,fb P b ty c (mT (fun s' cs'=> ∃g',μ g'<μ g/\ci s' (St g')/\Sc g'=cs') Q) (St g) (Sc g)):fb P b ty (.loop c) Q s cs:=fun w0 O X a w r=>by
 classical
 subst h0'
 let p:Act->World->Nat->Prop:=fun a w n=> ∃g,μ g=n/\ik b ty w0 O X (St g) (Sc g) a w
 let m:Act->World->Nat:=fun a w=>if h: ∃n,p a w n then Classical.choose (bU h)else 0
 refine wp_loop (fun a w=> ∃n,p a w n) m ⟨_,g0,rfl,r.weak h0⟩ ?_;intro a w hI;have hm:m a w=Classical.choose (bU hI):=dif_pos hI;obtain⟨hp,hleast⟩:=Classical.choose_spec (bU hI);rw[<- hm]at hp;obtain⟨g,hg,hr⟩:=hp;refine wp_mono (round g _ _ _ _ _ hr) fun e a' w' ⟨s',cs',h1,h2⟩=>?_
 cases e with
 |normal=>
  obtain⟨g',hlt,hw,hcs⟩:=h1;subst hcs;have hr':=h2.weak hw;have hI': ∃n,p a' w' n:=⟨_,g',rfl,hr'⟩;refine⟨hI',?_⟩;have hm':m a' w'=Classical.choose (bU hI'):=dif_pos hI';obtain⟨_,hl'⟩:=Classical.choose_spec (bU hI');have:=hl' (μ g') ⟨g',rfl,hr'⟩;rw[hm'];omega
 |_=>exact⟨s',cs',h1,h2⟩
theorem ni {G:Type} (St:G->AS) (Sc:G->List PV) (μ:G->Nat) (g0:G) {id:Nat} {x:Code} (h0:ci s (St g0)) (h0':Sc g0=cs)
  (round: ∀g,fb P b ty x (mT (fun s' cs'=> ∃g',μ g'<μ g/\ci s' (St g')/\Sc g'=cs') (rY id Q)) (St g) (Sc g)):fb P b ty (.block id (.loop x)) Q s cs:=
 dT (KA St Sc μ g0 h0 h0' round)
/-! Regions without lent calls. -/
theorem uU {y:Code} (items:List (aM P)) (ow:List Nat) {id:Nat} {ops:Array Oper} (h: ∀K:AS->Prop,(∀s',fb P b ty y Q s' cs->K s')->bD P (items.map aM.a) ow (aY ops ops.toList 0) (some s) K):fb P b ty (.seq (.region id ops false) y) Q s cs:=
 db (DQ (ov items ow (h _ fun _ h=>h)))
theorem KB (items:List (aM P)) (ow:List Nat) {id:Nat} {ops:Array Oper} (h: ∀K:AS->Prop,(∀s',Q .normal s' cs->K s')->bD P (items.map aM.a) ow (aY ops ops.toList 0) (some s) K):fb P b ty (.region id ops false) Q s cs:=
 DQ (ov items ow (h _ fun _ h=>h))
theorem Ii (hm:P.follows .mixedOrders=true) (items:List (aM P)) (ow:List Nat) {id:Nat} {ops:Array Oper} (hd:ce [] ops=true) (h: ∀K:AS->Prop,(∀s',Q .normal s' cs->K s')->bD P (items.map aM.a) ow (aY ops ops.toList 0) (some s) K):fb P b ty (.region id ops true) Q s cs:=
 DQ (jO hm items ow hd (by simp) (fun x hx=>by simp at hx) (h _ fun _ h=>h))
theorem oA {y:Code} {id:Nat} {ops:Array Oper} (h: ∀K:AS->Prop,(∀s',fb P b ty y Q s' cs->K s')->bD P [] [] (aY ops ops.toList 0) (some s) K):fb P b ty (.seq (.region id ops false) y) Q s cs:=uU [] [] h
theorem Ij {id:Nat} {ops:Array Oper} (h: ∀K:AS->Prop,(∀s',Q .normal s' cs->K s')->bD P [] [] (aY ops ops.toList 0) (some s) K):fb P b ty (.region id ops false) Q s cs:=KB [] [] h
theorem DP (hm:P.follows .mixedOrders=true) {id:Nat} {ops:Array Oper} (hd:ce [] ops=true) (h: ∀K:AS->Prop,(∀s',Q .normal s' cs->K s')->bD P [] [] (aY ops ops.toList 0) (some s) K):fb P b ty (.region id ops true) Q s cs:=Ii hm [] [] hd h
end
def CallT (P:Program) (b:Nat) (ty:TypeId) (f:FuncId) (args:List TV) (cs:List PV) (res:CallRes) (cs':List PV):Prop:=
 callable P f=true/\ ∀(X:Nat->Prop) (w:World) (vs:Array Value),(∀j,X j->j<w.heap.size)->X b->kH b ty cs X w->vs.size=args.length->
  (∀(j:Nat) t,args[j]?=some t-> ∃v:Value,vs[j]?=some v/\t.rel (fun _ _=>none) (fun _=>[]) X w v)->
  Calls P f vs w fun e w'=> ∃v,e= .returned v/\ ∃ρ:Rho,Inv w (fun j=>j=b) X (famH 0 res.fam) ρ w'/\res.r.rel ρ (famH 0 res.fam) (Xo X ρ (famH 0 res.fam)) w' v/\kH b ty cs' (Xo X ρ (famH 0 res.fam)) w'
section
variable {P:Program} {b:Nat} {ty:TypeId} {cs cs':List PV} {w0 w:World} {O X:Nat->Prop} {ρ:Rho} {s:AS} {a:Act}
theorem B8 {it:dD P} {d:Nat} (h1:a.defers=[]) (hsz:a.tmps.size=s.tmps.length) (hinv:Inv w0 O X s.H ρ w) (htm:bY X ρ s a w) (hO:O b) (hX:X b) {t:TV} {F:List OObj} (ht:renTV d it.res.r=t) (hF:it.res.fam.map (renO d)=F) (hd:F≠[]->s.H d=[])
  {v:Value} {w1:World} {ρc:Rho} (hi:Inv w (fun j=>j=b) (Xo X ρ s.H) (famH 0 it.res.fam) ρc w1) (hr:it.res.r.rel ρc (famH 0 it.res.fam) (Xo (Xo X ρ s.H) ρc (famH 0 it.res.fam)) w1 v)
  (hbox:kH b ty cs' (Xo (Xo X ρ s.H) ρc (famH 0 it.res.fam)) w1):ik b ty w0 O X (jD s d t F) cs' (a.put (some d) v) w1:=by
 have hbut:But b w w1:=⟨hi.keep.os,hi.keep.tape,hi.keep.output,hi.keep.size,fun k hk hne=>hi.keep.block k hk hne⟩;have hnb: ∀(x r:Nat) o b' c,(s.H x)[r]?=some o->ρ x r=some (b',c)->w1.heap[b']?=w.heap[b']?:=fun x r o b' c ho hb'=>hbut.block b' (bP (hinv.objs x r o ho) hb') (by rintro rfl;exact(hinv.old x r o b' c ho hb').2 hX)
 by_cases hfam:it.res.fam=[]
 ·rw[hfam]at hi hr hbox;have hF0:F=[]:=by rw[<- hF,hfam];rfl
  subst hF0;have mono: ∀x u,AV.rel ρ s.H (Xo X ρ s.H) w x u->AV.rel ρ s.H (Xo X ρ s.H) w1 x u:=fun x u hx=>qw (.inl hX) hbut (fun a r o ho=>⟨o,ho,rfl,ac _,rfl⟩) (fun a r o b' c ho hb _=> .inr ⟨a,r,o,c,ho,hb⟩) hx
  have hinv':Inv w0 O X s.H ρ w1:=⟨hinv.keep.but hbut (.inr hO),fun x r o ho=>fH (hinv.objs x r o ho) rfl (fun b' c hb'=>hnb x r o b' c ho hb') mono,hinv.inj,hinv.old,fun j hj=>Nat.lt_of_lt_of_le (hinv.bar j hj) hbut.size,hinv.self⟩;have htm':bY X ρ s a w1:=fun k x hx=>by
   obtain⟨u,g1,g2⟩:=htm k x hx;exact⟨u,g1,TV.rel_map g2 mono⟩
  have hv:t.rel ρ s.H (Xo X ρ s.H) w1 v:=by
   rw[<- ht];exact oZ hr (fun x u hx=>uq (fun r o' ho'=>by simp at ho') (fun j _ hj=> .inl hj) hx)
  show ik b ty w0 O X (s.put (some d) t) cs' _ _;refine⟨by rw[iS];exact h1,by rw[lT,gB];exact hsz,ρ,by rw[jC];exact hinv',sM hsz htm' hv,hO,hX,?_⟩;rw[jC];exact hbox.weaken fun j _ hj=> .inl hj
 have hF0:F≠[]:=by rw[<- hF];simpa using hfam
 have hd0:=hd hF0;have hres:jD s d t F=AS.put ⟨s.tmps,be s.H d F⟩ (some d) t:=by
  unfold jD;rw[if_neg (by simpa using hF0)]
 rw[hres]
 let f:Nat->Option (Nat×Nat):=fun r=>if r<it.res.fam.length then ρc 0 r else none
 have hff: ∀r j n,f r=some (j,n)->(∃o',it.res.fam[r]?=some o')/\ρc 0 r=some (j,n):=fun r j n h=>by
  simp only[f]at h;split at h
  ·rename_i hlt;exact⟨⟨_,List.getElem?_eq_getElem hlt⟩,h⟩
  cases h
 have hnew: ∀(r j n:Nat),f r=some (j,n)->w.heap.size<=j:=fun r j n h=>by
  obtain⟨⟨o',ho'⟩,g⟩:=hff r j n h;have:=hi.old 0 r o' j n (by simpa[famH] using ho') g;rcases this.1 with h|h
  ·exact h
  exact absurd (h▸ .inl hX) this.2
 have hXo: ∀j,Xo X (newρ ρ d f) (be s.H d F) j->Xo (Xo X ρ s.H) ρc (famH 0 it.res.fam) j:=fun j hj=>by
  rcases hj with hj|⟨x',y',o',n,g1,g2⟩
  ·exact .inl (.inl hj)
  by_cases hxd:x'=d
  ·subst hxd;rw[newρ_eq]at g2;obtain⟨⟨o2,ho2⟩,g3⟩:=hff y' j n g2;exact .inr ⟨0,y',o2,n,by simpa[famH] using ho2,g3⟩
  rw[aZ hxd]at g1;rw[newρ_ne hxd]at g2;exact .inl (.inr ⟨x',y',o',n,g1,g2⟩)
 have mono: ∀x u,AV.rel ρ s.H (Xo X ρ s.H) w x u->AV.rel (newρ ρ d f) (be s.H d F) (Xo X (newρ ρ d f) (be s.H d F)) w1 x u:=fun x u hx=>by
  refine qw (.inl hX) hbut (fun x r o ho=>?_) (fun x r o b' c ho hb hlt=>?_) hx
  ·have hxd:x≠d:=by rintro rfl;rw[hd0]at ho;simp at ho
   exact⟨o,by rw[aZ hxd];exact ho,rfl,ac _,newρ_ne hxd r⟩
  by_cases hxd:x=d
  ·subst hxd;rw[newρ_eq]at hb;have:=hnew r b' c hb;omega
  rw[aZ hxd]at ho;rw[newρ_ne hxd]at hb;exact .inr ⟨x,r,o,c,ho,hb⟩
 have hmap: ∀x u,AV.rel ρc (famH 0 it.res.fam) (Xo (Xo X ρ s.H) ρc (famH 0 it.res.fam)) w1 x u->AV.rel (newρ ρ d f) (be s.H d F) (Xo X (newρ ρ d f) (be s.H d F)) w1 (dq d x) u:=fun x u hx=>by
  refine uq (fun r o' ho'=>?_) (fun j _ hj=>hXo j hj) hx;rw[bF,newρ_eq];simp only[f];rw[if_pos (List.getElem?_eq_some_iff.1 ho').1,<- hF,az,ho'];exact⟨rfl,rfl⟩
 have hinv':Inv w0 O X (be s.H d F) (newρ ρ d f) w1:=by
  refine⟨hinv.keep.but hbut (.inr hO),fun x r o ho=>?_,fun x r x' r' o o' j c c' ho ho' hr hr'=>?_,fun x r o j c ho hr=>?_,fun j hj=>Nat.lt_of_lt_of_le (hinv.bar j hj) hbut.size,fun x r o ho=>?_⟩
  ·by_cases hxd:x=d
   ·subst hxd;rw[bF,<- hF,az]at ho;obtain⟨o2,ho2,rfl⟩:=Option.map_eq_some_iff.1 ho;have hobj:=hi.objs 0 r o2 (by simpa[famH] using ho2);obtain⟨z1,z2,z3⟩:=hobj;refine⟨fun e he=>?_,z2,?_⟩
    ·simp only[renO,ak]at he;obtain⟨e',he',rfl⟩:=he;rw[List.length_map];exact z1 e' he'
    rw[newρ_eq];simp only[f];rw[if_pos (List.getElem?_eq_some_iff.1 ho2).1];cases hr0:ρc 0 r with
    |none=>rw[hr0]at z3;simp[renO,z3]
    |some bc=>
     obtain⟨j,n⟩:=bc;rw[hr0]at z3;obtain⟨cells,p1,p2,p3,p4,p5⟩:=z3;refine⟨cells,p1,p2,by simpa[renO] using p3,p4,fun i e j z he hz=>?_⟩;simp only[renO,az]at he;obtain⟨e',he',rfl⟩:=Option.map_eq_some_iff.1 he;rw[az]at hz;obtain⟨z',hz',rfl⟩:=Option.map_eq_some_iff.1 hz;obtain⟨u,u1,u2,u3⟩:=p5 i e' j z' he' hz';exact⟨u,u1,u2,hmap z' u u3⟩
   rw[aZ hxd]at ho;exact fH (hinv.objs x r o ho) (newρ_ne hxd r) (fun b' c hb'=>hnb x r o b' c ho hb') mono
  ·by_cases hx:x=d
   ·subst hx;rw[newρ_eq]at hr;by_cases hx':x'=x
    ·subst hx';rw[newρ_eq]at hr';obtain⟨⟨o1,ho1⟩,g1⟩:=hff r j c hr;obtain⟨⟨o2,ho2⟩,g2⟩:=hff r' j c' hr';exact⟨rfl,(hi.inj 0 r 0 r' o1 o2 j c c' (by simpa[famH] using ho1) (by simpa[famH] using ho2) g1 g2).2⟩
    rw[newρ_ne hx']at hr';rw[aZ hx']at ho';have:=bP (hinv.objs x' r' o' ho') hr';have:=hnew _ _ _ hr;omega
   rw[newρ_ne hx]at hr;rw[aZ hx]at ho;by_cases hx':x'=d
   ·subst hx';rw[newρ_eq]at hr';have:=bP (hinv.objs x r o ho) hr;have:=hnew _ _ _ hr';omega
   rw[newρ_ne hx']at hr';rw[aZ hx']at ho';exact hinv.inj x r x' r' o o' j c c' ho ho' hr hr'
  ·by_cases hx:x=d
   ·subst hx;rw[newρ_eq]at hr;have:=hnew _ _ _ hr;have hk:=hinv.keep.size;exact⟨.inl (by omega),fun hX=>by have:=hinv.bar j hX;omega⟩
   rw[newρ_ne hx]at hr;rw[aZ hx]at ho;exact hinv.old x r o j c ho hr
  by_cases hx:x=d
  ·subst hx;rw[bF,<- hF,az]at ho;obtain⟨o2,ho2,rfl⟩:=Option.map_eq_some_iff.1 ho;intro e he z hz;simp only[renO,ak]at he;obtain⟨e',he',rfl⟩:=he;simp only[ak]at hz;obtain⟨z',hz',rfl⟩:=hz;cases z'<;>first|rfl|trivial
  rw[aZ hx]at ho;exact hinv.self x r o ho
 have htm':bY X (newρ ρ d f) ⟨s.tmps,be s.H d F⟩ a w1:=fun k x hx=>by
  obtain⟨u,g1,g2⟩:=htm k x hx;exact⟨u,g1,TV.rel_map g2 mono⟩
 have hv:t.rel (newρ ρ d f) (be s.H d F) (Xo X (newρ ρ d f) (be s.H d F)) w1 v:=by
  rw[<- ht];exact oZ hr hmap
 refine⟨by rw[iS];exact h1,by rw[lT,gB];exact hsz,newρ ρ d f,by rw[jC];exact hinv',sM (s:=⟨s.tmps,be s.H d F⟩) hsz htm' hv,hO,hX,?_⟩;rw[jC];exact hbox.weaken fun j _ hj=>hXo j hj
theorem Mk {H:OH} {t:TV} (h:nX (ia H t)=true):ia H t=t:=by
 unfold ia at h⊢;split
 ·rename_i a r off len;simp only at h;split at h<;>cases h
 ·cases h
 rfl
theorem yw {H H':OH} {ρ':Rho} {Y Y':Nat->Prop} {w':World} {t:TV} {v:Value} (h:nX t=true) (hr:t.rel ρ H Y w v):t.rel ρ' H' Y' w' v:=by
 have hav: ∀x u,rf x=true->AV.rel ρ H Y w x u->AV.rel ρ' H' Y' w' x u:=fun x u hx hu=>by
  cases x with
  |p x=>
   cases x with
   |raw z=>
    obtain⟨rfl,h1⟩:=bO (ρ:=ρ) (H:=H) hu;exact cu.raw _ h1
   |sl xs=>cases hx
   |ptr cs=>cases hx
  |sl a r off len=>cases hx
  |ptr a r i j=>cases hx
  |junk=>cases hx
 have agg: ∀cs v,cs.all rf=true->bX ρ H Y w cs v->bX ρ' H' Y' w' cs v:=fun cs v hc ⟨vs,g1,g2,g3⟩=>by
  simp only[ai]at hc;exact⟨vs,g1,g2,fun j x hx=>by obtain⟨u,u1,u2,u3⟩:=g3 j x hx;exact⟨u,u1,u2,hav x u (hc x (aw hx)) u3⟩⟩
 cases t with
 |one x=>exact hav x v h hr
 |agg cs=>exact agg cs v h hr
 |fn f cs=>obtain⟨u,h1,h2⟩:=hr;exact⟨u,agg cs u h h1,h2⟩
 |tup ts=>
  simp only[nX,ai]at h;obtain⟨vs,g1,g2,g3⟩:=hr;refine⟨vs,g1,g2,fun j c cs hj=>?_⟩;obtain⟨u,u1,u2⟩:=g3 j c cs hj;have hall:=h (c,cs) (aw hj);refine⟨u,u1,?_⟩;rcases u2 with⟨u2,u3⟩|⟨u2,x,rfl,u4⟩
  ·exact .inl ⟨u2,agg _ _ (by simpa only[ai] using hall) u3⟩
  exact .inr ⟨u2,_,rfl,hav x u (hall x (by simp)) u4⟩
def MS:PV->Bool
 | .raw _=>true
 |_=>false
def lentOk (args:List TV) (res:CallRes) (cs:List PV):Bool:=args.all nX||!res.plain||cs.all MS
theorem kH.raw {Y Y':Nat->Prop} (hr:cs.all MS=true) (h:kH b ty cs Y w):kH b ty cs Y' w:=by
 obtain⟨cells,c,h1,h2,h3,h4,h5,h6⟩:=h;refine⟨cells,c,h1,h2,h3,h4,h5,fun j x hx=>?_⟩;obtain⟨v,v1,v2,v3⟩:=h6 j x hx;rw[ai]at hr;have:=hr x (aw hx);cases x with
 |raw z=>cases v3 with|raw _ h=>exact⟨_,v1,v2,.raw _ h⟩
 |sl xs=>cases this
 |ptr cs=>cases this
theorem x8 {it:dD P} {d:Nat} (h1:a.defers=[]) (hsz:a.tmps.size=s.tmps.length) (hinv:Inv w0 O X s.H ρ w) (htm:bY X ρ s a w) (hO:O b) (hX:X b) (hbox:kH b ty cs (Xo X ρ s.H) w) (hok:lentOk it.args it.res cs'=true) (hcon:CallT P b ty it.f it.args cs it.res cs')
  {ts:List TV} (c2:ts.map (ia s.H)=it.args) (c3:ts.all (eE it.res.plain s.H)=true) {vs:Array Value} (hvs:vs.size=ts.length) (hv: ∀(j:Nat) t,ts[j]?=some t-> ∃v:Value,vs[j]?=some v/\t.rel ρ s.H (Xo X ρ s.H) w v)
  {t:TV} {F:List OObj} (ht:renTV d it.res.r=t) (hF:it.res.fam.map (renO d)=F) (hdF:F≠[]->s.H d=[]):
  Calls P it.f vs w fun e w1=> ∃v,e= .returned v/\ik b ty w0 O X (jD s d t F) cs' (a.put (some d) v) w1:=by
 obtain⟨_,hcon⟩:=hcon;have hXlt: ∀j,Xo X ρ s.H j->j<w.heap.size:=fun j hj=>by
  rcases hj with hj|⟨x,y,o',n,g1,g2⟩
  ·exact hinv.bar j hj
  exact bP (hinv.objs x y o' g1) g2
 simp only[ai]at c3;by_cases hcase:it.args.all nX=true\/it.res.plain=false
 ·refine(hcon (Xo X ρ s.H) w vs hXlt (.inl hX) hbox ?_ ?_).mono ?_
  ·rw[<- c2];simp[hvs]
  ·intro j u hu;have hu0:=hu;rw[<- c2,az]at hu;obtain⟨t0,ht0,rfl⟩:=Option.map_eq_some_iff.1 hu;obtain⟨v,v1,v2⟩:=hv j t0 ht0;refine⟨v,v1,?_⟩;rcases hcase with hraw|hpl
   ·have hru:nX (ia s.H t0)=true:=by
     rw[ai]at hraw;exact hraw _ (aw hu0)
    have hne:=Mk hru;rw[hne]at hru⊢;exact yw hru v2
   have:=c3 t0 (aw ht0);rw[hpl]at this;exact qW hinv.objs (fun _ h=>h) (fun h=>by cases h) v2 this
  rintro e w1 ⟨v,rfl,ρc,hi,hr,hb'⟩;exact⟨v,rfl,B8 h1 hsz hinv htm hO hX ht hF hdF hi hr hb'⟩
 have hnr:it.args.all nX=false:=by simpa using fun h=>hcase (.inl h)
 have hpl:it.res.plain=true:=by simpa using fun h=>hcase (.inr h)
 have hcr:cs'.all MS=true:=by
  unfold lentOk at hok;rw[hnr,hpl]at hok;simpa using hok
 have hpl2:=hpl;unfold CallRes.plain at hpl2;rw[Bool.and_eq_true]at hpl2;have hfam:it.res.fam=[]:=List.isEmpty_iff.1 hpl2.1;refine(hcon (fun j=>j=b) w vs (fun j hj=>by subst hj;exact hXlt j (.inl hX)) rfl (hbox.weaken fun j _ hj=>by subst hj;exact .inl hX) ?_ ?_).mono ?_
 ·rw[<- c2];simp[hvs]
 ·intro j u hu;rw[<- c2,az]at hu;obtain⟨t0,ht0,rfl⟩:=Option.map_eq_some_iff.1 hu;obtain⟨v,v1,v2⟩:=hv j t0 ht0;refine⟨v,v1,?_⟩;exact yo hinv.objs (fun j hj=>by subst hj;exact .inl hX) (fun _ x y o b' c ho hb' hbb=>by subst hbb;exact(hinv.old x y o b' c ho hb').2 hX) v2 (c3 t0 (aw ht0))
 rintro e w1 ⟨v,rfl,ρc,hi,hr,hb'⟩;refine⟨v,rfl,B8 h1 hsz hinv htm hO hX ht hF hdF (ρc:=ρc) ?_ (yw hpl2.2 hr) (hb'.raw hcr)⟩;rw[hfam];exact⟨hi.keep,fun x r o ho=>by simp[famH]at ho,fun x r x' r' o o' j c c' ho=>by simp[famH]at ho,fun x r o j c ho=>by simp[famH]at ho,fun j hj=>Nat.lt_of_lt_of_le (hXlt j hj) hi.keep.size,fun x r o ho=>by simp[famH]at ho⟩
theorem PI {items:List (dD P)} {ow:List Nat} {i:Nat} {s1:AS} (hrel:ik b ty w0 O X s cs a w) {o:Oper} {c:Call} {y:Operand} (ho:o.op= .call c) (hcal:c.callee= .value y) (hy:(∃f,y= .func f)\/ ∃k,y= .tmp k) {it:dD P} (hit:items.find? (·.i==i)=some it)
  (hraw:lentOk it.args it.res cs'=true) (hcon:CallT P b ty it.f it.args cs it.res cs') (h:eI P items ow i o s=some s1) {K:Act->World->Prop} {Q:Exit->Act->World->Prop}
  (hK: ∀v w',ik b ty w0 O X s1 cs' (a.put o.dst v) w'->K (a.put o.dst v) w'):o.wp P a w K Q:=by
 obtain⟨h1,hsz,ρ,hinv,htm,hO,hX,hbox⟩:=hrel;have hM:ud o.op=false:=by rw[ho];show Pv c.callee=false;rw[hcal];rfl
 have hR:Ou o.op=false:=by
  obtain⟨callee,args,tys⟩:=c;simp only at hcal;subst hcal;rw[ho];rfl
 have hD:gG P s.ev s.H o.op=none:=by
  obtain⟨callee,args,tys⟩:=c;simp only at hcal;subst hcal;rw[ho];rfl
 unfold eI at h;simp only[hM,hR,hD,Bool.false_eq_true,if_false]at h;obtain⟨d,t,F,hdst,hA,hdF,hs1⟩: ∃d t F,o.dst=some d/\di P items ow i d s.ev s.H o.op=some (t,F)/\(F≠[]->s.H d=[])/\s1=jD s d t F:=by
  split at h
  ·cases h
  rename_i d hd;split at h
  ·rename_i t ht;injection h with h
   exact⟨d,t,[],hd,ht,fun h=>absurd rfl h,by rw[<- h];rfl⟩
  ·rename_i t F hF ht;split at h
   ·rename_i hH;injection h with h
    refine⟨d,t,F,hd,ht,fun _=>hH,?_⟩;rw[<- h];unfold jD;rw[if_neg (by intro h;exact hF (List.isEmpty_iff.1 h))]
   cases h
  cases h
 subst hs1;rw[ho]at hA;rcases hy with⟨f,rfl⟩|⟨k,rfl⟩
 ·simp only[di,hcal]at hA;rw[hit]at hA;split at hA
  ·rename_i it' ts hit' hts;injection hit' with hit'
   subst hit';split at hA
   ·rename_i hc;obtain⟨c1,c2,c3,_⟩:=hc;injection hA with hA
    injection hA with ht hF
    subst c1;obtain⟨e1,e2⟩:=dm hts;have hrun:=iD (w:=w) ho hcal (e:=a.eval) rfl hcon.1;unfold Oper.wp;rw[hrun];simp only[Oper.upon];refine(x8 h1 hsz hinv htm hO hX hbox hraw hcon c2 c3 (vs:=c.args.map a.eval) (by simp[e1]) (fun j t0 ht0=>?_) ht hF hdF).mono ?_
    ·obtain⟨x,hx,hxt⟩:=e2 j t0 ht0;exact⟨a.eval x,by rw[Array.getElem?_map];simp at hx;rw[hx];rfl,cz htm x t0 hxt⟩
    rintro e w1 ⟨v,rfl,hr⟩;show K (a.put o.dst v) w1;refine hK v w1 ?_;rw[hdst];exact hr
   cases hA
  cases hA
 simp only[di,hcal]at hA;rw[hit]at hA;split at hA
 ·rename_i f extra it' ts hcl hit' hts;injection hit' with hit'
  subst hit';split at hA
  ·rename_i hc;obtain⟨c1,c2,c3,_⟩:=hc;injection hA with hA
   injection hA with ht hF
   subst c1;obtain⟨e1,e2⟩:=dm hts;obtain⟨us,k1,k2,k3⟩:=xQ (v:=a.eval (.tmp k)) (fun t0 ht0=>cz htm (.tmp k) t0 ht0) hcl;have hrun:=yC (w:=w) ho hcal (e:=a.eval) k1 hcon.1;unfold Oper.wp;rw[hrun];simp only[Oper.upon];refine(x8 h1 hsz hinv htm hO hX hbox hraw hcon c2 c3 (vs:=c.args.map a.eval++us) (by simp[e1,k2]) (fun j t0 ht0=>?_) ht hF hdF).mono ?_
   ·by_cases hj:j<ts.length
    ·rw[List.getElem?_append_left hj]at ht0;obtain⟨x,hx,hxt⟩:=e2 j t0 ht0;exact⟨a.eval x,by rw[Array.getElem?_append_left (by simp at e1⊢;omega),Array.getElem?_map];simp at hx;rw[hx];rfl,cz htm x t0 hxt⟩
    rw[List.getElem?_append_right (by omega)]at ht0;obtain⟨v,v1,v2⟩:=k3 _ t0 ht0;exact⟨v,by rw[Array.getElem?_append_right (by simp at e1⊢;omega)];simp at e1⊢;rw[<- e1];exact v1,v2⟩
   rintro e w1 ⟨v,rfl,hr⟩;show K (a.put o.dst v) w1;refine hK v w1 ?_;rw[hdst];exact hr
  cases hA
 cases hA
end
end
section
theorem Qi {w w':World} {O X:Nat->Prop} {s2:AS} {ρ:Rho} {res:CallRes} {r:TV} {a0:Nat} {v:Value} (hinv:Inv w O X s2.H ρ w') (v2:r.rel ρ s2.H (Xo X ρ s2.H) w' v) (hself0:tE s2.H a0 r) (hfam:res.fam=(s2.H a0).map (renO 0)) (hr:res.r=renTV 0 r):
  ∃ρ':Rho,Inv w O X (famH 0 res.fam) ρ' w'/\res.r.rel ρ' (famH 0 res.fam) (Xo X ρ' (famH 0 res.fam)) w' v/\ ∀b,Xo X ρ' (famH 0 res.fam) b->Xo X ρ s2.H b:=by
 obtain⟨hself,h5⟩:=wN hself0;have hF: ∀(k:Nat) o,(famH 0 res.fam 0)[k]?=some o-> ∃o',(s2.H a0)[k]?=some o'/\o=renO 0 o':=fun k o ho=>by
  simp only[famH,if_true,hfam,az]at ho;obtain⟨o',g1,g2⟩:=Option.map_eq_some_iff.1 ho;exact⟨o',g1,g2.symm⟩
 have hz: ∀(x k:Nat) o,(famH 0 res.fam x)[k]?=some o->x=0:=fun x k o ho=>by
  by_cases hx:x=0
  ·exact hx
  simp[famH,hx]at ho
 have hXo: ∀b,Xo X (fun _ k=>ρ a0 k) (famH 0 res.fam) b->Xo X ρ s2.H b:=fun b hb=>by
  rcases hb with hb|⟨x,k,o,n,g1,g2⟩
  ·exact .inl hb
  have:=hz x k o g1;subst this;obtain⟨o',g3,_⟩:=hF k o g1;exact .inr ⟨a0,k,o',n,g3,g2⟩
 have hmap: ∀x u,cW a0 x->AV.rel ρ s2.H (Xo X ρ s2.H) w' x u->AV.rel (fun _ k=>ρ a0 k) (famH 0 res.fam) (Xo X (fun _ k=>ρ a0 k) (famH 0 res.fam)) w' (dq 0 x) u:=fun x u hs hx=>by
  cases x with
  |p x=>exact cu.weaken (fun b _ hb=>hXo b hb) hx
  |sl x k off len=>
   have hs:x=a0:=hs;subst hs;obtain⟨o,g1,g2,g3⟩:=hx;have h6:x<=4999:=h5.resolve_right fun h=>by rw[h]at g1;simp at g1
   exact⟨renO 0 o,by simp[famH,hfam,g1],by simpa[renO] using g2,ku (ρ':=fun _ k=>ρ x k) (a':=0) (r':=k) h6 g3 rfl⟩
  |ptr x k i j=>
   have hs:x=a0:=hs;subst hs;obtain⟨o,b,c,g1,g2,g3,g4⟩:=hx;exact⟨renO 0 o,b,c,by simp[famH,hfam,g1],g2,by simpa[renO] using g3,g4⟩
  |junk=>trivial
 have hfin: ∃ρ':Rho,Inv w O X (famH 0 res.fam) ρ' w'/\res.r.rel ρ' (famH 0 res.fam) (Xo X ρ' (famH 0 res.fam)) w' v/\ ∀b,Xo X ρ' (famH 0 res.fam) b->Xo X ρ s2.H b:=by
  refine⟨fun _ k=>ρ a0 k,⟨hinv.keep,fun x k o ho=>?_,fun x k x' k' o o' b c c' ho ho' hr1 hr2=>?_,fun x k o b c ho hr1=>?_,hinv.bar,fun x k o ho=>?_⟩,?_,hXo⟩
  ·have:=hz x k o ho;subst this;obtain⟨o',g1,rfl⟩:=hF k o ho;obtain⟨z1,z2,z3⟩:=hinv.objs a0 k o' g1;refine⟨fun e he=>?_,z2,?_⟩
   ·simp only[renO,ak]at he;obtain⟨e',he',rfl⟩:=he;rw[List.length_map];exact z1 e' he'
   cases hr0:ρ a0 k with
   |none=>rw[hr0]at z3;simp only[hr0];simp[renO,z3]
   |some bc=>
    obtain⟨b,n⟩:=bc;rw[hr0]at z3;obtain⟨cells,p1,p2,p3,p4,p5⟩:=z3;simp only[hr0];refine⟨cells,p1,p2,by simpa[renO] using p3,p4,fun i e j z he hz=>?_⟩;simp only[renO,az]at he;obtain⟨e',he',rfl⟩:=Option.map_eq_some_iff.1 he;rw[az]at hz;obtain⟨z',hz',rfl⟩:=Option.map_eq_some_iff.1 hz;obtain⟨u,u1,u2,u3⟩:=p5 i e' j z' he' hz';exact⟨u,u1,u2,hmap z' u (hinv.self a0 k o' g1 e' (aw he') z' (aw hz')) u3⟩
  ·have e1:=hz x k o ho;have e2:=hz x' k' o' ho';subst e1 e2;obtain⟨o1,g1,_⟩:=hF k o ho;obtain⟨o2,g2,_⟩:=hF k' o' ho';exact⟨rfl,(hinv.inj a0 k a0 k' o1 o2 b c c' g1 g2 hr1 hr2).2⟩
  ·have e1:=hz x k o ho;subst e1;obtain⟨o1,g1,_⟩:=hF k o ho;exact hinv.old a0 k o1 b c g1 hr1
  ·have e1:=hz x k o ho;subst e1;obtain⟨o1,g1,rfl⟩:=hF k o ho;intro e he z hzz;simp only[renO,ak]at he;obtain⟨e',he',rfl⟩:=he;simp only[ak]at hzz;obtain⟨z',hz',rfl⟩:=hzz;cases z'<;>first|rfl|trivial
  rw[hr];have agg: ∀cs u,(∀x∈cs,cW a0 x)->bX ρ s2.H (Xo X ρ s2.H) w' cs u->bX (fun _ k=>ρ a0 k) (famH 0 res.fam) (Xo X (fun _ k=>ρ a0 k) (famH 0 res.fam)) w' (cs.map (dq 0)) u:=fun cs u hs h=>by
   obtain⟨us,h1,h2,h3⟩:=h;refine⟨us,h1,by simpa using h2,fun j x hx=>?_⟩;rw[az]at hx;obtain⟨y,hy,rfl⟩:=Option.map_eq_some_iff.1 hx;obtain⟨u',u1,u2,u3⟩:=h3 j y hy;exact⟨u',u1,u2,hmap _ _ (hs y (aw hy)) u3⟩
  cases r with
  |one x=>exact hmap x v hself v2
  |agg cs=>exact agg cs v hself v2
  |fn f cs=>obtain⟨u,h1,h2⟩:=v2;exact⟨u,agg cs u hself h1,h2⟩
  |tup ts=>
   obtain⟨us,h1,h2,h3⟩:=v2;refine⟨us,h1,by simpa using h2,fun j b cs hx=>?_⟩;rw[az]at hx;obtain⟨y,hy,hyy⟩:=Option.map_eq_some_iff.1 hx;obtain⟨b',cs'⟩:=y;simp at hyy;obtain⟨rfl,rfl⟩:=hyy;obtain⟨u,u1,u2⟩:=h3 j b' cs' hy;have hs:=hself (b',cs') (aw hy);refine⟨u,u1,?_⟩;rcases u2 with⟨u2,u3⟩|⟨u2,x,rfl,u4⟩
   ·exact .inl ⟨u2,agg _ _ hs u3⟩
   exact .inr ⟨u2,_,rfl,hmap _ _ (hs x (by simp)) u4⟩
 exact hfin
section
variable {P:Program} {b:Nat} {ty:TypeId} {cs cs':List PV} {Q:Exit->AS->List PV->Prop} {s:AS}
theorem nt {f:FuncId} {fn:Func} {c:Code} {args:List TV} {res:CallRes} (hf:P.funcs[f]?=some fn) (hb:fn.body=some c) (hn:callable P f=true)
  (h:fb P b ty c (fun e s k=>(e= .normal\/e= .ret)/\k=cs'/\ ∃s',ci s s'/\mO P fn res s') ⟨args++ae (fn.ntmps-args.length) .undef,fun _=>[]⟩ cs):CallT P b ty f args cs res cs':=by
 refine⟨hn,fun X w vs hX hXb hbox hvs hargs=>?_⟩;refine calls_of_wp hf hb ?_;have hXo: ∀j,j<w.heap.size->Xo X (fun _ _=>none) (fun _=>[]) j->X j:=fun j _ h=>by
  rcases h with h|⟨a,r,o,c,h1,h2⟩
  ·exact h
  cases h2
 have hrel:ik b ty w (fun j=>j=b) X ⟨args++ae (fn.ntmps-args.length) .undef,fun _=>[]⟩ cs {tmps:=vs++Array.replicate (fn.ntmps-vs.size) undef,defers:=[]} w:=by
  refine⟨rfl,by simp[hvs],fun _ _=>none,⟨Keep.refl w,fun a r o ho=>by simp at ho,fun a r a' r' o o' b c c' ho=>by simp at ho,fun a r o b c ho=>by simp at ho,hX,fun a r o ho=>by simp at ho⟩,fun t x hx=>?_,rfl,hXb,hbox.weaken hXo⟩;by_cases ht:t<args.length
  ·rw[List.getElem?_append_left ht]at hx;obtain⟨v,v1,v2⟩:=hargs t x hx;refine⟨v,by rw[Array.getElem?_append_left (by omega)];exact v1,TV.rel_map v2 (fun y u hy=>?_)⟩;cases y with
   |p y=>exact cu.weaken hXo hy
   |sl a r off len=>obtain⟨o,h1,_⟩:=hy;simp at h1
   |ptr a r i j=>obtain⟨o,_,_,h1,_⟩:=hy;simp at h1
   |junk=>trivial
  rw[List.getElem?_append_right (by omega),List.getElem?_replicate]at hx;split at hx
  ·rename_i hlt;injection hx with hx
   subst hx;refine⟨undef,?_,ij⟩;rw[Array.getElem?_append_right (by omega),Array.getElem?_replicate,if_pos (by omega)]
  cases hx
 refine wp_mono (h _ _ _ _ _ hrel) fun e a' w' ⟨s1,k,⟨he,hk,s2,hw,r,a0,hres,hself,hfam,hr⟩,hrel1⟩=>?_
 subst hk;obtain⟨h1,hsz,ρ,hinv,htm,_,_,hbox'⟩:=hrel1.weak hw;have htm:bY X ρ s2 a' w':=htm;obtain⟨v,v1,v2⟩:=kq hinv htm hres;obtain⟨ρ',g1,g2,g3⟩:=Qi hinv v2 hself hfam hr;rcases he with rfl|rfl
 ·exact⟨h1,v,v1,v,rfl,ρ',g1,g2,hbox'.weaken fun j _ hj=>g3 j hj⟩
 exact⟨h1,v,v1,v,rfl,ρ',g1,g2,hbox'.weaken fun j _ hj=>g3 j hj⟩
/-! Regions. -/
theorem Eb {items items':List (dD P)} {ow:List Nat} {i d:Nat} {ev:Operand->Option TV} {H:OH} {op:Op} (h:items.find? (·.i==i)=items'.find? (·.i==i)):di P items ow i d ev H op=di P items' ow i d ev H op:=by
 cases op<;>simp only[di,h]
theorem xc {items items':List (dD P)} {ow:List Nat} {ops:Array Oper} {i:Nat} {o:Oper} {s:AS} (h:items.find? (·.i==i)=items'.find? (·.i==i)):bZ P items ow ops i o s=bZ P items' ow ops i o s:=by
 have e:eI P items ow i o s=eI P items' ow i o s:=by
  unfold eI;simp only[Eb h]
 unfold bZ;simp only[e]
def jx (ops:Array Oper) (m:Nat):Bool:=match ops[m]? with
 |some o=>o.guard.isNone&&(match o.op with
  | .call c=>(match c.callee with
   | .value (.func _)=>true
   | .value (.tmp _)=>true
   |_=>false)
  |_=>false)
 |none=>false
theorem B7 {ops:Array Oper} {m:Nat} (h:jx ops m=true) {o:Oper} (ho:ops[m]?=some o):o.guard=none/\ ∃c y,o.op= .call c/\c.callee= .value y/\((∃f,y= .func f)\/ ∃k,y= .tmp k):=by
 unfold jx at h;rw[ho]at h;simp only[Bool.and_eq_true]at h;obtain⟨h1,h2⟩:=h;refine⟨by simpa using h1,?_⟩;split at h2
 ·rename_i c hc;split at h2
  ·rename_i f hf;exact⟨c,_,hc,hf,.inl ⟨f,rfl⟩⟩
  ·rename_i k hk;exact⟨c,_,hc,hk,.inr ⟨k,rfl⟩⟩
  cases h2
 cases h2
theorem Eo {items:List (aM P)} {it:dD P} {i:Nat} (h:i≠it.i):(items.map aM.a++[it]).find? (·.i==i)=(items.map aM.a).find? (·.i==i):=by
 rw[List.find?_append];have:[it].find? (·.i==i)=none:=by simp[Ne.symm h]
 rw[this,Option.or_none]
theorem IJ {items:List (aM P)} {it:dD P} (h:items.all (fun c=>c.i !=it.i)=true):(items.map aM.a++[it]).find? (·.i==it.i)=some it:=by
 rw[List.find?_append];have:(items.map aM.a).find? (·.i==it.i)=none:=by
  rw[List.find?_eq_none];intro x hx;obtain⟨c,hc,rfl⟩:=List.mem_map.1 hx;rw[ai]at h;have:=h c hc;simpa[aM.a] using this
 rw[this]
 simp
theorem yH {w0 w:World} {O X:Nat->Prop} {a:Act} (items:List (aM P)) (it:dD P) {ow:List Nat} {ops:Array Oper} {i:Nat} {o:Oper} (ho:ops[i]?=some o) (hL:jx ops it.i=true) (hF:items.all (fun c=>c.i !=it.i)=true) (hraw:lentOk it.args it.res cs'=true) (hcon:CallT P b ty it.f it.args cs it.res cs')
  {x:List PV} (hx:i=it.i->x=cs) {s1:AS} (hrel:ik b ty w0 O X s x a w) (h:bZ P (items.map aM.a++[it]) ow ops i o s=some s1) {K:Act->World->Prop} {Q:Exit->Act->World->Prop}
  (hK: ∀v w',ik b ty w0 O X s1 (if i=it.i then cs' else x) (a.put o.dst v) w'->K (a.put o.dst v) w'):if Region.wanted o (yielded ops a.tmps)then o.wp P a w K Q else K (a.put o.dst undef) w:=by
 by_cases hi:i=it.i
 ·have hxx:=hx hi;subst hi hxx;obtain⟨hg,c,f,h1,h2,h3⟩:=B7 hL ho;rw[if_pos (by simp[Region.wanted,hg])];unfold bZ at h;rw[hg]at h;simp only[if_true]at hK;exact PI hrel h1 h2 h3 (IJ hF) hraw hcon h hK
 rw[xc (Eo hi)]at h;obtain⟨Own,r1,r2⟩:=hrel.rebase;simp only[if_neg hi]at hK;exact j7 (aM.ok items) r1 h fun v w' hr=>hK v w' (r2 _ _ _ hr)
theorem yA {w0:World} {O X:Nat->Prop} (items:List (aM P)) (it:dD P) {ow:List Nat} {ops:Array Oper} (hL:jx ops it.i=true) (hF:items.all (fun c=>c.i !=it.i)=true) (hraw:lentOk it.args it.res cs'=true) (hcon:CallT P b ty it.f it.args cs it.res cs') {Q:Exit->Act->World->Prop}:
  ∀(l:List Oper) (k:Nat) (s s':AS) (a:Act) (w:World),(∀(j:Nat) o,l[j]?=some o->ops[k+j]?=some o)->jq P (items.map aM.a++[it]) ow ops (l.zipIdx k) s=some s'->ik b ty w0 O X s (if k<=it.i then cs else cs') a w->
   (∀a' w',ik b ty w0 O X s' (if k+l.length<=it.i then cs else cs') a' w'->Q .normal a' w')->wpOps P ops Q (List.range' k l.length) a w
 |[],k,s,s',a,w,_,h,r,hQ=>by
  simp only[List.zipIdx_nil,jq]at h;injection h with h
  subst h;exact hQ a w r
 |o::l,k,s,s',a,w,hl,h,r,hQ=>by
  simp only[List.zipIdx_cons,jq]at h;split at h
  ·rename_i s1 hs1;simp only[List.length_cons,List.range'_succ,wpOps];have ho:ops[k]?=some o:=by have:=hl 0 o rfl;simpa using this
   rw[ho];simp only;have:=yH (Q:=Q) items it ho hL hF hraw hcon (x:=if k<=it.i then cs else cs') (fun hk=>if_pos (by omega)) r hs1 (K:=wpOps P ops Q (List.range' (k+1) l.length)) (fun v w' hr=>yA items it hL hF hraw hcon l (k+1) s1 s' _ _ (fun j o hj=>by have:=hl (j+1) o (by simpa using hj);rwa[show k+(j+1)=k+1+j by omega]at this) h (by
    have e:(if k=it.i then cs' else if k<=it.i then cs else cs')=if k+1<=it.i then cs else cs':=by
     by_cases h1:k=it.i
     ·rw[if_pos h1,if_neg (by omega)]
     rw[if_neg h1];by_cases h2:k<=it.i
     ·rw[if_pos h2,if_pos (by omega)]
     rw[if_neg h2,if_neg (by omega)]
    rw[e]at hr;exact hr) (fun a' w' hr'=>hQ a' w' (by rw[List.length_cons,show k+(l.length+1)=k+1+l.length by omega];exact hr')))
   split at this
   ·rename_i hw;rw[if_pos hw];exact .inl this
   rename_i hw;rw[if_neg hw];exact this
  cases h
theorem xG (m:Nat) {f:FuncId} {args:List TV} {res:CallRes} (hcon:CallT P b ty f args cs res cs') (items:List (aM P)) (ow:List Nat) {id:Nat} {ops:Array Oper} (hL:jx ops m=true) (hF:items.all (fun c=>c.i !=m)=true) (hraw:lentOk args res cs'=true)
  (h:bD P (items.map aM.a++[⟨m,f,args,res⟩]) ow (aY ops ops.toList 0) (some s) (fun s'=>Q .normal s' cs')):fb P b ty (.region id ops false) Q s cs:=fun w0 O X a w r=>by
 obtain⟨s',h1,h2⟩:=bK P _ ow ops ops.toList 0 s _ h;refine wp_region ?_;rw[List.range_eq_range'];have hm:m<ops.size:=by
  unfold jx at hL;split at hL
  ·rename_i o ho;exact(Array.getElem?_eq_some_iff.1 ho).1
  cases hL
 have:=yA (w0:=w0) (O:=O) (X:=X) items ⟨m,f,args,res⟩ hL hF hraw hcon (Q:=fun e a' w'=> ∃s' k,Q e s' k/\ik b ty w0 O X s' k a' w') ops.toList 0 s s' a w (fun j o hj=>by simpa using hj) h1 (by simpa using r) (fun a' w' hr=>⟨s',cs',h2,by
  rw[if_neg (by simp;omega)]at hr;exact hr⟩)
 simpa using this
theorem xF (hmx:P.follows .mixedOrders=true) (m:Nat) {f:FuncId} {args:List TV} {res:CallRes} (hcon:CallT P b ty f args cs res cs') (items:List (aM P)) (ow:List Nat) {id:Nat} {ops:Array Oper} (hd:ce [] ops=true) (hL:jx ops m=true) (hF:items.all (fun c=>c.i !=m)=true) (hraw:lentOk args res cs'=true)
  (h:bD P (items.map aM.a++[⟨m,f,args,res⟩]) ow (aY ops ops.toList 0) (some s) (fun s'=>Q .normal s' cs')):fb P b ty (.region id ops true) Q s cs:=fun w0 O X a w r=>by
 obtain⟨sF,h1,h2⟩:=bK P _ ow ops ops.toList 0 s _ h;have hm:m<ops.size:=by
  unfold jx at hL;split at hL
  ·rename_i o ho;exact(Array.getElem?_eq_some_iff.1 ho).1
  cases hL
 refine wp_region_any hmx ?_;have hrun:ff P (items.map aM.a++[⟨m,f,args,res⟩]) ow ops (List.range ops.size) s=some sF:=by
  rw[List.range_eq_range'];have:=jV (P:=P) (items:=items.map aM.a++[⟨m,f,args,res⟩]) (ow:=ow) ops.toList 0 s (fun j o hj=>by simpa using hj);rw[h1]at this;simpa using this.symm
 have hr':ik b ty w0 O X s cs a {w with drawn:=w.drawn+1}:=by
  obtain⟨Own,g1,g2⟩:=r.rebase;obtain⟨q1,q2,ρ,hinv,htm⟩:=g1;have e:Ext w {w with drawn:=w.drawn+1}:=⟨rfl,rfl,rfl,ac _,fun _ _=>rfl⟩;have htm:bY X ρ s a w:=htm;exact g2 _ _ _ ⟨q1,q2,ρ,hinv.grow e,htm.grow e⟩
 refine mc (sep:=[]) (qG hd (by simp)) hd (Q:=fun e a' w'=> ∃s' k,Q e s' k/\ik b ty w0 O X s' k a' w') (fun p s a w=>ik b ty w0 O X s (if p m then cs' else cs) a w) ⟨kS r.rel,fun x hx=>by simp at hx⟩ hrun (fun p a w hall hr=>⟨sF,cs',h2,by
  rw[if_pos (hall m hm)]at hr;exact hr⟩) (fun p i o s s1 a w K ho hpi _ hs hr hK=>?_) ops.size (Array.replicate ops.size false) s a _ (by simp) ?_ ?_ ?_ ?_
 ·refine yH items ⟨m,f,args,res⟩ ho hL hF hraw hcon (x:=if p m then cs' else cs) (fun hi=>?_) hr hs (fun v w' hr'=>hK v w' ?_)
  ·have hi:i=m:=hi;subst hi;rw[if_neg (by simp[hpi])]
  by_cases hi:i=m
  ·subst hi;simpa[eB] using hr'
  have hmi:(m==i)=false:=by simpa using Ne.symm hi
  simpa[eB,hi,hmi] using hr'
 ·intro j o ho hp;have hj:j<ops.size:=(Array.getElem?_eq_some_iff.1 ho).1;simp[hj]at hp
 ·exact aA (List.length_filter_le _ _) (by simp)
 ·have:rr ops.size (fun j=>(Array.replicate ops.size false).getD j true)=[]:=by
   unfold rr;rw[List.filter_eq_nil_iff];intro j hj;have:=List.mem_range.1 hj;simp[this]
  rw[this];rfl
 have:(Array.replicate ops.size false).getD m true=false:=by simp[hm]
 simp only[this];exact hr'
theorem rS (m:Nat) {f:FuncId} {args:List TV} {res:CallRes} (hcon:CallT P b ty f args cs res cs') (items:List (aM P)) (ow:List Nat) {id:Nat} {ops:Array Oper} {y:Code} (hL:jx ops m=true) (hF:items.all (fun c=>c.i !=m)=true) (hraw:lentOk args res cs'=true)
  (h: ∀K:AS->Prop,(∀s',fb P b ty y Q s' cs'->K s')->bD P (items.map aM.a++[⟨m,f,args,res⟩]) ow (aY ops ops.toList 0) (some s) K):fb P b ty (.seq (.region id ops false) y) Q s cs:=
 db (xG m hcon items ow hL hF hraw (h _ fun _ h=>h))
theorem iM (m:Nat) {f:FuncId} {args:List TV} {res:CallRes} (hcon:CallT P b ty f args cs res cs') (items:List (aM P)) (ow:List Nat) {id:Nat} {ops:Array Oper} (hL:jx ops m=true) (hF:items.all (fun c=>c.i !=m)=true) (hraw:lentOk args res cs'=true)
  (h: ∀K:AS->Prop,(∀s',Q .normal s' cs'->K s')->bD P (items.map aM.a++[⟨m,f,args,res⟩]) ow (aY ops ops.toList 0) (some s) K):fb P b ty (.region id ops false) Q s cs:=
 xG m hcon items ow hL hF hraw (h _ fun _ h=>h)
theorem DR (hmx:P.follows .mixedOrders=true) (m:Nat) {f:FuncId} {args:List TV} {res:CallRes} (hcon:CallT P b ty f args cs res cs') (items:List (aM P)) (ow:List Nat) {id:Nat} {ops:Array Oper} {y:Code} (hd:ce [] ops=true) (hL:jx ops m=true) (hF:items.all (fun c=>c.i !=m)=true) (hraw:lentOk args res cs'=true)
  (h: ∀K:AS->Prop,(∀s',fb P b ty y Q s' cs'->K s')->bD P (items.map aM.a++[⟨m,f,args,res⟩]) ow (aY ops ops.toList 0) (some s) K):fb P b ty (.seq (.region id ops true) y) Q s cs:=
 db (xF hmx m hcon items ow hd hL hF hraw (h _ fun _ h=>h))
theorem ma (hmx:P.follows .mixedOrders=true) (m:Nat) {f:FuncId} {args:List TV} {res:CallRes} (hcon:CallT P b ty f args cs res cs') (items:List (aM P)) (ow:List Nat) {id:Nat} {ops:Array Oper} (hd:ce [] ops=true) (hL:jx ops m=true) (hF:items.all (fun c=>c.i !=m)=true) (hraw:lentOk args res cs'=true)
  (h: ∀K:AS->Prop,(∀s',Q .normal s' cs'->K s')->bD P (items.map aM.a++[⟨m,f,args,res⟩]) ow (aY ops ops.toList 0) (some s) K):fb P b ty (.region id ops true) Q s cs:=
 xF hmx m hcon items ow hd hL hF hraw (h _ fun _ h=>h)
end
/-! A box of one's own is lent. -/
def lK (d b:Nat):AV->AV
 | .sl x r off len=>if x=d then .junk else .sl x r off len
 | .ptr x r i j=>if x=d then(if r=0/\i=0/\j=0 then .raw (.pointer (some ⟨b,0,none⟩))else .junk)else .ptr x r i j
 |x=>x
def vT (d b:Nat):TV->TV
 | .one x=> .one (lK d b x)
 | .agg cs=> .agg (cs.map (lK d b))
 | .fn f cs=> .fn f (cs.map (lK d b))
 | .tup ts=> .tup (ts.map fun t=>(t.1,t.2.map (lK d b)))
theorem Kt {P:Program} {c:Code} {Q:Exit->AS->Prop} {s:AS} (d:Nat) {ty:TypeId} {cs:List PV} (hd:s.H d=[⟨ty,cs.length,[cs.map AV.p]⟩]) (h: ∀b,fb P b ty c (fun e s' _=>Q e s') ⟨s.tmps.map (vT d b),be s.H d []⟩ cs):bL P c Q s:=fun w0 O X a w r=>by
 obtain⟨h1,hsz,ρ,hinv,htm⟩:=r;have htm:bY X ρ s a w:=htm;have hget:(s.H d)[0]?=some ⟨ty,cs.length,[cs.map AV.p]⟩:=by rw[hd];rfl
 obtain⟨z1,z2,z3⟩:=hinv.objs d 0 _ hget;cases hρ:ρ d 0 with
 |none=>rw[hρ]at z3;cases z3
 |some bc=>
  obtain⟨b,n⟩:=bc;rw[hρ]at z3;obtain⟨cells,p1,p2,p3,p4,p5⟩:=z3;have hold:=hinv.old d 0 _ b n hget hρ;have hna: ∀(x y:Nat) o,(be s.H d [] x)[y]?=some o->x≠d/\(s.H x)[y]?=some o:=fun x y o ho=>by
   by_cases hx:x=d
   ·subst hx;rw[bF]at ho;simp at ho
   rw[aZ hx]at ho;exact⟨hx,ho⟩
  have hXo: ∀j,Xo (fun j=>X j\/j=b) ρ (be s.H d []) j->Xo X ρ s.H j:=fun j hj=>by
   rcases hj with(hj|rfl)|⟨x,y,o,n',g1,g2⟩
   ·exact .inl hj
   ·exact .inr ⟨d,0,_,n,hget,hρ⟩
   exact .inr ⟨x,y,o,n',(hna x y o g1).2,g2⟩
  have hmap: ∀x v,AV.rel ρ s.H (Xo X ρ s.H) w x v->AV.rel ρ (be s.H d []) (Xo (fun j=>X j\/j=b) ρ (be s.H d [])) w (lK d b x) v:=fun x v hx=>by
   cases x with
   |p x=>exact cu.weaken (fun j _ hj=>hXo j hj) hx
   |sl x r off len=>
    simp only[lK];split
    ·trivial
    rename_i hxd;obtain⟨o,g1,g2⟩:=hx;exact⟨o,by rw[aZ hxd];exact g1,g2⟩
   |ptr x r i j=>
    simp only[lK];split
    ·rename_i hxd;subst hxd;split
     ·rename_i hc;obtain⟨rfl,rfl,rfl⟩:=hc;obtain⟨o,b',c',g1,g2,g3,g4⟩:=hx;rw[hρ]at g2;injection g2 with g2
      injection g2 with g2 g2'
      subst g2;rw[g4];simp only[Nat.zero_mul,Nat.add_zero];exact cu.raw _ rfl
     trivial
    rename_i hxd;obtain⟨o,b',c',g1,g2⟩:=hx;exact⟨o,b',c',by rw[aZ hxd];exact g1,g2⟩
   |junk=>trivial
  have hagg: ∀cs v,bX ρ s.H (Xo X ρ s.H) w cs v->bX ρ (be s.H d []) (Xo (fun j=>X j\/j=b) ρ (be s.H d [])) w (cs.map (lK d b)) v:=fun cs v ⟨vs,g1,g2,g3⟩=>by
   refine⟨vs,g1,by simpa using g2,fun j x hx=>?_⟩;rw[az]at hx;obtain⟨y,hy,rfl⟩:=Option.map_eq_some_iff.1 hx;obtain⟨u,u1,u2,u3⟩:=g3 j y hy;exact⟨u,u1,u2,hmap y u u3⟩
  have hrel:ik b ty w0 (fun j=>O j\/j=b) (fun j=>X j\/j=b) ⟨s.tmps.map (vT d b),be s.H d []⟩ cs a w:=by
   refine⟨h1,by simpa using hsz,ρ,⟨⟨hinv.keep.os,hinv.keep.tape,hinv.keep.output,hinv.keep.size,fun k hk hn=>hinv.keep.block k hk (fun h=>hn (.inl h))⟩,fun x y o ho=>?_,fun x y x' y' o o' j c c' ho ho'=>hinv.inj x y x' y' o o' j c c' (hna x y o ho).2 (hna x' y' o' ho').2,fun x y o j c ho hj=>?_,fun j hj=>?_,fun x y o ho=>hinv.self x y o (hna x y o ho).2⟩,fun t x hx=>?_,.inr rfl,.inr rfl,?_⟩
   ·obtain⟨hxd,ho'⟩:=hna x y o ho;obtain⟨q1,q2,q3⟩:=hinv.objs x y o ho';refine⟨q1,q2,?_⟩;cases hr:ρ x y with
    |none=>rw[hr]at q3;exact q3
    |some bc=>
     obtain⟨b',c'⟩:=bc;rw[hr]at q3;obtain⟨cells',r1,r2,r3,r4,r5⟩:=q3;refine⟨cells',r1,r2,r3,r4,fun i e j z he hz=>?_⟩;obtain⟨u,u1,u2,u3⟩:=r5 i e j z he hz;have hs:=hinv.self x y o ho' e (aw he) z (aw hz);have:=hmap z u u3;refine⟨u,u1,u2,?_⟩;cases z with
     |sl z _ _ _=>have hs:z=x:=hs;subst hs;simpa[lK,hxd] using this
     |ptr z _ _ _=>have hs:z=x:=hs;subst hs;simpa[lK,hxd] using this
     |p z=>exact this
     |junk=>trivial
   ·obtain⟨hxd,ho'⟩:=hna x y o ho;obtain⟨g1,g2⟩:=hinv.old x y o j c ho' hj;refine⟨?_,?_⟩
    ·rcases g1 with g|g
     ·exact .inl g
     exact .inr (.inl g)
    rintro(g|rfl)
    ·exact g2 g
    exact hxd (hinv.inj x y d 0 o _ j c n ho' hget hj hρ).1
   ·rcases hj with hj|rfl
    ·exact hinv.bar j hj
    exact(Array.getElem?_eq_some_iff.1 p1).1
   ·simp only[az]at hx;obtain⟨y,hy,rfl⟩:=Option.map_eq_some_iff.1 hx;obtain⟨v,v1,v2⟩:=htm t y hy;refine⟨v,v1,?_⟩;cases y with
    |one x=>exact hmap x v v2
    |agg cs=>exact hagg cs v v2
    |fn f cs=>obtain⟨u,h1,h2⟩:=v2;exact⟨u,hagg cs u h1,h2⟩
    |tup ts=>
     obtain⟨vs,g1,g2,g3⟩:=v2;refine⟨vs,g1,by simpa using g2,fun j c cs hj=>?_⟩;rw[az]at hj;obtain⟨z,hz,hzz⟩:=Option.map_eq_some_iff.1 hj;obtain⟨c',cs'⟩:=z;simp at hzz;obtain⟨rfl,rfl⟩:=hzz;obtain⟨u,u1,u2⟩:=g3 j c' cs' hz;refine⟨u,u1,?_⟩;rcases u2 with⟨u2,u3⟩|⟨u2,q',rfl,u4⟩
     ·exact .inl ⟨u2,hagg _ _ u3⟩
     exact .inr ⟨u2,_,rfl,hmap _ _ u4⟩
   refine⟨cells,n,p1,p2,by simpa using p3,p4,z2,fun j x hx=>?_⟩;obtain⟨v,v1,v2,v3⟩:=p5 0 (cs.map AV.p) j (.p x) rfl (by rw[az,hx];rfl);exact⟨v,by simpa using v1,v2,cu.weaken (fun j _ hj=>hXo j hj) v3⟩
  refine wp_mono (h b _ _ _ _ _ hrel) fun e a' w' ⟨s',cs',hq,hr⟩=>⟨s',hq,?_⟩
  obtain⟨k1,ksz,ρ',kinv,ktm,_,_,_⟩:=hr;have ktm:bY (fun j=>X j\/j=b) ρ' s' a' w':=ktm;have kXo: ∀j,Xo X ρ' s'.H j->Xo (fun j=>X j\/j=b) ρ' s'.H j:=fun j hj=>by
   rcases hj with hj|hj
   ·exact .inl (.inl hj)
   exact .inr hj
  have kmap: ∀x v,AV.rel ρ' s'.H (Xo (fun j=>X j\/j=b) ρ' s'.H) w' x v->AV.rel ρ' s'.H (Xo X ρ' s'.H) w' x v:=fun x v hx=>by
   cases x with
   |p x=>exact cu.weaken (fun j _ hj=>kXo j hj) hx
   |sl x r off len=>exact hx
   |ptr x r i j=>exact hx
   |junk=>trivial
  refine⟨k1,ksz,ρ',⟨⟨kinv.keep.os,kinv.keep.tape,kinv.keep.output,kinv.keep.size,fun k hk hn=>?_⟩,fun x y o ho=>fH (kinv.objs x y o ho) rfl (fun _ _ _=>rfl) kmap,kinv.inj,fun x y o j c ho hj=>?_,fun j hj=>kinv.bar j (.inl hj),kinv.self⟩,fun t x hx=>?_⟩
  ·by_cases hkb:k=b
   ·subst hkb;exfalso;rcases hold.1 with g|g
    ·omega
    exact hn g
   exact kinv.keep.block k hk (fun hh=>by
    rcases hh with hh|hh
    ·exact hn hh
    exact hkb hh)
  ·obtain⟨g1,g2⟩:=kinv.old x y o j c ho hj;refine⟨?_,fun hx=>g2 (.inl hx)⟩;rcases g1 with g|g|g
   ·exact .inl g
   ·exact .inr g
   exact absurd (.inr g) g2
  obtain⟨v,v1,v2⟩:=ktm t x hx;exact⟨v,v1,TV.rel_map v2 kmap⟩
end
structure uG where
 key:Int
 vals:List Int
 at_:Option Addr
 cap:Nat
 deriving Inhabited
def uG.val (it:uG):Value:= .slice it.at_ it.vals.length it.cap
def uG.agg (it:uG):Value:= .agg #[.int .i64 it.key,.slice it.at_ it.vals.length it.cap]
structure rM (w:World) (g:Nat) (it:uG):Prop where
 rd:RdI .i64 w it.at_ it.vals
 ne: ∀p,it.at_=some p->p.block≠g
 le:it.vals.length<=9223372036854775807
theorem rM.ext {w w':World} {g:Nat} {it:uG} (h:rM w g it) (e:Ext w w'):rM w' g it:=⟨h.rd.ext e,h.ne,h.le⟩
theorem RdI.setOther {k:IntKind} {w:World} {A:Option Addr} {zs:List Int} {g:Nat} (h:RdI k w A zs) (hne: ∀p,A=some p->p.block≠g) (p:Addr) (hp:p.block=g) (v:Value):RdI k (w.setCell p v) A zs:=fun hn=>by
 obtain⟨b,off,rfl,hc⟩:=h hn;refine⟨b,off,rfl,fun i x hx=>?_⟩;rw[World.cell?_setCell_other _ _ _ _ (fun e=>by have:=hne _ rfl;have e2:=congrArg Addr.block e;simp at e2 this;omega)];exact hc i x hx
theorem rM.setCell {w:World} {g:Nat} {it:uG} (h:rM w g it) (p:Addr) (hp:p.block=g) (v:Value):rM (w.setCell p v) g it:=⟨h.rd.setOther h.ne p hp v,h.ne,h.le⟩
theorem r9 {w w':World} (h:Ext w w') (g:Nat):w.grownBy w' (some g):=⟨h.os,h.tape,h.output,h.size,fun k hk _=>h.block k hk⟩
theorem BM {a b c:World} {g:Nat} (h:a.grownBy b (some g)) (k:b.grownBy c (some g)):a.grownBy c (some g):=
 ⟨k.os.trans h.os,k.tape.trans h.tape,k.output.trans h.output,aA h.size k.size,fun i hi hne=>(k.block i (Nat.lt_of_lt_of_le hi h.size) hne).trans (h.block i hi hne)⟩
theorem S4 {a b:World} {g:Nat} (h:a.grownBy b (some g)) (o:Nat) (v:Value):a.grownBy (b.setCell ⟨g,o,none⟩ v) (some g):=
 BM h ⟨rfl,rfl,rfl,by simp[World.setCell],fun k _ hne=>Below.heap_setCell _ _ _ _ (fun e=>hne (by rw[e]))⟩
theorem Gt {w w':World} {g:Nat} (h:w.grownBy w' (some g)) {p:Addr} {v:Value} (hp:w.cell? p=some v) (hne:p.block≠g):w'.cell? p=some v:=
 h.cell hp (fun e=>hne (by injection e))
theorem RdI.gb {k:IntKind} {w w':World} {A:Option Addr} {zs:List Int} {g:Nat} (h:RdI k w A zs) (hne: ∀p,A=some p->p.block≠g) (hg:w.grownBy w' (some g)):RdI k w' A zs:=fun hn=>by
 obtain⟨b,off,rfl,hc⟩:=h hn;exact⟨b,off,rfl,fun i x hx=>Gt hg (hc i x hx) (show b≠g from hne ⟨b,off,none⟩ rfl)⟩
def gZ (l:List Int) (a:Nat):Nat:=if a<l.length then a+1 else a
section
section
variable {P:Program} {f:FuncId} {args:List TV} {res:CallRes}
theorem Oh {w w':World} {X:Nat->Prop} {v:Value} {t:TV} {fam:List OObj} {res:CallRes} (hw:ci ⟨[t],famH 0 fam⟩ ⟨[res.r],Hm [(0,res.fam)]⟩)
  (h: ∃ρ:Rho,Inv w (fun _=>False) X (famH 0 fam) ρ w'/\t.rel ρ (famH 0 fam) (Xo X ρ (famH 0 fam)) w' v):
  ∃ρ:Rho,Inv w (fun _=>False) X (famH 0 res.fam) ρ w'/\res.r.rel ρ (famH 0 res.fam) (Xo X ρ (famH 0 res.fam)) w' v:=by
 have e:Hm [(0,res.fam)]=famH 0 res.fam:=by funext a;rfl
 rw[e]at hw;obtain⟨ρ,hi,hr⟩:=h;obtain⟨_,_,ρ',hi',ht⟩:=hw w (fun _=>False) X ⟨#[v],[]⟩ w' ⟨rfl,rfl,ρ,hi,fun j x hx=>by
  match j,hx with
  |0,hx=>simp at hx;subst hx;exact⟨v,rfl,hr⟩
  |j+1,hx=>simp at hx⟩
 obtain⟨v',e1,r'⟩:=ht 0 _ rfl;simp at e1;subst e1;exact⟨ρ',hi',r'⟩
theorem CallC.weak {fam:List OObj} {t:TV} (h:CallC P f args ⟨fam,t⟩) (hw:ci ⟨[t],famH 0 fam⟩ ⟨[res.r],Hm [(0,res.fam)]⟩):CallC P f args res:=
 ⟨h.1,fun X w vs hX hs ha=>(h.2 X w vs hX hs ha).mono fun _ _ ⟨v,he,k⟩=>⟨v,he,Oh hw k⟩⟩
end
end
section
theorem pE {a:Act} {d:Option Tmp} {k:Nat} (v:Value) (h:d≠some k):(a.put d v).tmps[k]?=a.tmps[k]?:=by
 cases d with
 |none=>rfl
 |some d=>
  have:d≠k:=fun e=>h (by rw[e])
  simp[Act.put,Array.getElem?_setIfInBounds_ne this]
def kC (k:Nat) (v0:Value) (w0:World) (O X:Nat->Prop) (s:AS) (a:Act) (w:World):Prop:=fW w0 O X s a w/\a.tmps[k]?=some v0
def eR (P:Program) (k:Nat) (c:Code) (Q:Exit->AS->Prop) (s:AS):Prop:=
 ∀(v0:Value) (w0:World) (O X:Nat->Prop) (a:Act) (w:World),kC k v0 w0 O X s a w->c.wp P (fun e a' w'=> ∃s',Q e s'/\kC k v0 w0 O X s' a' w') a w
def eP (k:Nat) (ops:Array Oper):Bool:=ops.toList.all fun o=>o.dst !=some k
section
variable {P:Program} {k:Nat} {s s':AS} {Q:Exit->AS->Prop}
theorem kC.weak {v0:Value} {w0 w:World} {O X:Nat->Prop} {a:Act} (h:ci s s') (r:kC k v0 w0 O X s a w):kC k v0 w0 O X s' a w:=⟨h _ _ _ _ _ r.1,r.2⟩
theorem eR.weak {c:Code} (h:ci s s') (r:eR P k c Q s'):eR P k c Q s:=fun _ _ _ _ _ _ q=>r _ _ _ _ _ _ (q.weak h)
theorem eR.mono {c:Code} {Q':Exit->AS->Prop} (h:eR P k c Q s) (q: ∀e s',Q e s'->Q' e s'):eR P k c Q' s:=fun _ _ _ _ _ _ r=>
 wp_mono (h _ _ _ _ _ _ r) fun _ _ _ ⟨s',h1,h2⟩=>⟨s',q _ _ h1,h2⟩
theorem dM (h:Q .normal s):eR P k .skip Q s:=fun _ _ _ _ _ _ r=>wp_skip ⟨s,h,r⟩
theorem fK {id:Nat} (h:Q (.exit id) s):eR P k (.exit id) Q s:=fun _ _ _ _ _ _ r=>wp_exit ⟨s,h,r⟩
theorem iX (h:Q .ret s):eR P k .ret Q s:=fun _ _ _ _ _ _ r=>wp_ret ⟨s,h,r⟩
theorem bI {x y:Code} (h:eR P k x (iF (eR P k y Q) Q) s):eR P k (.seq x y) Q s:=fun _ _ _ _ _ _ r=>
 wp_seq (wp_mono (h _ _ _ _ _ _ r) fun e a w ⟨s',h1,h2⟩=>by
  cases e with
  |normal=>exact h1 _ _ _ _ _ _ h2
  |_=>exact⟨s',h1,h2⟩)
theorem eF {id:Nat} {x:Code} (h:eR P k x (pG id Q) s):eR P k (.block id x) Q s:=fun _ _ _ _ _ _ r=>
 wp_block (wp_mono (h _ _ _ _ _ _ r) fun e a w ⟨s',h1,h2⟩=>by
  cases e with
  |exit id'=>
   simp only[pG]at h1;simp only[Exit.inBlock];split at h1
   ·rename_i hid;rw[if_pos hid];exact⟨s',h1,h2⟩
   rename_i hid;rw[if_neg hid];exact⟨s',h1,h2⟩
  |_=>exact⟨s',h1,h2⟩)
theorem Bc {c:Operand} {x y:Code} {b:Bool} (hc:s.ev c=some (.raw (.bool b))) (ht:b=true->eR P k x Q s) (hf:b=false->eR P k y Q s):eR P k (.cond c x y) Q s:=fun _ _ _ _ _ _ r=>by
 obtain⟨h1,hsz,ρ,hinv,htm⟩:=id r.1;have hb:=(bO (cz htm c _ hc)).1;exact wp_cond_split hb (fun h=>ht h _ _ _ _ _ _ r) (fun h=>hf h _ _ _ _ _ _ r)
theorem gE {c:Operand} {x y:Code} (hc:s.ev c=some (.raw (.bool true))) (h:eR P k x Q s):eR P k (.cond c x y) Q s:=Bc hc (fun _=>h) (fun h=>by cases h)
theorem fz {c:Operand} {x y:Code} (hc:s.ev c=some (.raw (.bool false))) (h:eR P k y Q s):eR P k (.cond c x y) Q s:=Bc hc (fun h=>by cases h) (fun _=>h)
theorem uS {c:Operand} {y z:Code} (hc:s.ev c=some (.raw (.bool true))) (h:eR P k z Q s):eR P k (.seq (.cond c .skip y) z) Q s:=bI (gE hc (dM h))
theorem uR {c:Operand} {x z:Code} {id:Nat} (hc:s.ev c=some (.raw (.bool false))) (h:Q (.exit id) s):eR P k (.seq (.cond c x (.exit id)) z) Q s:=bI (fz hc (fK h))
theorem Ky {G:Type} (St:G->AS) (μ:G->Nat) (g0:G) {c:Code} (h0:ci s (St g0))
  (round: ∀g,eR P k c (iF (fun s'=> ∃g',μ g'<μ g/\ci s' (St g')) Q) (St g)):eR P k (.loop c) Q s:=fun v0 w0 O X a w r=>by
 classical
 let p:Act->World->Nat->Prop:=fun a w n=> ∃g,μ g=n/\kC k v0 w0 O X (St g) a w
 let m:Act->World->Nat:=fun a w=>if h: ∃n,p a w n then Classical.choose (bU h)else 0
 refine wp_loop (fun a w=> ∃n,p a w n) m ⟨_,g0,rfl,r.weak h0⟩ ?_;intro a w hI;have hm:m a w=Classical.choose (bU hI):=dif_pos hI;obtain⟨hp,hleast⟩:=Classical.choose_spec (bU hI);rw[<- hm]at hp;obtain⟨g,hg,hr⟩:=hp;refine wp_mono (round g _ _ _ _ _ _ hr) fun e a' w' ⟨s',h1,h2⟩=>?_
 cases e with
 |normal=>
  obtain⟨g',hlt,hw⟩:=h1;have hr':=h2.weak hw;have hI': ∃n,p a' w' n:=⟨_,g',rfl,hr'⟩;refine⟨hI',?_⟩;have hm':m a' w'=Classical.choose (bU hI'):=dif_pos hI';obtain⟨_,hl'⟩:=Classical.choose_spec (bU hI');have:=hl' (μ g') ⟨g',rfl,hr'⟩;rw[hm'];omega
 |_=>exact⟨s',h1,h2⟩
theorem fL {G:Type} (St:G->AS) (μ:G->Nat) (g0:G) {id:Nat} {x:Code} (h0:ci s (St g0))
  (round: ∀g,eR P k x (iF (fun s'=> ∃g',μ g'<μ g/\ci s' (St g')) (pG id Q)) (St g)):eR P k (.block id (.loop x)) Q s:=
 eF (Ky St μ g0 h0 round)
theorem C6 {items:List (dD P)} (hI:gQ P items) {ow:List Nat} {ops:Array Oper} {i:Nat} {v0:Value} {w0 w:World} {O X:Nat->Prop} {a:Act} (hrel:kC k v0 w0 O X s a w) {o:Oper} (hd:o.dst≠some k) (h:bZ P items ow ops i o s=some s') {K:Act->World->Prop} {Q:Exit->Act->World->Prop}
  (hK: ∀v w',kC k v0 w0 O X s' (a.put o.dst v) w'->K (a.put o.dst v) w'):if Region.wanted o (yielded ops a.tmps)then o.wp P a w K Q else K (a.put o.dst undef) w:=
 j7 hI hrel.1 h fun v w' hr=>hK v w' ⟨hr,by rw[pE v hd];exact hrel.2⟩
theorem kj {ops:Array Oper} (h:eP k ops=true) {j:Nat} {o:Oper} (ho:ops[j]?=some o):o.dst≠some k:=by
 unfold eP at h;rw[ai]at h;have:=h o (aw (by simpa using ho));simpa using this
theorem p8 {items:List (dD P)} (hI:gQ P items) {ow:List Nat} {ops:Array Oper} (hk:eP k ops=true) {v0:Value} {w0:World} {O X:Nat->Prop} {Q:Exit->Act->World->Prop}: ∀(l:List Oper) (n:Nat) (s s':AS) (a:Act) (w:World),(∀(j:Nat) o,l[j]?=some o->ops[n+j]?=some o)->
  jq P items ow ops (l.zipIdx n) s=some s'->kC k v0 w0 O X s a w->(∀a' w',kC k v0 w0 O X s' a' w'->Q .normal a' w')->wpOps P ops Q (List.range' n l.length) a w
 |[],n,s,s',a,w,_,h,r,hQ=>by
  simp only[List.zipIdx_nil,jq]at h;injection h with h
  subst h;exact hQ a w r
 |o::l,n,s,s',a,w,hl,h,r,hQ=>by
  simp only[List.zipIdx_cons,jq]at h;split at h
  ·rename_i s1 hs1;simp only[List.length_cons,List.range'_succ,wpOps];have ho:ops[n]?=some o:=by have:=hl 0 o rfl;simpa using this
   rw[ho];simp only;have:=C6 (Q:=Q) hI r (kj hk ho) hs1 (K:=wpOps P ops Q (List.range' (n+1) l.length)) (fun v w' hr=>p8 hI hk l (n+1) s1 s' _ _ (fun j o hj=>by have:=hl (j+1) o (by simpa using hj);rwa[show n+(j+1)=n+1+j by omega]at this) h hr hQ);split at this
   ·rename_i hw;rw[if_pos hw];exact .inl this
   rename_i hw;rw[if_neg hw];exact this
  cases h
theorem FQ (items:List (aM P)) (ow:List Nat) {id:Nat} {ops:Array Oper} (hk:eP k ops=true) (h:bD P (items.map aM.a) ow (aY ops ops.toList 0) (some s) (Q .normal)):eR P k (.region id ops false) Q s:=fun v0 w0 O X a w r=>by
 obtain⟨s',h1,h2⟩:=bK P (items.map aM.a) ow ops ops.toList 0 s (Q .normal) h;refine wp_region ?_;rw[List.range_eq_range'];have:=p8 (aM.ok items) hk (Q:=fun e a' w'=> ∃s',Q e s'/\kC k v0 w0 O X s' a' w') ops.toList 0 s s' a w (fun j o hj=>by simpa using hj) h1 r (fun a' w' hr=>⟨s',h2,hr⟩);simpa using this
theorem Be (hmx:P.follows .mixedOrders=true) (items:List (aM P)) (ow:List Nat) {id:Nat} {ops:Array Oper} (hd:ce [] ops=true) (hk:eP k ops=true) (h:bD P (items.map aM.a) ow (aY ops ops.toList 0) (some s) (Q .normal)):eR P k (.region id ops true) Q s:=fun v0 w0 O X a w r=>by
 obtain⟨sF,h1,h2⟩:=bK P (items.map aM.a) ow ops ops.toList 0 s (Q .normal) h;refine wp_region_any hmx ?_;have hF:ff P (items.map aM.a) ow ops (List.range ops.size) s=some sF:=by
  rw[List.range_eq_range'];have:=jV (P:=P) (items:=items.map aM.a) (ow:=ow) ops.toList 0 s (fun j o hj=>by simpa using hj);rw[h1]at this;simpa using this.symm
 have hr':kC k v0 w0 O X s a {w with drawn:=w.drawn+1}:=by
  obtain⟨⟨q1,q2,ρ,hinv,htm⟩,hs⟩:=r;have e:Ext w {w with drawn:=w.drawn+1}:=⟨rfl,rfl,rfl,ac _,fun _ _=>rfl⟩;have htm:bY X ρ s a w:=htm;exact⟨⟨q1,q2,ρ,hinv.grow e,htm.grow e⟩,hs⟩
 refine mc (sep:=[]) (qG hd (by simp)) hd (Q:=fun e a' w'=> ∃s',Q e s'/\kC k v0 w0 O X s' a' w') (fun _ s a w=>kC k v0 w0 O X s a w) ⟨kS r.1,fun x hx=>by simp at hx⟩ hF (fun p a w hall hr=>⟨sF,h2,hr⟩) (fun p i o s s1 a w K ho hpi _ hs hr hK=>?_) ops.size (Array.replicate ops.size false) s a _ (by simp) ?_ ?_ ?_ hr'
 ·exact C6 (aM.ok items) hr (kj hk ho) hs fun v w' hr'=>hK v w' hr'
 ·intro j o ho hp;have hj:j<ops.size:=(Array.getElem?_eq_some_iff.1 ho).1;simp[hj]at hp
 ·exact aA (List.length_filter_le _ _) (by simp)
 have:rr ops.size (fun j=>(Array.replicate ops.size false).getD j true)=[]:=by
  unfold rr;rw[List.filter_eq_nil_iff];intro j hj;have:=List.mem_range.1 hj;simp[this]
 rw[this];rfl
theorem Bf (items:List (aM P)) (ow:List Nat) {id:Nat} {ops:Array Oper} {y:Code} (hk:eP k ops=true) (h: ∀K:AS->Prop,(∀s',eR P k y Q s'->K s')->bD P (items.map aM.a) ow (aY ops ops.toList 0) (some s) K):eR P k (.seq (.region id ops false) y) Q s:=
 bI (FQ items ow hk (h _ fun _ h=>h))
theorem Kz (items:List (aM P)) (ow:List Nat) {id:Nat} {ops:Array Oper} (hk:eP k ops=true) (h: ∀K:AS->Prop,(∀s',Q .normal s'->K s')->bD P (items.map aM.a) ow (aY ops ops.toList 0) (some s) K):eR P k (.region id ops false) Q s:=
 FQ items ow hk (h _ fun _ h=>h)
theorem xE (hmx:P.follows .mixedOrders=true) (items:List (aM P)) (ow:List Nat) {id:Nat} {ops:Array Oper} {y:Code} (hd:ce [] ops=true) (hk:eP k ops=true) (h: ∀K:AS->Prop,(∀s',eR P k y Q s'->K s')->bD P (items.map aM.a) ow (aY ops ops.toList 0) (some s) K):eR P k (.seq (.region id ops true) y) Q s:=
 bI (Be hmx items ow hd hk (h _ fun _ h=>h))
theorem Ih (hmx:P.follows .mixedOrders=true) (items:List (aM P)) (ow:List Nat) {id:Nat} {ops:Array Oper} (hd:ce [] ops=true) (hk:eP k ops=true) (h: ∀K:AS->Prop,(∀s',Q .normal s'->K s')->bD P (items.map aM.a) ow (aY ops ops.toList 0) (some s) K):eR P k (.region id ops true) Q s:=
 Be hmx items ow hd hk (h _ fun _ h=>h)
theorem rR {y:Code} {id:Nat} {ops:Array Oper} (hk:eP k ops=true) (h: ∀K:AS->Prop,(∀s',eR P k y Q s'->K s')->bD P [] [] (aY ops ops.toList 0) (some s) K):eR P k (.seq (.region id ops false) y) Q s:=Bf [] [] hk h
theorem xD {id:Nat} {ops:Array Oper} (hk:eP k ops=true) (h: ∀K:AS->Prop,(∀s',Q .normal s'->K s')->bD P [] [] (aY ops ops.toList 0) (some s) K):eR P k (.region id ops false) Q s:=Kz [] [] hk h
theorem uT (hm:P.follows .mixedOrders=true) {y:Code} {id:Nat} {ops:Array Oper} (hd:ce [] ops=true) (hk:eP k ops=true) (h: ∀K:AS->Prop,(∀s',eR P k y Q s'->K s')->bD P [] [] (aY ops ops.toList 0) (some s) K):eR P k (.seq (.region id ops true) y) Q s:=xE hm [] [] hd hk h
theorem DM (hm:P.follows .mixedOrders=true) {id:Nat} {ops:Array Oper} (hd:ce [] ops=true) (hk:eP k ops=true) (h: ∀K:AS->Prop,(∀s',Q .normal s'->K s')->bD P [] [] (aY ops ops.toList 0) (some s) K):eR P k (.region id ops true) Q s:=Ih hm [] [] hd hk h
end
/-! The contract of a function that writes a row. -/
def rho1 (b c:Nat):Rho:=fun a r=>if a=0/\r=0 then some (b,c)else none
structure tf (P:Program) (f:FuncId) (args:List TV) (k off len:Nat) (o o':OObj) (r:TV):Prop where
 able:callable P f=true
 es:o'.es=o.es
 size:o'.elems.length=o.elems.length
 pure: ∀e∈o'.elems,∀x∈e,isPure x=true
 noref:noRefTV r=true
 calls: ∀(X:Nat->Prop) (w:World) (vs:Array Value) (b c:Nat),(∀j,X j->j<w.heap.size)-> ¬X b->objRel (rho1 b c) (famH 0 [o]) (fun j=>X j\/j=b) w 0 0 o->vs.size=args.length->
  vs[k]?=some (.slice (some ⟨b,off*o.es,none⟩) len (c-off))->(∀(j:Nat) t,j≠k->args[j]?=some t-> ∃v:Value,vs[j]?=some v/\t.rel (fun _ _=>none) (fun _=>[]) (fun j=>X j\/j=b) w v)->
  Calls P f vs w fun e w'=> ∃v,e= .returned v/\But b w w'/\objRel (rho1 b c) (famH 0 [o']) (fun j=>X j\/j=b) w' 0 0 o'/\r.rel (rho1 b c) (famH 0 [o']) (fun j=>X j\/j=b) w' v
theorem WI {X:Nat->Prop} {b c:Nat} {o:OObj}:Xo X (rho1 b c) (famH 0 [o])=fun j=>X j\/j=b:=by
 funext j;apply propext;constructor
 ·rintro(h|⟨a,r,o',c',h1,h2⟩)
  ·exact .inl h
  unfold rho1 at h2;split at h2
  ·injection h2 with h2;injection h2 with h2 h3;exact .inr h2.symm
  cases h2
 rintro(h|rfl)
 ·exact .inl h
 exact .inr ⟨0,0,o,c,rfl,by simp[rho1]⟩
theorem qI {a r:Nat} {o o':OObj} (h:(famH 0 [o] a)[r]?=some o'):a=0/\r=0/\o'=o:=by
 unfold famH at h;split at h
 ·rename_i ha;cases r with
  |zero=>simp at h;exact⟨ha,rfl,h.symm⟩
  |succ r=>simp at h
 simp at h
theorem nQ {ρ ρ':Rho} {H H':OH} {Y:Nat->Prop} {w:World} {a r a' r':Nat} {o:OObj} (hp: ∀e∈o.elems,∀x∈e,isPure x=true) (h:objRel ρ H Y w a r o) (hρ:ρ' a' r'=ρ a r):objRel ρ' H' Y w a' r' o:=by
 obtain⟨h1,h2,h3⟩:=h;refine⟨h1,h2,?_⟩;rw[hρ];cases hr:ρ a r with
 |none=>rw[hr]at h3;exact h3
 |some bc=>
  obtain⟨b,c⟩:=bc;rw[hr]at h3;obtain⟨cells,g1,g2,g3,g4,g5⟩:=h3;refine⟨cells,g1,g2,g3,g4,fun i e j x he hx=>?_⟩;obtain⟨v,v1,v2,v3⟩:=g5 i e j x he hx;refine⟨v,v1,v2,?_⟩;have:=hp e (aw he) x (aw hx);cases x with
  |p x=>exact v3
  |_=>cases this
theorem sG {ρ ρ':Rho} {H H':OH} {Y:Nat->Prop} {w:World} {r:TV} {v:Value} (hn:noRefTV r=true) (h:r.rel ρ H Y w v):r.rel ρ' H' Y w v:=by
 have av: ∀x u,f7 x=true->AV.rel ρ H Y w x u->AV.rel ρ' H' Y w x u:=fun x u hx hu=>by
  cases x with
  |p x=>exact hu
  |junk=>trivial
  |_=>cases hx
 have agg: ∀cs v,cs.all f7=true->bX ρ H Y w cs v->bX ρ' H' Y w cs v:=fun cs v hc ⟨vs,g1,g2,g3⟩=>by
  simp only[ai]at hc;exact⟨vs,g1,g2,fun j x hx=>by obtain⟨u,u1,u2,u3⟩:=g3 j x hx;exact⟨u,u1,u2,av x u (hc x (aw hx)) u3⟩⟩
 cases r with
 |one x=>exact av x v hn h
 |agg cs=>exact agg cs v hn h
 |fn f cs=>obtain⟨u,h1,h2⟩:=h;exact⟨u,agg cs u hn h1,h2⟩
 |tup ts=>
  simp only[noRefTV,ai]at hn;obtain⟨vs,g1,g2,g3⟩:=h;refine⟨vs,g1,g2,fun j c cs hj=>?_⟩;obtain⟨u,u1,u2⟩:=g3 j c cs hj;have hall:=hn (c,cs) (aw hj);refine⟨u,u1,?_⟩;rcases u2 with⟨u2,u3⟩|⟨u2,x,rfl,u4⟩
  ·exact .inl ⟨u2,agg _ _ (List.all_eq_true.2 hall) u3⟩
  exact .inr ⟨u2,x,rfl,av x u (hall x (by simp)) u4⟩
def VC (P:Program) (fn:Func) (k off len:Nat) (o':OObj) (r:TV) (s:AS):Prop:=
 s.tmps[k]?=some (.one (.sl 0 0 off len))/\s.H=famH 0 [o']/\rl P s fn.results.toList=some r
theorem u9 {P:Program} {f:FuncId} {fn:Func} {c:Code} {args:List TV} {k off len:Nat} {o o':OObj} {r:TV} (hf:P.funcs[f]?=some fn) (hb:fn.body=some c) (hn:callable P f=true) (hk:k<args.length) (hlen:0<len) (hol:off+len<=o.elems.length) (hop: ∀e∈o.elems,∀x∈e,isPure x=true)
  (he:o'.es=o.es) (hs:o'.elems.length=o.elems.length) (hp: ∀e∈o'.elems,∀x∈e,isPure x=true) (hr:noRefTV r=true)
  (h:eR P k c (fun e s=>(e= .normal\/e= .ret)/\ ∃s',ci s s'/\VC P fn k off len o' r s') ⟨args.set k (.one (.sl 0 0 off len))++ae (fn.ntmps-args.length) .undef,famH 0 [o]⟩):tf P f args k off len o o' r:=by
 refine⟨hn,he,hs,hp,hr,fun X w vs b cc hX hXb hobj hvs hvk hargs=>?_⟩;refine calls_of_wp hf hb ?_;have hXo:=WI (X:=X) (b:=b) (c:=cc) (o:=o);have hblt:b<w.heap.size:=by
  obtain⟨_,_,q⟩:=hobj;simp only[rho1,and_self,if_true]at q;obtain⟨cells,q1,_⟩:=q;exact(Array.getElem?_eq_some_iff.1 q1).1
 have hlc:len<=cc-off:=by
  obtain⟨_,_,q⟩:=hobj;simp only[rho1,and_self,if_true]at q;obtain⟨cells,_,_,q3,_⟩:=q;omega
 have hrel:kC k (.slice (some ⟨b,off*o.es,none⟩) len (cc-off)) w (fun j=>j=b) X ⟨args.set k (.one (.sl 0 0 off len))++ae (fn.ntmps-args.length) .undef,famH 0 [o]⟩ {tmps:=vs++Array.replicate (fn.ntmps-vs.size) undef,defers:=[]} w:=by
  refine⟨⟨rfl,by simp[hvs],rho1 b cc,⟨Keep.refl w,fun a r o1 ho=>?_,fun a r a' r' o1 o2 b1 c1 c2 ho ho' _ _=>?_,fun a r o1 b1 c1 ho h1=>?_,hX,fun a r o1 ho=>?_⟩,fun t x hx=>?_⟩,?_⟩
  ·obtain⟨rfl,rfl,rfl⟩:=qI ho;show objRel _ _ (Xo X (rho1 b cc) (famH 0 [o1])) w 0 0 o1;rw[hXo];exact hobj
  ·obtain⟨rfl,rfl,_⟩:=qI ho;obtain⟨rfl,rfl,_⟩:=qI ho';exact⟨rfl,rfl⟩
  ·obtain⟨rfl,rfl,_⟩:=qI ho;simp only[rho1,and_self,if_true]at h1;injection h1 with h1
   injection h1 with h1 h2
   subst h1;exact⟨.inr rfl,hXb⟩
  ·obtain⟨rfl,rfl,rfl⟩:=qI ho;exact dK hop
  ·show ∃v:Value,_/\x.rel (rho1 b cc) (famH 0 [o]) (Xo X (rho1 b cc) (famH 0 [o])) w v;rw[hXo];by_cases ht:t<args.length
   ·rw[List.getElem?_append_left (by simpa using ht)]at hx;by_cases htk:t=k
    ·subst htk;rw[List.getElem?_set_self ht]at hx;injection hx with hx
     subst hx;exact⟨_,by rw[Array.getElem?_append_left (by omega)];exact hvk,o,rfl,hol,.inr ⟨b,cc,cc-off,by simp[rho1],rfl,hlc,fun _=>rfl⟩⟩
    rw[List.getElem?_set_ne (Ne.symm htk)]at hx;obtain⟨v,v1,v2⟩:=hargs t x htk hx;refine⟨v,by rw[Array.getElem?_append_left (by omega)];exact v1,TV.rel_map v2 (fun y u hy=>?_)⟩;cases y with
    |p y=>exact hy
    |sl a r off len=>obtain⟨o,h1,_⟩:=hy;simp at h1
    |ptr a r i j=>obtain⟨o,_,_,h1,_⟩:=hy;simp at h1
    |junk=>trivial
   rw[List.getElem?_append_right (by simp;omega),List.getElem?_replicate]at hx;split at hx
   ·rename_i hlt;injection hx with hx
    subst hx;refine⟨undef,?_,ij⟩;simp at hlt;rw[Array.getElem?_append_right (by omega),Array.getElem?_replicate,if_pos (by omega)]
   cases hx
  show(vs++_)[k]?=_;rw[Array.getElem?_append_left (by omega)];exact hvk
 refine wp_mono (h _ _ _ _ _ _ hrel) fun e a' w' ⟨s1,⟨hee,s2,hw,hW1,hW2,hW3⟩,hrel1⟩=>?_
 obtain⟨⟨h1,hsz,ρ,hinv,htm⟩,hslot⟩:=hrel1.weak hw;have htm:bY X ρ s2 a' w':=htm;rw[hW2]at hinv;obtain⟨v,v1,v2⟩:=kq (by rw[hW2];exact hinv) htm hW3;rw[hW2]at v2
 -- the row has not moved
 obtain⟨u,u1,u2⟩:=htm k _ hW1;rw[hslot]at u1;injection u1 with u1
 subst u1;obtain⟨o2,g1,g2,g3⟩:=u2;rw[hW2]at g1;obtain⟨_,_,rfl⟩:=qI g1;have hρ:ρ 0 0=some (b,cc):=by
  rcases g3 with⟨_,g4,_,_⟩|⟨b',c',cap,g4,g5,_,g9⟩
  ·cases g4
  have g9:=g9 (by decide);injection g5 with g5 g6 g7
  injection g5 with g5
  injection g5 with g5 g8
  subst g5;have hobj2:=hinv.objs 0 0 o2 rfl;obtain⟨q1,q2,q3⟩:=hobj2;rw[g4]at q3;obtain⟨cells,q4,q5,q6,_⟩:=q3;obtain⟨p1,p2,p3⟩:=hobj;simp only[rho1,and_self,if_true]at p3;obtain⟨cells',p4,p5,p6,_⟩:=p3;rw[g4,show c'=cc by omega]
 have hXo2:Xo X ρ (famH 0 [o2])=fun j=>X j\/j=b:=by
  funext j;apply propext;constructor
  ·rintro(h|⟨a,r,o3,c',h1,h2⟩)
   ·exact .inl h
   obtain⟨rfl,rfl,_⟩:=qI h1;rw[hρ]at h2;injection h2 with h2;injection h2 with h2 h3;exact .inr h2.symm
  rintro(h|rfl)
  ·exact .inl h
  exact .inr ⟨0,0,o2,cc,rfl,hρ⟩
 have hob:=hinv.objs 0 0 o2 rfl;rw[hXo2]at hob;rw[hXo2]at v2;have hbut:But b w w':=⟨hinv.keep.os,hinv.keep.tape,hinv.keep.output,hinv.keep.size,fun j hj hne=>hinv.keep.block j hj hne⟩;have hob1:objRel (rho1 b cc) (famH 0 [o2]) (fun j=>X j\/j=b) w' 0 0 o2:=by
  refine nQ hp hob (by rw[hρ];simp[rho1])
 have hv1:r.rel (rho1 b cc) (famH 0 [o2]) (fun j=>X j\/j=b) w' v:=sG hr v2;rcases hee with rfl|rfl
 ·exact⟨h1,v,v1,v,rfl,hbut,hob1,hv1⟩
 exact⟨h1,v,v1,v,rfl,hbut,hob1,hv1⟩
end
end Go.Proofs.YtiollbhgpiiodaaGreatDoor
