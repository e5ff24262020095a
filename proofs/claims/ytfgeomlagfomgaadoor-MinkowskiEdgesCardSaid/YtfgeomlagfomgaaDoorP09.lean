/-
  Part 10 of a proof (walks and plain facts).
-/
import Derived.Test.YtfgeomlagfomgaaDoorP08
import Derived.Lib.SliceRun
import Derived.Lib.SmallJoins
set_option linter.all false
set_option maxRecDepth 100000
set_option maxHeartbeats 64000000
open Nat renaming le_refl → ac
open List renaming replicate → ae
open List renaming all_eq_true → ai
open List renaming mem_map → ak
open List renaming getElem?_append_left → ao
open List renaming getElem?_append_right → ap
open List renaming mem_of_getElem? → au
open List renaming length_replicate → aw
open List renaming getElem?_map → ax
open Nat renaming le_trans → ay
namespace Go.Proofs.YtfgeomlagfomgaaDoor
open Go.RowKit
section
theorem bS.later {Y Y':Nat->Prop} {w w':World} (hY: ∀b,b<w.heap.size->Y' b->Y b) (hs:w.heap.size<=w'.heap.size) (hc: ∀p v,p.block<w.heap.size-> ¬Y p.block->w.cell? p=some v->w'.cell? p=some v) {x:PV} {v:Value} (h:bS Y w x v):bS Y' w' x v:=by
 induction h with
 |raw v h=>exact .raw v h
 |nil a c=>exact .nil a c
 |sl b off es cap xs f hX hb hes hcap hm hcc hr ih=>exact .sl b off es cap xs f (fun h=>hX (hY _ hb h)) (Nat.lt_of_lt_of_le hb hs) hes hcap hm (fun i e j x h1 h2=>hc ⟨b,_,none⟩ _ hb hX (hcc i e j x h1 h2)) ih
 |ptr b off cs f hX hb hcc hr ih=>exact .ptr b off cs f (fun h=>hX (hY _ hb h)) (Nat.lt_of_lt_of_le hb hs) (fun j x h1=>hc ⟨b,_,none⟩ _ hb hX (hcc j x h1)) ih
theorem mz {w w':World} {p:Addr} (h:w'.heap[p.block]?=w.heap[p.block]?):w'.cell? p=w.cell? p:=by unfold World.cell?;rw[h]
def gM (b:Nat) (ty:TypeId) (cs:List PV) (Y:Nat->Prop) (w:World):Prop:=
 ∃(cells:Array Value) (c:Nat),w.heap[b]?=some (.cells cells ty (0,0))/\cells.size=c*cs.length/\1<=c/\c<=9223372036854775807/\0<cs.length/\
  ∀(j:Nat) x,cs[j]?=some x-> ∃v:Value,cells[j]?=some v/\v.oneCell'=true/\bS Y w x v
theorem gM.later {b:Nat} {ty:TypeId} {cs:List PV} {Y Y':Nat->Prop} {w w':World} (hY: ∀j,j<w.heap.size->Y' j->Y j) (hs:w.heap.size<=w'.heap.size) (hb:w'.heap[b]?=w.heap[b]?) (hc: ∀j,j<w.heap.size-> ¬Y j->w'.heap[j]?=w.heap[j]?)
  (h:gM b ty cs Y w):gM b ty cs Y' w':=by
 obtain⟨cells,c,h1,h2,h3,h4,h5,h6⟩:=h;refine⟨cells,c,by rw[hb];exact h1,h2,h3,h4,h5,fun j x hx=>?_⟩;obtain⟨v,v1,v2,v3⟩:=h6 j x hx;exact⟨v,v1,v2,v3.later hY hs fun p u hp hn hu=>by rw[mz (hc p.block hp hn)];exact hu⟩
theorem gM.weaken {b:Nat} {ty:TypeId} {cs:List PV} {Y Y':Nat->Prop} {w:World} (hY: ∀j,j<w.heap.size->Y' j->Y j) (h:gM b ty cs Y w):gM b ty cs Y' w:=
 h.later hY (ac _) rfl fun _ _ _=>rfl
section
variable {P:Program} {b:Nat} {ty:TypeId} {cs cs':List PV} {w0 w:World} {O X:Nat->Prop} {s s':AS} {a:Act}
def eG (b:Nat) (ty:TypeId) (w0:World) (O X:Nat->Prop) (s:AS) (cs:List PV) (a:Act) (w:World):Prop:=
 a.defers=[]/\a.tmps.size=s.tmps.length/\ ∃ρ,Inv w0 O X s.H ρ w/\bC X ρ s a w/\O b/\X b/\gM b ty cs (Xo X ρ s.H) w
theorem eG.rel (h:eG b ty w0 O X s cs a w):eW w0 O X s a w:=by
 obtain⟨h1,h2,ρ,h3,h4,_⟩:=h;exact⟨h1,h2,ρ,h3,h4⟩
theorem eG.rebase (h:eG b ty w0 O X s cs a w): ∃Own:Nat->Prop,eW w Own X s a w/\ ∀s1 a1 w1,eW w Own X s1 a1 w1->eG b ty w0 O X s1 cs a1 w1:=by
 obtain⟨h1,hsz,ρ,hinv,htm,hO,hX,hbox⟩:=h;refine⟨fun j=> ∃(x r:Nat) (o:OObj) (c:Nat),(s.H x)[r]?=some o/\ρ x r=some (j,c),⟨h1,hsz,ρ,⟨Keep.refl w,hinv.objs,hinv.inj,fun x r o j c ho hj=>⟨.inr ⟨x,r,o,c,ho,hj⟩,(hinv.old x r o j c ho hj).2⟩,hinv.bar,hinv.self⟩,htm⟩,?_⟩;rintro s1 a1 w1 ⟨k1,ksz,ρ1,kinv,ktm⟩;have hown: ∀j,(∃(x r:Nat) (o:OObj) (c:Nat),(s.H x)[r]?=some o/\ρ x r=some (j,c))->(w0.heap.size<=j\/O j)/\ ¬X j:=fun j ⟨x,r,o,c,g1,g2⟩=>hinv.old x r o j c g1 g2
 refine⟨k1,ksz,ρ1,⟨⟨kinv.keep.os.trans hinv.keep.os,kinv.keep.tape.trans hinv.keep.tape,kinv.keep.output.trans hinv.keep.output,ay hinv.keep.size kinv.keep.size,fun j hj hn=>?_⟩,kinv.objs,kinv.inj,fun x r o j c ho hj=>?_,kinv.bar,kinv.self⟩,ktm,hO,hX,?_⟩
 ·rw[kinv.keep.block j (Nat.lt_of_lt_of_le hj hinv.keep.size) (fun hh=>by
   rcases(hown j hh).1 with h|h
   ·omega
   exact hn h)]
  exact hinv.keep.block j hj hn
 ·obtain⟨g1,g2⟩:=kinv.old x r o j c ho hj;refine⟨?_,g2⟩;rcases g1 with g|g
  ·exact .inl (ay hinv.keep.size g)
  exact(hown j g).1
 refine hbox.later (fun j hj hh=>?_) kinv.keep.size (kinv.keep.block b (hinv.bar b hX) (fun hh=>(hown b hh).2 hX)) (fun j hj hn=>kinv.keep.block j hj (fun hh=>hn (.inr hh)));rcases hh with hh|⟨x,r,o,c,g1,g2⟩
 ·exact .inl hh
 rcases(kinv.old x r o j c g1 g2).1 with g|g
 ·omega
 exact .inr g
def f4 (P:Program) (b:Nat) (ty:TypeId) (c:Code) (Q:Exit->AS->List PV->Prop) (s:AS) (cs:List PV):Prop:=
 ∀(w0:World) (O X:Nat->Prop) (a:Act) (w:World),eG b ty w0 O X s cs a w->c.wp P (fun e a' w'=> ∃s' cs',Q e s' cs'/\eG b ty w0 O X s' cs' a' w') a w
def rA (next:AS->List PV->Prop) (Q:Exit->AS->List PV->Prop):Exit->AS->List PV->Prop
 | .normal,s,k=>next s k
 |e,s,k=>Q e s k
def my (id:Nat) (Q:Exit->AS->List PV->Prop):Exit->AS->List PV->Prop
 | .exit id',s,k=>if id'=id then Q .normal s k else Q (.exit id') s k
 |e,s,k=>Q e s k
variable {Q:Exit->AS->List PV->Prop}
theorem A6 {c:Code} (h:bH P c (fun e s'=>Q e s' cs) s):f4 P b ty c Q s cs:=fun w0 O X a w r=>by
 obtain⟨Own,h1,h2⟩:=r.rebase;exact wp_mono (h _ _ _ _ _ h1) fun e a' w' ⟨s',g1,g2⟩=>⟨s',cs,g1,h2 _ _ _ g2⟩
theorem f4.weak {c:Code} (h:bX s s') (k:f4 P b ty c Q s' cs):f4 P b ty c Q s cs:=fun _ _ _ _ _ r=>by
 obtain⟨Own,h1,h2⟩:=r.rebase;exact k _ _ _ _ _ (h2 _ _ _ (h _ _ _ _ _ h1))
theorem eG.weak (h:bX s s') (r:eG b ty w0 O X s cs a w):eG b ty w0 O X s' cs a w:=by
 obtain⟨Own,h1,h2⟩:=r.rebase;exact h2 _ _ _ (h _ _ _ _ _ h1)
theorem f4.mono {c:Code} {Q':Exit->AS->List PV->Prop} (h:f4 P b ty c Q s cs) (k: ∀e s' cs',Q e s' cs'->Q' e s' cs'):f4 P b ty c Q' s cs:=fun _ _ _ _ _ r=>
 wp_mono (h _ _ _ _ _ r) fun _ _ _ ⟨s',cs',h1,h2⟩=>⟨s',cs',k _ _ _ h1,h2⟩
theorem A8 (h:Q .normal s cs):f4 P b ty .skip Q s cs:=fun _ _ _ _ _ r=>wp_skip ⟨s,cs,h,r⟩
theorem A3 {id:Nat} (h:Q (.exit id) s cs):f4 P b ty (.exit id) Q s cs:=fun _ _ _ _ _ r=>wp_exit ⟨s,cs,h,r⟩
theorem D5 (h:Q .ret s cs):f4 P b ty .ret Q s cs:=fun _ _ _ _ _ r=>wp_ret ⟨s,cs,h,r⟩
theorem j1 {x y:Code} (h:f4 P b ty x (rA (f4 P b ty y Q) Q) s cs):f4 P b ty (.seq x y) Q s cs:=fun _ _ _ _ _ r=>
 wp_seq (wp_mono (h _ _ _ _ _ r) fun e a w ⟨s',cs',h1,h2⟩=>by
  cases e with
  |normal=>exact h1 _ _ _ _ _ h2
  |_=>exact⟨s',cs',h1,h2⟩)
theorem mt {id:Nat} {x:Code} (h:f4 P b ty x (my id Q) s cs):f4 P b ty (.block id x) Q s cs:=fun _ _ _ _ _ r=>
 wp_block (wp_mono (h _ _ _ _ _ r) fun e a w ⟨s',cs',h1,h2⟩=>by
  cases e with
  |exit id'=>
   simp only[my]at h1;simp only[Exit.inBlock];split at h1
   ·rename_i hid;rw[if_pos hid];exact⟨s',cs',h1,h2⟩
   rename_i hid;rw[if_neg hid];exact⟨s',cs',h1,h2⟩
  |_=>exact⟨s',cs',h1,h2⟩)
theorem tB {c:Operand} {x y:Code} {v:Bool} (hc:s.ev c=some (.raw (.bool v))) (ht:v=true->f4 P b ty x Q s cs) (hf:v=false->f4 P b ty y Q s cs):f4 P b ty (.cond c x y) Q s cs:=fun _ _ _ _ _ r=>by
 obtain⟨h1,hsz,ρ,hinv,htm,_⟩:=id r;have hb:=(bF (b7 htm c _ hc)).1;exact wp_cond_split hb (fun h=>ht h _ _ _ _ _ r) (fun h=>hf h _ _ _ _ _ r)
theorem GH {c:Operand} {x y:Code} (hc:s.ev c=some (.raw (.bool true))) (h:f4 P b ty x Q s cs):f4 P b ty (.cond c x y) Q s cs:=tB hc (fun _=>h) (fun h=>by cases h)
theorem GG {c:Operand} {x y:Code} (hc:s.ev c=some (.raw (.bool false))) (h:f4 P b ty y Q s cs):f4 P b ty (.cond c x y) Q s cs:=tB hc (fun h=>by cases h) (fun _=>h)
theorem A7 {c:Operand} {y z:Code} (hc:s.ev c=some (.raw (.bool true))) (h:f4 P b ty z Q s cs):f4 P b ty (.seq (.cond c .skip y) z) Q s cs:=j1 (GH hc (A8 h))
theorem A2 {c:Operand} {x z:Code} {id:Nat} (hc:s.ev c=some (.raw (.bool false))) (h:Q (.exit id) s cs):f4 P b ty (.seq (.cond c x (.exit id)) z) Q s cs:=j1 (GG hc (A3 h))
theorem A4 {G:Type} (St:G->AS) (Sc:G->List PV) (μ:G->Nat) (g0:G) {c:Code} (h0:bX s (St g0)) (h0':Sc g0=cs)
  (round: ∀g,f4 P b ty c (rA (fun s' cs'=> ∃g',μ g'<μ g/\bX s' (St g')/\Sc g'=cs') Q) (St g) (Sc g)):f4 P b ty (.loop c) Q s cs:=fun w0 O X a w r=>by
 classical
 subst h0'
 let p:Act->World->Nat->Prop:=fun a w n=> ∃g,μ g=n/\eG b ty w0 O X (St g) (Sc g) a w
 let m:Act->World->Nat:=fun a w=>if h: ∃n,p a w n then Classical.choose (a8 h)else 0
 refine wp_loop (fun a w=> ∃n,p a w n) m ⟨_,g0,rfl,r.weak h0⟩ ?_;intro a w hI;have hm:m a w=Classical.choose (a8 hI):=dif_pos hI;obtain⟨hp,hleast⟩:=Classical.choose_spec (a8 hI);rw[<- hm]at hp;obtain⟨g,hg,hr⟩:=hp;refine wp_mono (round g _ _ _ _ _ hr) fun e a' w' ⟨s',cs',h1,h2⟩=>?_
 cases e with
 |normal=>
  obtain⟨g',hlt,hw,hcs⟩:=h1;subst hcs;have hr':=h2.weak hw;have hI': ∃n,p a' w' n:=⟨_,g',rfl,hr'⟩;refine⟨hI',?_⟩;have hm':m a' w'=Classical.choose (a8 hI'):=dif_pos hI';obtain⟨_,hl'⟩:=Classical.choose_spec (a8 hI');have:=hl' (μ g') ⟨g',rfl,hr'⟩;rw[hm'];omega
 |_=>exact⟨s',cs',h1,h2⟩
theorem tD {G:Type} (St:G->AS) (Sc:G->List PV) (μ:G->Nat) (g0:G) {id:Nat} {x:Code} (h0:bX s (St g0)) (h0':Sc g0=cs)
  (round: ∀g,f4 P b ty x (rA (fun s' cs'=> ∃g',μ g'<μ g/\bX s' (St g')/\Sc g'=cs') (my id Q)) (St g) (Sc g)):f4 P b ty (.block id (.loop x)) Q s cs:=
 mt (A4 St Sc μ g0 h0 h0' round)
/-! Regions without lent calls. -/
theorem A9 {y:Code} (items:List (aJ P)) (ow:List Nat) {id:Nat} {ops:Array Oper} (h: ∀K:AS->Prop,(∀s',f4 P b ty y Q s' cs->K s')->bW P (items.map aJ.a) ow (bo ops ops.toList 0) (some s) K):f4 P b ty (.seq (.region id ops false) y) Q s cs:=
 j1 (A6 (jX items ow (h _ fun _ h=>h)))
theorem A5 (items:List (aJ P)) (ow:List Nat) {id:Nat} {ops:Array Oper} (h: ∀K:AS->Prop,(∀s',Q .normal s' cs->K s')->bW P (items.map aJ.a) ow (bo ops ops.toList 0) (some s) K):f4 P b ty (.region id ops false) Q s cs:=
 A6 (jX items ow (h _ fun _ h=>h))
theorem cC {y:Code} {id:Nat} {ops:Array Oper} (h: ∀K:AS->Prop,(∀s',f4 P b ty y Q s' cs->K s')->bW P [] [] (bo ops ops.toList 0) (some s) K):f4 P b ty (.seq (.region id ops false) y) Q s cs:=A9 [] [] h
theorem qA {id:Nat} {ops:Array Oper} (h: ∀K:AS->Prop,(∀s',Q .normal s' cs->K s')->bW P [] [] (bo ops ops.toList 0) (some s) K):f4 P b ty (.region id ops false) Q s cs:=A5 [] [] h
end
def CallT (P:Program) (b:Nat) (ty:TypeId) (f:FuncId) (args:List TV) (cs:List PV) (res:CallRes) (cs':List PV):Prop:=
 callable P f=true/\ ∀(X:Nat->Prop) (w:World) (vs:Array Value),(∀j,X j->j<w.heap.size)->X b->gM b ty cs X w->vs.size=args.length->
  (∀(j:Nat) t,args[j]?=some t-> ∃v:Value,vs[j]?=some v/\t.rel (fun _ _=>none) (fun _=>[]) X w v)->
  Calls P f vs w fun e w'=> ∃v,e= .returned v/\ ∃ρ:Rho,Inv w (fun j=>j=b) X (famH 0 res.fam) ρ w'/\res.r.rel ρ (famH 0 res.fam) (Xo X ρ (famH 0 res.fam)) w' v/\gM b ty cs' (Xo X ρ (famH 0 res.fam)) w'
section
variable {P:Program} {b:Nat} {ty:TypeId} {cs cs':List PV} {w0 w:World} {O X:Nat->Prop} {ρ:Rho} {s:AS} {a:Act}
theorem ur {it:cH P} {d:Nat} (h1:a.defers=[]) (hsz:a.tmps.size=s.tmps.length) (hinv:Inv w0 O X s.H ρ w) (htm:bC X ρ s a w) (hO:O b) (hX:X b) {t:TV} {F:List OObj} (ht:dX d it.res.r=t) (hF:it.res.fam.map (renO d)=F) (hd:F≠[]->s.H d=[])
  {v:Value} {w1:World} {ρc:Rho} (hi:Inv w (fun j=>j=b) (Xo X ρ s.H) (famH 0 it.res.fam) ρc w1) (hr:it.res.r.rel ρc (famH 0 it.res.fam) (Xo (Xo X ρ s.H) ρc (famH 0 it.res.fam)) w1 v)
  (hbox:gM b ty cs' (Xo (Xo X ρ s.H) ρc (famH 0 it.res.fam)) w1):eG b ty w0 O X (gJ s d t F) cs' (a.put (some d) v) w1:=by
 have hbut:But b w w1:=⟨hi.keep.os,hi.keep.tape,hi.keep.output,hi.keep.size,fun k hk hne=>hi.keep.block k hk hne⟩;have hnb: ∀(x r:Nat) o b' c,(s.H x)[r]?=some o->ρ x r=some (b',c)->w1.heap[b']?=w.heap[b']?:=fun x r o b' c ho hb'=>hbut.block b' (bM (hinv.objs x r o ho) hb') (by rintro rfl;exact(hinv.old x r o b' c ho hb').2 hX)
 by_cases hfam:it.res.fam=[]
 ·rw[hfam]at hi hr hbox;have hF0:F=[]:=by rw[<- hF,hfam];rfl
  subst hF0;have mono: ∀x u,AV.rel ρ s.H (Xo X ρ s.H) w x u->AV.rel ρ s.H (Xo X ρ s.H) w1 x u:=fun x u hx=>lA (.inl hX) hbut (fun a r o ho=>⟨o,ho,rfl,ac _,rfl⟩) (fun a r o b' c ho hb _=> .inr ⟨a,r,o,c,ho,hb⟩) hx
  have hinv':Inv w0 O X s.H ρ w1:=⟨hinv.keep.but hbut (.inr hO),fun x r o ho=>dN (hinv.objs x r o ho) rfl (fun b' c hb'=>hnb x r o b' c ho hb') mono,hinv.inj,hinv.old,fun j hj=>Nat.lt_of_lt_of_le (hinv.bar j hj) hbut.size,hinv.self⟩;have htm':bC X ρ s a w1:=fun k x hx=>by
   obtain⟨u,g1,g2⟩:=htm k x hx;exact⟨u,g1,TV.rel_map g2 mono⟩
  have hv:t.rel ρ s.H (Xo X ρ s.H) w1 v:=by
   rw[<- ht];exact km hr (fun x u hx=>nZ (fun r o' ho'=>by simp at ho') (fun j _ hj=> .inl hj) hx)
  show eG b ty w0 O X (s.put (some d) t) cs' _ _;refine⟨by rw[gz];exact h1,by rw[jP,ee];exact hsz,ρ,by rw[gy];exact hinv',pB hsz htm' hv,hO,hX,?_⟩;rw[gy];exact hbox.weaken fun j _ hj=> .inl hj
 have hF0:F≠[]:=by rw[<- hF];simpa using hfam
 have hd0:=hd hF0;have hres:gJ s d t F=AS.put ⟨s.tmps,aO s.H d F⟩ (some d) t:=by
  unfold gJ;rw[if_neg (by simpa using hF0)]
 rw[hres]
 let f:Nat->Option (Nat×Nat):=fun r=>if r<it.res.fam.length then ρc 0 r else none
 have hff: ∀r j n,f r=some (j,n)->(∃o',it.res.fam[r]?=some o')/\ρc 0 r=some (j,n):=fun r j n h=>by
  simp only[f]at h;split at h
  ·rename_i hlt;exact⟨⟨_,List.getElem?_eq_getElem hlt⟩,h⟩
  cases h
 have hnew: ∀(r j n:Nat),f r=some (j,n)->w.heap.size<=j:=fun r j n h=>by
  obtain⟨⟨o',ho'⟩,g⟩:=hff r j n h;have:=hi.old 0 r o' j n (by simpa[famH] using ho') g;rcases this.1 with h|h
  ·exact h
  exact absurd (h▸ .inl hX) this.2
 have hXo: ∀j,Xo X (newρ ρ d f) (aO s.H d F) j->Xo (Xo X ρ s.H) ρc (famH 0 it.res.fam) j:=fun j hj=>by
  rcases hj with hj|⟨x',y',o',n,g1,g2⟩
  ·exact .inl (.inl hj)
  by_cases hxd:x'=d
  ·subst hxd;rw[newρ_eq]at g2;obtain⟨⟨o2,ho2⟩,g3⟩:=hff y' j n g2;exact .inr ⟨0,y',o2,n,by simpa[famH] using ho2,g3⟩
  rw[aL hxd]at g1;rw[newρ_ne hxd]at g2;exact .inl (.inr ⟨x',y',o',n,g1,g2⟩)
 have mono: ∀x u,AV.rel ρ s.H (Xo X ρ s.H) w x u->AV.rel (newρ ρ d f) (aO s.H d F) (Xo X (newρ ρ d f) (aO s.H d F)) w1 x u:=fun x u hx=>by
  refine lA (.inl hX) hbut (fun x r o ho=>?_) (fun x r o b' c ho hb hlt=>?_) hx
  ·have hxd:x≠d:=by rintro rfl;rw[hd0]at ho;simp at ho
   exact⟨o,by rw[aL hxd];exact ho,rfl,ac _,newρ_ne hxd r⟩
  by_cases hxd:x=d
  ·subst hxd;rw[newρ_eq]at hb;have:=hnew r b' c hb;omega
  rw[aL hxd]at ho;rw[newρ_ne hxd]at hb;exact .inr ⟨x,r,o,c,ho,hb⟩
 have hmap: ∀x u,AV.rel ρc (famH 0 it.res.fam) (Xo (Xo X ρ s.H) ρc (famH 0 it.res.fam)) w1 x u->AV.rel (newρ ρ d f) (aO s.H d F) (Xo X (newρ ρ d f) (aO s.H d F)) w1 (cU d x) u:=fun x u hx=>by
  refine nZ (fun r o' ho'=>?_) (fun j _ hj=>hXo j hj) hx;rw[aY,newρ_eq];simp only[f];rw[if_pos (List.getElem?_eq_some_iff.1 ho').1,<- hF,ax,ho'];exact⟨rfl,rfl⟩
 have hinv':Inv w0 O X (aO s.H d F) (newρ ρ d f) w1:=by
  refine⟨hinv.keep.but hbut (.inr hO),fun x r o ho=>?_,fun x r x' r' o o' j c c' ho ho' hr hr'=>?_,fun x r o j c ho hr=>?_,fun j hj=>Nat.lt_of_lt_of_le (hinv.bar j hj) hbut.size,fun x r o ho=>?_⟩
  ·by_cases hxd:x=d
   ·subst hxd;rw[aY,<- hF,ax]at ho;obtain⟨o2,ho2,rfl⟩:=Option.map_eq_some_iff.1 ho;have hobj:=hi.objs 0 r o2 (by simpa[famH] using ho2);obtain⟨z1,z2,z3⟩:=hobj;refine⟨fun e he=>?_,z2,?_⟩
    ·simp only[renO,ak]at he;obtain⟨e',he',rfl⟩:=he;rw[List.length_map];exact z1 e' he'
    rw[newρ_eq];simp only[f];rw[if_pos (List.getElem?_eq_some_iff.1 ho2).1];cases hr0:ρc 0 r with
    |none=>rw[hr0]at z3;simp[renO,z3]
    |some bc=>
     obtain⟨j,n⟩:=bc;rw[hr0]at z3;obtain⟨cells,p1,p2,p3,p4,p5⟩:=z3;refine⟨cells,p1,p2,by simpa[renO] using p3,p4,fun i e j z he hz=>?_⟩;simp only[renO,ax]at he;obtain⟨e',he',rfl⟩:=Option.map_eq_some_iff.1 he;rw[ax]at hz;obtain⟨z',hz',rfl⟩:=Option.map_eq_some_iff.1 hz;obtain⟨u,u1,u2,u3⟩:=p5 i e' j z' he' hz';exact⟨u,u1,u2,hmap z' u u3⟩
   rw[aL hxd]at ho;exact dN (hinv.objs x r o ho) (newρ_ne hxd r) (fun b' c hb'=>hnb x r o b' c ho hb') mono
  ·by_cases hx:x=d
   ·subst hx;rw[newρ_eq]at hr;by_cases hx':x'=x
    ·subst hx';rw[newρ_eq]at hr';obtain⟨⟨o1,ho1⟩,g1⟩:=hff r j c hr;obtain⟨⟨o2,ho2⟩,g2⟩:=hff r' j c' hr';exact⟨rfl,(hi.inj 0 r 0 r' o1 o2 j c c' (by simpa[famH] using ho1) (by simpa[famH] using ho2) g1 g2).2⟩
    rw[newρ_ne hx']at hr';rw[aL hx']at ho';have:=bM (hinv.objs x' r' o' ho') hr';have:=hnew _ _ _ hr;omega
   rw[newρ_ne hx]at hr;rw[aL hx]at ho;by_cases hx':x'=d
   ·subst hx';rw[newρ_eq]at hr';have:=bM (hinv.objs x r o ho) hr;have:=hnew _ _ _ hr';omega
   rw[newρ_ne hx']at hr';rw[aL hx']at ho';exact hinv.inj x r x' r' o o' j c c' ho ho' hr hr'
  ·by_cases hx:x=d
   ·subst hx;rw[newρ_eq]at hr;have:=hnew _ _ _ hr;have hk:=hinv.keep.size;exact⟨.inl (by omega),fun hX=>by have:=hinv.bar j hX;omega⟩
   rw[newρ_ne hx]at hr;rw[aL hx]at ho;exact hinv.old x r o j c ho hr
  by_cases hx:x=d
  ·subst hx;rw[aY,<- hF,ax]at ho;obtain⟨o2,ho2,rfl⟩:=Option.map_eq_some_iff.1 ho;intro e he z hz;simp only[renO,ak]at he;obtain⟨e',he',rfl⟩:=he;simp only[ak]at hz;obtain⟨z',hz',rfl⟩:=hz;cases z'<;>first|rfl|trivial
  rw[aL hx]at ho;exact hinv.self x r o ho
 have htm':bC X (newρ ρ d f) ⟨s.tmps,aO s.H d F⟩ a w1:=fun k x hx=>by
  obtain⟨u,g1,g2⟩:=htm k x hx;exact⟨u,g1,TV.rel_map g2 mono⟩
 have hv:t.rel (newρ ρ d f) (aO s.H d F) (Xo X (newρ ρ d f) (aO s.H d F)) w1 v:=by
  rw[<- ht];exact km hr hmap
 refine⟨by rw[gz];exact h1,by rw[jP,ee];exact hsz,newρ ρ d f,by rw[gy];exact hinv',pB (s:=⟨s.tmps,aO s.H d F⟩) hsz htm' hv,hO,hX,?_⟩;rw[gy];exact hbox.weaken fun j _ hj=>hXo j hj
theorem Cj {H:OH} {t:TV} (h:jQ (eB H t)=true):eB H t=t:=by
 unfold eB at h⊢;split
 ·rename_i a r off len;simp only at h;split at h<;>cases h
 ·cases h
 rfl
theorem rl {H H':OH} {ρ':Rho} {Y Y':Nat->Prop} {w':World} {t:TV} {v:Value} (h:jQ t=true) (hr:t.rel ρ H Y w v):t.rel ρ' H' Y' w' v:=by
 have hav: ∀x u,lZ x=true->AV.rel ρ H Y w x u->AV.rel ρ' H' Y' w' x u:=fun x u hx hu=>by
  cases x with
  |p x=>
   cases x with
   |raw z=>
    obtain⟨rfl,h1⟩:=bF (ρ:=ρ) (H:=H) hu;exact bS.raw _ h1
   |sl xs=>cases hx
   |ptr cs=>cases hx
  |sl a r off len=>cases hx
  |ptr a r i j=>cases hx
  |junk=>cases hx
 have agg: ∀cs v,cs.all lZ=true->bv ρ H Y w cs v->bv ρ' H' Y' w' cs v:=fun cs v hc ⟨vs,g1,g2,g3⟩=>by
  simp only[ai]at hc;exact⟨vs,g1,g2,fun j x hx=>by obtain⟨u,u1,u2,u3⟩:=g3 j x hx;exact⟨u,u1,u2,hav x u (hc x (au hx)) u3⟩⟩
 cases t with
 |one x=>exact hav x v h hr
 |agg cs=>exact agg cs v h hr
 |fn f cs=>obtain⟨u,h1,h2⟩:=hr;exact⟨u,agg cs u h h1,h2⟩
 |tup ts=>
  simp only[jQ,ai]at h;obtain⟨vs,g1,g2,g3⟩:=hr;refine⟨vs,g1,g2,fun j c cs hj=>?_⟩;obtain⟨u,u1,u2⟩:=g3 j c cs hj;have hall:=h (c,cs) (au hj);refine⟨u,u1,?_⟩;rcases u2 with⟨u2,u3⟩|⟨u2,x,rfl,u4⟩
  ·exact .inl ⟨u2,agg _ _ (by simpa only[ai] using hall) u3⟩
  exact .inr ⟨u2,_,rfl,hav x u (hall x (by simp)) u4⟩
def CD:PV->Bool
 | .raw _=>true
 |_=>false
def lentOk (args:List TV) (res:CallRes) (cs:List PV):Bool:=args.all jQ||!res.plain||cs.all CD
theorem gM.raw {Y Y':Nat->Prop} (hr:cs.all CD=true) (h:gM b ty cs Y w):gM b ty cs Y' w:=by
 obtain⟨cells,c,h1,h2,h3,h4,h5,h6⟩:=h;refine⟨cells,c,h1,h2,h3,h4,h5,fun j x hx=>?_⟩;obtain⟨v,v1,v2,v3⟩:=h6 j x hx;rw[ai]at hr;have:=hr x (au hx);cases x with
 |raw z=>cases v3 with|raw _ h=>exact⟨_,v1,v2,.raw _ h⟩
 |sl xs=>cases this
 |ptr cs=>cases this
theorem qU {it:cH P} {d:Nat} (h1:a.defers=[]) (hsz:a.tmps.size=s.tmps.length) (hinv:Inv w0 O X s.H ρ w) (htm:bC X ρ s a w) (hO:O b) (hX:X b) (hbox:gM b ty cs (Xo X ρ s.H) w) (hok:lentOk it.args it.res cs'=true) (hcon:CallT P b ty it.f it.args cs it.res cs')
  {ts:List TV} (c2:ts.map (eB s.H)=it.args) (c3:ts.all (dq it.res.plain s.H)=true) {vs:Array Value} (hvs:vs.size=ts.length) (hv: ∀(j:Nat) t,ts[j]?=some t-> ∃v:Value,vs[j]?=some v/\t.rel ρ s.H (Xo X ρ s.H) w v)
  {t:TV} {F:List OObj} (ht:dX d it.res.r=t) (hF:it.res.fam.map (renO d)=F) (hdF:F≠[]->s.H d=[]):
  Calls P it.f vs w fun e w1=> ∃v,e= .returned v/\eG b ty w0 O X (gJ s d t F) cs' (a.put (some d) v) w1:=by
 obtain⟨_,hcon⟩:=hcon;have hXlt: ∀j,Xo X ρ s.H j->j<w.heap.size:=fun j hj=>by
  rcases hj with hj|⟨x,y,o',n,g1,g2⟩
  ·exact hinv.bar j hj
  exact bM (hinv.objs x y o' g1) g2
 simp only[ai]at c3;by_cases hcase:it.args.all jQ=true\/it.res.plain=false
 ·refine(hcon (Xo X ρ s.H) w vs hXlt (.inl hX) hbox ?_ ?_).mono ?_
  ·rw[<- c2];simp[hvs]
  ·intro j u hu;have hu0:=hu;rw[<- c2,ax]at hu;obtain⟨t0,ht0,rfl⟩:=Option.map_eq_some_iff.1 hu;obtain⟨v,v1,v2⟩:=hv j t0 ht0;refine⟨v,v1,?_⟩;rcases hcase with hraw|hpl
   ·have hru:jQ (eB s.H t0)=true:=by
     rw[ai]at hraw;exact hraw _ (au hu0)
    have hne:=Cj hru;rw[hne]at hru⊢;exact rl hru v2
   have:=c3 t0 (au ht0);rw[hpl]at this;exact lR hinv.objs (fun _ h=>h) (fun h=>by cases h) v2 this
  rintro e w1 ⟨v,rfl,ρc,hi,hr,hb'⟩;exact⟨v,rfl,ur h1 hsz hinv htm hO hX ht hF hdF hi hr hb'⟩
 have hnr:it.args.all jQ=false:=by simpa using fun h=>hcase (.inl h)
 have hpl:it.res.plain=true:=by simpa using fun h=>hcase (.inr h)
 have hcr:cs'.all CD=true:=by
  unfold lentOk at hok;rw[hnr,hpl]at hok;simpa using hok
 have hpl2:=hpl;unfold CallRes.plain at hpl2;rw[Bool.and_eq_true]at hpl2;have hfam:it.res.fam=[]:=List.isEmpty_iff.1 hpl2.1;refine(hcon (fun j=>j=b) w vs (fun j hj=>by subst hj;exact hXlt j (.inl hX)) rfl (hbox.weaken fun j _ hj=>by subst hj;exact .inl hX) ?_ ?_).mono ?_
 ·rw[<- c2];simp[hvs]
 ·intro j u hu;rw[<- c2,ax]at hu;obtain⟨t0,ht0,rfl⟩:=Option.map_eq_some_iff.1 hu;obtain⟨v,v1,v2⟩:=hv j t0 ht0;refine⟨v,v1,?_⟩;exact rf hinv.objs (fun j hj=>by subst hj;exact .inl hX) (fun _ x y o b' c ho hb' hbb=>by subst hbb;exact(hinv.old x y o b' c ho hb').2 hX) v2 (c3 t0 (au ht0))
 rintro e w1 ⟨v,rfl,ρc,hi,hr,hb'⟩;refine⟨v,rfl,ur h1 hsz hinv htm hO hX ht hF hdF (ρc:=ρc) ?_ (rl hpl2.2 hr) (hb'.raw hcr)⟩;rw[hfam];exact⟨hi.keep,fun x r o ho=>by simp[famH]at ho,fun x r x' r' o o' j c c' ho=>by simp[famH]at ho,fun x r o j c ho=>by simp[famH]at ho,fun j hj=>Nat.lt_of_lt_of_le (hXlt j hj) hi.keep.size,fun x r o ho=>by simp[famH]at ho⟩
theorem EL {items:List (cH P)} {ow:List Nat} {i:Nat} {s1:AS} (hrel:eG b ty w0 O X s cs a w) {o:Oper} {c:Call} {y:Operand} (ho:o.op= .call c) (hcal:c.callee= .value y) (hy:(∃f,y= .func f)\/ ∃k,y= .tmp k) {it:cH P} (hit:items.find? (·.i==i)=some it)
  (hraw:lentOk it.args it.res cs'=true) (hcon:CallT P b ty it.f it.args cs it.res cs') (h:dv P items ow i o s=some s1) {K:Act->World->Prop} {Q:Exit->Act->World->Prop}
  (hK: ∀v w',eG b ty w0 O X s1 cs' (a.put o.dst v) w'->K (a.put o.dst v) w'):o.wp P a w K Q:=by
 obtain⟨h1,hsz,ρ,hinv,htm,hO,hX,hbox⟩:=hrel;have hM:sj o.op=false:=by rw[ho];rfl
 have hR:EE o.op=false:=by
  obtain⟨callee,args,tys⟩:=c;simp only at hcal;subst hcal;rw[ho];rfl
 have hD:d8 P s.ev s.H o.op=none:=by
  obtain⟨callee,args,tys⟩:=c;simp only at hcal;subst hcal;rw[ho];rfl
 unfold dv at h;simp only[hM,hR,hD,Bool.false_eq_true,if_false]at h;obtain⟨d,t,F,hdst,hA,hdF,hs1⟩: ∃d t F,o.dst=some d/\b6 P items ow i d s.ev s.H o.op=some (t,F)/\(F≠[]->s.H d=[])/\s1=gJ s d t F:=by
  split at h
  ·cases h
  rename_i d hd;split at h
  ·rename_i t ht;injection h with h
   exact⟨d,t,[],hd,ht,fun h=>absurd rfl h,by rw[<- h];rfl⟩
  ·rename_i t F hF ht;split at h
   ·rename_i hH;injection h with h
    refine⟨d,t,F,hd,ht,fun _=>hH,?_⟩;rw[<- h];unfold gJ;rw[if_neg (by intro h;exact hF (List.isEmpty_iff.1 h))]
   cases h
  cases h
 subst hs1;rw[ho]at hA;rcases hy with⟨f,rfl⟩|⟨k,rfl⟩
 ·simp only[b6,hcal]at hA;rw[hit]at hA;split at hA
  ·rename_i it' ts hit' hts;injection hit' with hit'
   subst hit';split at hA
   ·rename_i hc;obtain⟨c1,c2,c3,_⟩:=hc;injection hA with hA
    injection hA with ht hF
    subst c1;obtain⟨e1,e2⟩:=cp hts;have hrun:=jS (w:=w) ho hcal (e:=a.eval) rfl hcon.1;unfold Oper.wp;rw[hrun];simp only[Oper.upon];refine(qU h1 hsz hinv htm hO hX hbox hraw hcon c2 c3 (vs:=c.args.map a.eval) (by simp[e1]) (fun j t0 ht0=>?_) ht hF hdF).mono ?_
    ·obtain⟨x,hx,hxt⟩:=e2 j t0 ht0;exact⟨a.eval x,by rw[Array.getElem?_map];simp at hx;rw[hx];rfl,b7 htm x t0 hxt⟩
    rintro e w1 ⟨v,rfl,hr⟩;show K (a.put o.dst v) w1;refine hK v w1 ?_;rw[hdst];exact hr
   cases hA
  cases hA
 simp only[b6,hcal]at hA;rw[hit]at hA;split at hA
 ·rename_i f extra it' ts hcl hit' hts;injection hit' with hit'
  subst hit';split at hA
  ·rename_i hc;obtain⟨c1,c2,c3,_⟩:=hc;injection hA with hA
   injection hA with ht hF
   subst c1;obtain⟨e1,e2⟩:=cp hts;obtain⟨us,k1,k2,k3⟩:=qL (v:=a.eval (.tmp k)) (fun t0 ht0=>b7 htm (.tmp k) t0 ht0) hcl;have hrun:=rq (w:=w) ho hcal (e:=a.eval) k1 hcon.1;unfold Oper.wp;rw[hrun];simp only[Oper.upon];refine(qU h1 hsz hinv htm hO hX hbox hraw hcon c2 c3 (vs:=c.args.map a.eval++us) (by simp[e1,k2]) (fun j t0 ht0=>?_) ht hF hdF).mono ?_
   ·by_cases hj:j<ts.length
    ·rw[ao hj]at ht0;obtain⟨x,hx,hxt⟩:=e2 j t0 ht0;exact⟨a.eval x,by rw[Array.getElem?_append_left (by simp at e1⊢;omega),Array.getElem?_map];simp at hx;rw[hx];rfl,b7 htm x t0 hxt⟩
    rw[ap (by omega)]at ht0;obtain⟨v,v1,v2⟩:=k3 _ t0 ht0;exact⟨v,by rw[Array.getElem?_append_right (by simp at e1⊢;omega)];simp at e1⊢;rw[<- e1];exact v1,v2⟩
   rintro e w1 ⟨v,rfl,hr⟩;show K (a.put o.dst v) w1;refine hK v w1 ?_;rw[hdst];exact hr
  cases hA
 cases hA
end
end
section
theorem Fk {w w':World} {O X:Nat->Prop} {s2:AS} {ρ:Rho} {res:CallRes} {r:TV} {a0:Nat} {v:Value} (hinv:Inv w O X s2.H ρ w') (v2:r.rel ρ s2.H (Xo X ρ s2.H) w' v) (hself0:nE s2.H a0 r) (hfam:res.fam=(s2.H a0).map (renO 0)) (hr:res.r=dX 0 r):
  ∃ρ':Rho,Inv w O X (famH 0 res.fam) ρ' w'/\res.r.rel ρ' (famH 0 res.fam) (Xo X ρ' (famH 0 res.fam)) w' v/\ ∀b,Xo X ρ' (famH 0 res.fam) b->Xo X ρ s2.H b:=by
 obtain⟨hself,h5⟩:=pT hself0;have hF: ∀(k:Nat) o,(famH 0 res.fam 0)[k]?=some o-> ∃o',(s2.H a0)[k]?=some o'/\o=renO 0 o':=fun k o ho=>by
  simp only[famH,if_true,hfam,ax]at ho;obtain⟨o',g1,g2⟩:=Option.map_eq_some_iff.1 ho;exact⟨o',g1,g2.symm⟩
 have hz: ∀(x k:Nat) o,(famH 0 res.fam x)[k]?=some o->x=0:=fun x k o ho=>by
  by_cases hx:x=0
  ·exact hx
  simp[famH,hx]at ho
 have hXo: ∀b,Xo X (fun _ k=>ρ a0 k) (famH 0 res.fam) b->Xo X ρ s2.H b:=fun b hb=>by
  rcases hb with hb|⟨x,k,o,n,g1,g2⟩
  ·exact .inl hb
  have:=hz x k o g1;subst this;obtain⟨o',g3,_⟩:=hF k o g1;exact .inr ⟨a0,k,o',n,g3,g2⟩
 have hmap: ∀x u,cL a0 x->AV.rel ρ s2.H (Xo X ρ s2.H) w' x u->AV.rel (fun _ k=>ρ a0 k) (famH 0 res.fam) (Xo X (fun _ k=>ρ a0 k) (famH 0 res.fam)) w' (cU 0 x) u:=fun x u hs hx=>by
  cases x with
  |p x=>exact bS.weaken (fun b _ hb=>hXo b hb) hx
  |sl x k off len=>
   have hs:x=a0:=hs;subst hs;obtain⟨o,g1,g2,g3⟩:=hx;have h6:x<=4999:=h5.resolve_right fun h=>by rw[h]at g1;simp at g1
   exact⟨renO 0 o,by simp[famH,hfam,g1],by simpa[renO] using g2,jm (ρ':=fun _ k=>ρ x k) (a':=0) (r':=k) h6 g3 rfl⟩
  |ptr x k i j=>
   have hs:x=a0:=hs;subst hs;obtain⟨o,b,c,g1,g2,g3,g4⟩:=hx;exact⟨renO 0 o,b,c,by simp[famH,hfam,g1],g2,by simpa[renO] using g3,g4⟩
  |junk=>trivial
 have hfin: ∃ρ':Rho,Inv w O X (famH 0 res.fam) ρ' w'/\res.r.rel ρ' (famH 0 res.fam) (Xo X ρ' (famH 0 res.fam)) w' v/\ ∀b,Xo X ρ' (famH 0 res.fam) b->Xo X ρ s2.H b:=by
  refine⟨fun _ k=>ρ a0 k,⟨hinv.keep,fun x k o ho=>?_,fun x k x' k' o o' b c c' ho ho' hr1 hr2=>?_,fun x k o b c ho hr1=>?_,hinv.bar,fun x k o ho=>?_⟩,?_,hXo⟩
  ·have:=hz x k o ho;subst this;obtain⟨o',g1,rfl⟩:=hF k o ho;obtain⟨z1,z2,z3⟩:=hinv.objs a0 k o' g1;refine⟨fun e he=>?_,z2,?_⟩
   ·simp only[renO,ak]at he;obtain⟨e',he',rfl⟩:=he;rw[List.length_map];exact z1 e' he'
   cases hr0:ρ a0 k with
   |none=>rw[hr0]at z3;simp only[hr0];simp[renO,z3]
   |some bc=>
    obtain⟨b,n⟩:=bc;rw[hr0]at z3;obtain⟨cells,p1,p2,p3,p4,p5⟩:=z3;simp only[hr0];refine⟨cells,p1,p2,by simpa[renO] using p3,p4,fun i e j z he hz=>?_⟩;simp only[renO,ax]at he;obtain⟨e',he',rfl⟩:=Option.map_eq_some_iff.1 he;rw[ax]at hz;obtain⟨z',hz',rfl⟩:=Option.map_eq_some_iff.1 hz;obtain⟨u,u1,u2,u3⟩:=p5 i e' j z' he' hz';exact⟨u,u1,u2,hmap z' u (hinv.self a0 k o' g1 e' (au he') z' (au hz')) u3⟩
  ·have e1:=hz x k o ho;have e2:=hz x' k' o' ho';subst e1 e2;obtain⟨o1,g1,_⟩:=hF k o ho;obtain⟨o2,g2,_⟩:=hF k' o' ho';exact⟨rfl,(hinv.inj a0 k a0 k' o1 o2 b c c' g1 g2 hr1 hr2).2⟩
  ·have e1:=hz x k o ho;subst e1;obtain⟨o1,g1,_⟩:=hF k o ho;exact hinv.old a0 k o1 b c g1 hr1
  ·have e1:=hz x k o ho;subst e1;obtain⟨o1,g1,rfl⟩:=hF k o ho;intro e he z hzz;simp only[renO,ak]at he;obtain⟨e',he',rfl⟩:=he;simp only[ak]at hzz;obtain⟨z',hz',rfl⟩:=hzz;cases z'<;>first|rfl|trivial
  rw[hr];have agg: ∀cs u,(∀x∈cs,cL a0 x)->bv ρ s2.H (Xo X ρ s2.H) w' cs u->bv (fun _ k=>ρ a0 k) (famH 0 res.fam) (Xo X (fun _ k=>ρ a0 k) (famH 0 res.fam)) w' (cs.map (cU 0)) u:=fun cs u hs h=>by
   obtain⟨us,h1,h2,h3⟩:=h;refine⟨us,h1,by simpa using h2,fun j x hx=>?_⟩;rw[ax]at hx;obtain⟨y,hy,rfl⟩:=Option.map_eq_some_iff.1 hx;obtain⟨u',u1,u2,u3⟩:=h3 j y hy;exact⟨u',u1,u2,hmap _ _ (hs y (au hy)) u3⟩
  cases r with
  |one x=>exact hmap x v hself v2
  |agg cs=>exact agg cs v hself v2
  |fn f cs=>obtain⟨u,h1,h2⟩:=v2;exact⟨u,agg cs u hself h1,h2⟩
  |tup ts=>
   obtain⟨us,h1,h2,h3⟩:=v2;refine⟨us,h1,by simpa using h2,fun j b cs hx=>?_⟩;rw[ax]at hx;obtain⟨y,hy,hyy⟩:=Option.map_eq_some_iff.1 hx;obtain⟨b',cs'⟩:=y;simp at hyy;obtain⟨rfl,rfl⟩:=hyy;obtain⟨u,u1,u2⟩:=h3 j b' cs' hy;have hs:=hself (b',cs') (au hy);refine⟨u,u1,?_⟩;rcases u2 with⟨u2,u3⟩|⟨u2,x,rfl,u4⟩
   ·exact .inl ⟨u2,agg _ _ hs u3⟩
   exact .inr ⟨u2,_,rfl,hmap _ _ (hs x (by simp)) u4⟩
 exact hfin
section
variable {P:Program} {b:Nat} {ty:TypeId} {cs cs':List PV} {Q:Exit->AS->List PV->Prop} {s:AS}
theorem tO {f:FuncId} {fn:Func} {c:Code} {args:List TV} {res:CallRes} (hf:P.funcs[f]?=some fn) (hb:fn.body=some c) (hn:callable P f=true)
  (h:f4 P b ty c (fun e s k=>(e= .normal\/e= .ret)/\k=cs'/\ ∃s',bX s s'/\kq P fn res s') ⟨args++ae (fn.ntmps-args.length) .undef,fun _=>[]⟩ cs):CallT P b ty f args cs res cs':=by
 refine⟨hn,fun X w vs hX hXb hbox hvs hargs=>?_⟩;refine calls_of_wp hf hb ?_;have hXo: ∀j,j<w.heap.size->Xo X (fun _ _=>none) (fun _=>[]) j->X j:=fun j _ h=>by
  rcases h with h|⟨a,r,o,c,h1,h2⟩
  ·exact h
  cases h2
 have hrel:eG b ty w (fun j=>j=b) X ⟨args++ae (fn.ntmps-args.length) .undef,fun _=>[]⟩ cs {tmps:=vs++Array.replicate (fn.ntmps-vs.size) undef,defers:=[]} w:=by
  refine⟨rfl,by simp[hvs],fun _ _=>none,⟨Keep.refl w,fun a r o ho=>by simp at ho,fun a r a' r' o o' b c c' ho=>by simp at ho,fun a r o b c ho=>by simp at ho,hX,fun a r o ho=>by simp at ho⟩,fun t x hx=>?_,rfl,hXb,hbox.weaken hXo⟩;by_cases ht:t<args.length
  ·rw[ao ht]at hx;obtain⟨v,v1,v2⟩:=hargs t x hx;refine⟨v,by rw[Array.getElem?_append_left (by omega)];exact v1,TV.rel_map v2 (fun y u hy=>?_)⟩;cases y with
   |p y=>exact bS.weaken hXo hy
   |sl a r off len=>obtain⟨o,h1,_⟩:=hy;simp at h1
   |ptr a r i j=>obtain⟨o,_,_,h1,_⟩:=hy;simp at h1
   |junk=>trivial
  rw[ap (by omega),List.getElem?_replicate]at hx;split at hx
  ·rename_i hlt;injection hx with hx
   subst hx;refine⟨undef,?_,fg⟩;rw[Array.getElem?_append_right (by omega),Array.getElem?_replicate,if_pos (by omega)]
  cases hx
 refine wp_mono (h _ _ _ _ _ hrel) fun e a' w' ⟨s1,k,⟨he,hk,s2,hw,r,a0,hres,hself,hfam,hr⟩,hrel1⟩=>?_
 subst hk;obtain⟨h1,hsz,ρ,hinv,htm,_,_,hbox'⟩:=hrel1.weak hw;have htm:bC X ρ s2 a' w':=htm;obtain⟨v,v1,v2⟩:=jf hinv htm hres;obtain⟨ρ',g1,g2,g3⟩:=Fk hinv v2 hself hfam hr;rcases he with rfl|rfl
 ·exact⟨h1,v,v1,v,rfl,ρ',g1,g2,hbox'.weaken fun j _ hj=>g3 j hj⟩
 exact⟨h1,v,v1,v,rfl,ρ',g1,g2,hbox'.weaken fun j _ hj=>g3 j hj⟩
/-! Regions. -/
theorem wb {items items':List (cH P)} {ow:List Nat} {i d:Nat} {ev:Operand->Option TV} {H:OH} {op:Op} (h:items.find? (·.i==i)=items'.find? (·.i==i)):b6 P items ow i d ev H op=b6 P items' ow i d ev H op:=by
 cases op<;>simp only[b6,h]
theorem qh {items items':List (cH P)} {ow:List Nat} {ops:Array Oper} {i:Nat} {o:Oper} {s:AS} (h:items.find? (·.i==i)=items'.find? (·.i==i)):bJ P items ow ops i o s=bJ P items' ow ops i o s:=by
 have e:dv P items ow i o s=dv P items' ow i o s:=by
  unfold dv;simp only[wb h]
 unfold bJ;simp only[e]
def ik (ops:Array Oper) (m:Nat):Bool:=match ops[m]? with
 |some o=>o.guard.isNone&&(match o.op with
  | .call c=>(match c.callee with
   | .value (.func _)=>true
   | .value (.tmp _)=>true
   |_=>false)
  |_=>false)
 |none=>false
theorem uq {ops:Array Oper} {m:Nat} (h:ik ops m=true) {o:Oper} (ho:ops[m]?=some o):o.guard=none/\ ∃c y,o.op= .call c/\c.callee= .value y/\((∃f,y= .func f)\/ ∃k,y= .tmp k):=by
 unfold ik at h;rw[ho]at h;simp only[Bool.and_eq_true]at h;obtain⟨h1,h2⟩:=h;refine⟨by simpa using h1,?_⟩;split at h2
 ·rename_i c hc;split at h2
  ·rename_i f hf;exact⟨c,_,hc,hf,.inl ⟨f,rfl⟩⟩
  ·rename_i k hk;exact⟨c,_,hc,hk,.inr ⟨k,rfl⟩⟩
  cases h2
 cases h2
theorem wv {items:List (aJ P)} {it:cH P} {i:Nat} (h:i≠it.i):(items.map aJ.a++[it]).find? (·.i==i)=(items.map aJ.a).find? (·.i==i):=by
 rw[List.find?_append];have:[it].find? (·.i==i)=none:=by simp[Ne.symm h]
 rw[this,Option.or_none]
theorem zm {items:List (aJ P)} {it:cH P} (h:items.all (fun c=>c.i !=it.i)=true):(items.map aJ.a++[it]).find? (·.i==it.i)=some it:=by
 rw[List.find?_append];have:(items.map aJ.a).find? (·.i==it.i)=none:=by
  rw[List.find?_eq_none];intro x hx;obtain⟨c,hc,rfl⟩:=List.mem_map.1 hx;rw[ai]at h;have:=h c hc;simpa[aJ.a] using this
 rw[this]
 simp
theorem rx {w0 w:World} {O X:Nat->Prop} {a:Act} (items:List (aJ P)) (it:cH P) {ow:List Nat} {ops:Array Oper} {i:Nat} {o:Oper} (ho:ops[i]?=some o) (hL:ik ops it.i=true) (hF:items.all (fun c=>c.i !=it.i)=true) (hraw:lentOk it.args it.res cs'=true) (hcon:CallT P b ty it.f it.args cs it.res cs')
  {x:List PV} (hx:i=it.i->x=cs) {s1:AS} (hrel:eG b ty w0 O X s x a w) (h:bJ P (items.map aJ.a++[it]) ow ops i o s=some s1) {K:Act->World->Prop} {Q:Exit->Act->World->Prop}
  (hK: ∀v w',eG b ty w0 O X s1 (if i=it.i then cs' else x) (a.put o.dst v) w'->K (a.put o.dst v) w'):if Region.wanted o (yielded ops a.tmps)then o.wp P a w K Q else K (a.put o.dst undef) w:=by
 by_cases hi:i=it.i
 ·have hxx:=hx hi;subst hi hxx;obtain⟨hg,c,f,h1,h2,h3⟩:=uq hL ho;rw[if_pos (by simp[Region.wanted,hg])];unfold bJ at h;rw[hg]at h;simp only[if_true]at hK;exact EL hrel h1 h2 h3 (zm hF) hraw hcon h hK
 rw[qh (wv hi)]at h;obtain⟨Own,r1,r2⟩:=hrel.rebase;simp only[if_neg hi]at hK;exact f9 (aJ.ok items) r1 h fun v w' hr=>hK v w' (r2 _ _ _ hr)
theorem ro {w0:World} {O X:Nat->Prop} (items:List (aJ P)) (it:cH P) {ow:List Nat} {ops:Array Oper} (hL:ik ops it.i=true) (hF:items.all (fun c=>c.i !=it.i)=true) (hraw:lentOk it.args it.res cs'=true) (hcon:CallT P b ty it.f it.args cs it.res cs') {Q:Exit->Act->World->Prop}:
  ∀(l:List Oper) (k:Nat) (s s':AS) (a:Act) (w:World),(∀(j:Nat) o,l[j]?=some o->ops[k+j]?=some o)->fY P (items.map aJ.a++[it]) ow ops (l.zipIdx k) s=some s'->eG b ty w0 O X s (if k<=it.i then cs else cs') a w->
   (∀a' w',eG b ty w0 O X s' (if k+l.length<=it.i then cs else cs') a' w'->Q .normal a' w')->wpOps P ops Q (List.range' k l.length) a w
 |[],k,s,s',a,w,_,h,r,hQ=>by
  simp only[List.zipIdx_nil,fY]at h;injection h with h
  subst h;exact hQ a w r
 |o::l,k,s,s',a,w,hl,h,r,hQ=>by
  simp only[List.zipIdx_cons,fY]at h;split at h
  ·rename_i s1 hs1;simp only[List.length_cons,List.range'_succ,wpOps];have ho:ops[k]?=some o:=by have:=hl 0 o rfl;simpa using this
   rw[ho];simp only;have:=rx (Q:=Q) items it ho hL hF hraw hcon (x:=if k<=it.i then cs else cs') (fun hk=>if_pos (by omega)) r hs1 (K:=wpOps P ops Q (List.range' (k+1) l.length)) (fun v w' hr=>ro items it hL hF hraw hcon l (k+1) s1 s' _ _ (fun j o hj=>by have:=hl (j+1) o (by simpa using hj);rwa[show k+(j+1)=k+1+j by omega]at this) h (by
    have e:(if k=it.i then cs' else if k<=it.i then cs else cs')=if k+1<=it.i then cs else cs':=by
     by_cases h1:k=it.i
     ·rw[if_pos h1,if_neg (by omega)]
     rw[if_neg h1];by_cases h2:k<=it.i
     ·rw[if_pos h2,if_pos (by omega)]
     rw[if_neg h2,if_neg (by omega)]
    rw[e]at hr;exact hr) (fun a' w' hr'=>hQ a' w' (by rw[List.length_cons,show k+(l.length+1)=k+1+l.length by omega];exact hr')))
   split at this
   ·rename_i hw;rw[if_pos hw];exact .inl this
   rename_i hw;rw[if_neg hw];exact this
  cases h
theorem yV (m:Nat) {f:FuncId} {args:List TV} {res:CallRes} (hcon:CallT P b ty f args cs res cs') (items:List (aJ P)) (ow:List Nat) {id:Nat} {ops:Array Oper} (hL:ik ops m=true) (hF:items.all (fun c=>c.i !=m)=true) (hraw:lentOk args res cs'=true)
  (h:bW P (items.map aJ.a++[⟨m,f,args,res⟩]) ow (bo ops ops.toList 0) (some s) (fun s'=>Q .normal s' cs')):f4 P b ty (.region id ops false) Q s cs:=fun w0 O X a w r=>by
 obtain⟨s',h1,h2⟩:=bU P _ ow ops ops.toList 0 s _ h;refine wp_region ?_;rw[List.range_eq_range'];have hm:m<ops.size:=by
  unfold ik at hL;split at hL
  ·rename_i o ho;exact(Array.getElem?_eq_some_iff.1 ho).1
  cases hL
 have:=ro (w0:=w0) (O:=O) (X:=X) items ⟨m,f,args,res⟩ hL hF hraw hcon (Q:=fun e a' w'=> ∃s' k,Q e s' k/\eG b ty w0 O X s' k a' w') ops.toList 0 s s' a w (fun j o hj=>by simpa using hj) h1 (by simpa using r) (fun a' w' hr=>⟨s',cs',h2,by
  rw[if_neg (by simp;omega)]at hr;exact hr⟩)
 simpa using this
theorem yU (hmx:P.follows .mixedOrders=true) (m:Nat) {f:FuncId} {args:List TV} {res:CallRes} (hcon:CallT P b ty f args cs res cs') (items:List (aJ P)) (ow:List Nat) {id:Nat} {ops:Array Oper} (hd:cy [] ops=true) (hL:ik ops m=true) (hF:items.all (fun c=>c.i !=m)=true) (hraw:lentOk args res cs'=true)
  (h:bW P (items.map aJ.a++[⟨m,f,args,res⟩]) ow (bo ops ops.toList 0) (some s) (fun s'=>Q .normal s' cs')):f4 P b ty (.region id ops true) Q s cs:=fun w0 O X a w r=>by
 obtain⟨sF,h1,h2⟩:=bU P _ ow ops ops.toList 0 s _ h;have hm:m<ops.size:=by
  unfold ik at hL;split at hL
  ·rename_i o ho;exact(Array.getElem?_eq_some_iff.1 ho).1
  cases hL
 refine wp_region_any hmx ?_;have hrun:eQ P (items.map aJ.a++[⟨m,f,args,res⟩]) ow ops (List.range ops.size) s=some sF:=by
  rw[List.range_eq_range'];have:=ko (P:=P) (items:=items.map aJ.a++[⟨m,f,args,res⟩]) (ow:=ow) ops.toList 0 s (fun j o hj=>by simpa using hj);rw[h1]at this;simpa using this.symm
 have hr':eG b ty w0 O X s cs a {w with drawn:=w.drawn+1}:=by
  obtain⟨Own,g1,g2⟩:=r.rebase;obtain⟨q1,q2,ρ,hinv,htm⟩:=g1;have e:Ext w {w with drawn:=w.drawn+1}:=⟨rfl,rfl,rfl,ac _,fun _ _=>rfl⟩;have htm:bC X ρ s a w:=htm;exact g2 _ _ _ ⟨q1,q2,ρ,hinv.grow e,htm.grow e⟩
 refine kF (sep:=[]) (oO hd (by simp)) hd (Q:=fun e a' w'=> ∃s' k,Q e s' k/\eG b ty w0 O X s' k a' w') (fun p s a w=>eG b ty w0 O X s (if p m then cs' else cs) a w) ⟨jG r.rel,fun x hx=>by simp at hx⟩ hrun (fun p a w hall hr=>⟨sF,cs',h2,by
  rw[if_pos (hall m hm)]at hr;exact hr⟩) (fun p i o s s1 a w K ho hpi hs hr hK=>?_) ops.size (Array.replicate ops.size false) s a _ (by simp) ?_ ?_ ?_ ?_
 ·refine rx items ⟨m,f,args,res⟩ ho hL hF hraw hcon (x:=if p m then cs' else cs) (fun hi=>?_) hr hs (fun v w' hr'=>hK v w' ?_)
  ·have hi:i=m:=hi;subst hi;rw[if_neg (by simp[hpi])]
  by_cases hi:i=m
  ·subst hi;simpa[dy] using hr'
  have hmi:(m==i)=false:=by simpa using Ne.symm hi
  simpa[dy,hi,hmi] using hr'
 ·intro j o ho hp;have hj:j<ops.size:=(Array.getElem?_eq_some_iff.1 ho).1;simp[hj]at hp
 ·exact ay (List.length_filter_le _ _) (by simp)
 ·have:pS ops.size (fun j=>(Array.replicate ops.size false).getD j true)=[]:=by
   unfold pS;rw[List.filter_eq_nil_iff];intro j hj;have:=List.mem_range.1 hj;simp[this]
  rw[this];rfl
 have:(Array.replicate ops.size false).getD m true=false:=by simp[hm]
 simp only[this];exact hr'
theorem yW (m:Nat) {f:FuncId} {args:List TV} {res:CallRes} (hcon:CallT P b ty f args cs res cs') (items:List (aJ P)) (ow:List Nat) {id:Nat} {ops:Array Oper} (hL:ik ops m=true) (hF:items.all (fun c=>c.i !=m)=true) (hraw:lentOk args res cs'=true)
  (h: ∀K:AS->Prop,(∀s',Q .normal s' cs'->K s')->bW P (items.map aJ.a++[⟨m,f,args,res⟩]) ow (bo ops ops.toList 0) (some s) K):f4 P b ty (.region id ops false) Q s cs:=
 yV m hcon items ow hL hF hraw (h _ fun _ h=>h)
theorem vN (hmx:P.follows .mixedOrders=true) (m:Nat) {f:FuncId} {args:List TV} {res:CallRes} (hcon:CallT P b ty f args cs res cs') (items:List (aJ P)) (ow:List Nat) {id:Nat} {ops:Array Oper} (hd:cy [] ops=true) (hL:ik ops m=true) (hF:items.all (fun c=>c.i !=m)=true) (hraw:lentOk args res cs'=true)
  (h: ∀K:AS->Prop,(∀s',Q .normal s' cs'->K s')->bW P (items.map aJ.a++[⟨m,f,args,res⟩]) ow (bo ops ops.toList 0) (some s) K):f4 P b ty (.region id ops true) Q s cs:=
 yU hmx m hcon items ow hd hL hF hraw (h _ fun _ h=>h)
end
/-! A box of one's own is lent. -/
def mL (d b:Nat):AV->AV
 | .sl x r off len=>if x=d then .junk else .sl x r off len
 | .ptr x r i j=>if x=d then(if r=0/\i=0/\j=0 then .raw (.pointer (some ⟨b,0,none⟩))else .junk)else .ptr x r i j
 |x=>x
def uv (d b:Nat):TV->TV
 | .one x=> .one (mL d b x)
 | .agg cs=> .agg (cs.map (mL d b))
 | .fn f cs=> .fn f (cs.map (mL d b))
 | .tup ts=> .tup (ts.map fun t=>(t.1,t.2.map (mL d b)))
end
structure ol where
 key:Int
 vals:List Int
 at_:Option Addr
 cap:Nat
 deriving Inhabited
def ol.val (it:ol):Value:= .slice it.at_ it.vals.length it.cap
def ol.agg (it:ol):Value:= .agg #[.int .i64 it.key,.slice it.at_ it.vals.length it.cap]
structure mr (w:World) (g:Nat) (it:ol):Prop where
 rd:RdI .i64 w it.at_ it.vals
 ne: ∀p,it.at_=some p->p.block≠g
 le:it.vals.length<=9223372036854775807
theorem mr.ext {w w':World} {g:Nat} {it:ol} (h:mr w g it) (e:Ext w w'):mr w' g it:=⟨h.rd.ext e,h.ne,h.le⟩
theorem RdI.setOther {k:IntKind} {w:World} {A:Option Addr} {zs:List Int} {g:Nat} (h:RdI k w A zs) (hne: ∀p,A=some p->p.block≠g) (p:Addr) (hp:p.block=g) (v:Value):RdI k (w.setCell p v) A zs:=fun hn=>by
 obtain⟨b,off,rfl,hc⟩:=h hn;refine⟨b,off,rfl,fun i x hx=>?_⟩;rw[World.cell?_setCell_other _ _ _ _ (fun e=>by have:=hne _ rfl;have e2:=congrArg Addr.block e;simp at e2 this;omega)];exact hc i x hx
theorem mr.setCell {w:World} {g:Nat} {it:ol} (h:mr w g it) (p:Addr) (hp:p.block=g) (v:Value):mr (w.setCell p v) g it:=⟨h.rd.setOther h.ne p hp v,h.ne,h.le⟩
theorem Ey {w w':World} {g:Nat} (h:w.grownBy w' (some g)) {p:Addr} {v:Value} (hp:w.cell? p=some v) (hne:p.block≠g):w'.cell? p=some v:=
 h.cell hp (fun e=>hne (by injection e))
theorem RdI.gb {k:IntKind} {w w':World} {A:Option Addr} {zs:List Int} {g:Nat} (h:RdI k w A zs) (hne: ∀p,A=some p->p.block≠g) (hg:w.grownBy w' (some g)):RdI k w' A zs:=fun hn=>by
 obtain⟨b,off,rfl,hc⟩:=h hn;exact⟨b,off,rfl,fun i x hx=>Ey hg (hc i x hx) (show b≠g from hne ⟨b,off,none⟩ rfl)⟩
abbrev I1 (b:Nat):TV:= .raw (.pointer (some ⟨b,0,none⟩))
def I8 (L:List Int):Prop:= ∀z∈L,-128<=z/\z<=127
theorem I8.getD {L:List Int} (h:I8 L) (a:Nat): -128<=L.getD a 0/\L.getD a 0<=127:=by
 rw[List.getD_eq_getElem?_getD];cases hx:L[a]? with
 |none=>simp
 |some z=>exact h z (au hx)
section
section
variable {P:Program} {f:FuncId} {args:List TV} {res:CallRes}
theorem DI {w w':World} {X:Nat->Prop} {v:Value} {t:TV} {fam:List OObj} {res:CallRes} (hw:bX ⟨[t],famH 0 fam⟩ ⟨[res.r],Hm [(0,res.fam)]⟩)
  (h: ∃ρ:Rho,Inv w (fun _=>False) X (famH 0 fam) ρ w'/\t.rel ρ (famH 0 fam) (Xo X ρ (famH 0 fam)) w' v):
  ∃ρ:Rho,Inv w (fun _=>False) X (famH 0 res.fam) ρ w'/\res.r.rel ρ (famH 0 res.fam) (Xo X ρ (famH 0 res.fam)) w' v:=by
 have e:Hm [(0,res.fam)]=famH 0 res.fam:=by funext a;rfl
 rw[e]at hw;obtain⟨ρ,hi,hr⟩:=h;obtain⟨_,_,ρ',hi',ht⟩:=hw w (fun _=>False) X ⟨#[v],[]⟩ w' ⟨rfl,rfl,ρ,hi,fun j x hx=>by
  match j,hx with
  |0,hx=>simp at hx;subst hx;exact⟨v,rfl,hr⟩
  |j+1,hx=>simp at hx⟩
 obtain⟨v',e1,r'⟩:=ht 0 _ rfl;simp at e1;subst e1;exact⟨ρ',hi',r'⟩
theorem CallC.weak {fam:List OObj} {t:TV} (h:CallC P f args ⟨fam,t⟩) (hw:bX ⟨[t],famH 0 fam⟩ ⟨[res.r],Hm [(0,res.fam)]⟩):CallC P f args res:=
 ⟨h.1,fun X w vs hX hs ha=>(h.2 X w vs hX hs ha).mono fun _ _ ⟨v,he,k⟩=>⟨v,he,DI hw k⟩⟩
end
end
section
def gK (r:List Int):OObj:=⟨2,1,lc fI r⟩
abbrev kI (d n c i:Nat) (f:FF):List OObj:=⟨23,1,gL d (ae i c)++ae (n-i) pf⟩::(bL i c f).map gK
abbrev dD (d n c:Nat) (f:FF):List OObj:=⟨23,1,gL d (ae n c)⟩::(bL n c f).map gK
theorem wC (d n c:Nat) (f:FF):kI d n c n f=dD d n c f:=by simp[kI,dD]
theorem wD {i n:Nat} (d c:Nat) (h:i<=n):(gL d (ae i c)++ae (n-i) pf).length=n:=by simp[bQ];omega
theorem Hf {i k n:Nat} (d c:Nat) (h:k<i):(gL d (ae i c)++ae (n-i) pf)[k]?=some [.sl d (k+1) 0 c]:=by
 rw[ao (by simp[bQ];exact h),ck d c h]
theorem BV {i n:Nat} (d c:Nat) (h:i<n):(gL d (ae i c)++ae (n-i) pf)[i]?=some pf:=by
 rw[ap (by simp[bQ]),bQ,aw,Nat.sub_self,List.getElem?_replicate,if_pos (by omega)]
theorem dM {n i:Nat} (c:Nat) (f:FF) (h:i<n):((bL n c f).map gK)[i]?=some ⟨2,1,lc fI (bz c (f i))⟩:=by
 rw[ax,bq _ _ h];rfl
theorem o9 {n i j:Nat} (c:Nat) (f:FF) (v:Int):((bL n c f).map gK).set i ⟨2,1,(lc fI (bz c (f i))).set j [.p (.raw (.int .i64 v))]⟩=(bL n c (upd f i j v)).map gK:=by
 have e:(⟨2,1,(lc fI (bz c (f i))).set j [.p (.raw (.int .i64 v))]⟩:OObj)=gK (bz c fun b=>if b=j then v else f i b):=by
  rw[<- l9,gK,<- ss];rfl
 rw[e,<- List.map_set,yg];rfl
theorem ct {n c:Nat} {f g:FF} (h: ∀i j,i<n->j<c->f i j=g i j):(bL n c f).map gK=(bL n c g).map gK:=by rw[ff h]
theorem x4 {i n c:Nat} (d:Nat) (f:FF) (hi:i<n) (h0: ∀j,j<c->f i j=0):
  (⟨23,1,(gL d (ae i c)++ae (n-i) pf).set i [.sl d (i+1) 0 c]⟩::((bL i c f).map gK++[⟨2,1,ae c [.raw (.int .i64 0)]⟩]):List OObj)=kI d n c (i+1) f:=by
 have e1:(gL d (ae i c)++ae (n-i) pf).set i [.sl d (i+1) 0 c]=gL d (ae (i+1) c)++ae (n-(i+1)) pf:=by
  rw[List.set_append_right _ _ (by simp[bQ]),bQ,aw,Nat.sub_self,List.replicate_succ' (n:=i),pY,aw,List.append_assoc]
  congr 1
  rw[show n-i=n-(i+1)+1 by omega,List.replicate_succ];rfl
 have e2:(⟨2,1,ae c [.raw (.int .i64 0)]⟩:OObj)=gK (bz c (f i)):=by
  rw[gK]
  congr 1
  apply List.ext_getElem?;intro j;rw[List.getElem?_replicate,wF];by_cases hj:j<c
  ·rw[if_pos hj,aX _ hj,h0 j hj];rfl
  rw[if_neg hj,List.getElem?_eq_none (by rw[bA];omega)];rfl
 rw[e1,e2,kI,uz,List.map_append];rfl
theorem fj (d e n c:Nat) (f:FF):(dD d n c f).map (renO e)=dD e n c f:=by
 simp only[dD,List.map_cons,List.map_map]
 congr 1
 ·simp[renO,yx]
 exact List.map_congr_left fun r _=>by simp[renO,gK,sq]
theorem jF {H:OH} {d n c:Nat} {f:FF} (h:H d=dD d n c f):qk H d:=fun r o ho e he x hx=>by
 rw[h]at ho;cases r with
 |succ r=>
  rw[List.getElem?_cons_succ,ax]at ho;obtain⟨l,hl,rfl⟩:=Option.map_eq_some_iff.1 ho;exact .inl (df _ _ l e he x hx)
 |zero=>
  simp at ho;subst ho;simp only at he;obtain⟨k,hk⟩:=List.mem_iff_getElem?.1 he;have hkn:k<n:=by
   have:=(List.getElem?_eq_some_iff.1 hk).1;rwa[bQ,aw]at this
  rw[ck d c hkn]at hk;injection hk with hk
  subst hk;simp at hx;subst hx;refine .inr ⟨k+1,0,c,gK (bz c (f k)),rfl,?_,df _ _ _⟩;rw[h,List.getElem?_cons_succ,ax,bq _ _ hkn];rfl
theorem BL {H:OH} {d n c:Nat} {f:FF} (h:H d=dD d n c f):fV H d (.one (.sl d 0 0 n))=bT (bL n c f):=by
 have e:((gL d (ae n c)).map (List.map (gO H d)))=ls (fR fI) (bL n c f):=by
  apply List.ext_getElem?;intro i;rw[ax,gp];by_cases hi:i<n
  ·rw[ck d c hi,bq _ _ hi];simp only[Option.map_some,List.map_cons,List.map_nil,gO,h,List.getElem?_cons_succ,dM _ _ hi,fR,fi,sn,nR];rw[List.drop_zero,List.take_of_length_le (by rw[bA];omega)]
  rw[List.getElem?_eq_none (by rw[bQ,aw];omega),List.getElem?_eq_none (by rw[aU];omega)];rfl
 simp only[fV,eo,if_true,h,List.getElem?_cons_zero];rw[List.drop_zero,List.take_of_length_le (by rw[bQ,aw];omega),e]
abbrev sf (k:Nat) (b:Bool):TV:= .tup [(false,[.sl 0 0 0 k]),(false,[.p (.raw (.bool b))])]
theorem HT {fn:Func} {d k c:Nat} {F:FF} {b:Bool} {s:AS} (hd:s.H d=dD d k c F)
  (hres:nK Tryd.prog s fn.results.toList=some (.tup [(false,[.sl d 0 0 k]),(false,[.p (.raw (.bool b))])])) (h5:d<=4999):
  ∃s',bX s s'/\kq Tryd.prog fn ⟨dD 0 k c F,sf k b⟩ s':=
 ⟨s,bX.refl s,_,d,hres,vh (by simp[gE,cL]) h5,by rw[hd,fj],rfl⟩
section
variable {P:Program} {fu:FuncId} {args:List TV} {n c:Nat} {g:FF}
end
end
theorem xq (f:FF) (i j:Nat) (v:Int):upd f i j v i j=v:=by simp[upd]
theorem xr {f:FF} {i j a b:Nat} {v:Int} (h:a≠i\/b≠j):upd f i j v a b=f a b:=by
 unfold upd;by_cases h1:a=i
 ·subst h1;have h2:b≠j:=by rcases h with h|h;exact absurd rfl h;exact h
  simp[h2]
 simp[h1]
def GoodP (n:Nat) (f:FF):Prop:=SymF f n/\AP f n/\oK n f<=10000
theorem AC (f:FF) (i j:Nat) (v:Int) (a b:Nat):upd f i j v a b=v\/upd f i j v a b=f a b:=by
 by_cases h:a=i/\b=j
 ·obtain⟨rfl,rfl⟩:=h;exact .inl (xq f a b v)
 exact .inr (xr (by omega))
def Iw (f:FF):Prop:= ∀a b,-9<=f a b/\f a b<=9
theorem Iw.i64 {f:FF} (h:Iw f) (a b:Nat):GB (f a b):=by have:=h a b;exact⟨by omega,by omega⟩
theorem Iw.upd {f:FF} (h:Iw f) {i j:Nat} {v:Int} (h1: -9<=v) (h2:v<=9):Iw (Go.Proofs.YtfgeomlagfomgaaDoor.upd f i j v):=fun a b=>by
 rcases AC f i j v a b with e|e
 ·rw[e];exact⟨h1,h2⟩
 rw[e];exact h a b
theorem I0 (x:Int): -2<=Int.tmod x 3/\Int.tmod x 3<=2:=by
 have h1:=Int.tmod_lt_of_pos x (show(0:Int)<3 by omega);have h2:=Int.lt_tmod_of_pos x (show(0:Int)<3 by omega);omega
theorem Fi {N B S Z n:Nat} {f0 f t h T:FF} (kb:AE N B S Z) (hn1:1<=n) (hn:n<=N) (hd:dk f0 n<=10000) (hr:Iq n f t h T): ∀s adds,RedI N B Z n f0 f t s adds->dZ h n:=by
 induction hr with
 |done f t hc=>exact fun s adds hI=>hI.red hn1 hd hc
 |step f t h T c hc _ ih=>
  intro s adds hI;cases c with
  |add i j=>exact ih _ _ (hI.add kb hn hc).1
  |swp m=>exact ih _ _ (hI.swap kb hn hc)
structure D1 (N B Z n:Nat) (f:FF):Prop where
 good:GoodP n f
 sz: ∀i j,i<n->j<n->Sz (f i j) 400
 st:RedI N B Z n f f idF 0 0
theorem D1.dk {N B S Z n:Nat} {f:FF} (kb:AE N B S Z) (k:D1 N B Z n f) (hn1:1<=n):dk f n<=10000:=by
 obtain⟨hs,hp,hd⟩:=k.good;have:=(sK hp (n-1) (by omega)).2;rw[show n-1+1=n by omega]at this;omega
theorem D1.ex {N B S Z n:Nat} {f:FF} (kb:AE N B S Z) (k:D1 N B Z n f) (hn1:1<=n) (hn:n<=N): ∃h T,dZ h n/\Iq n f idF h T:=by
 obtain⟨h,T,hr⟩:=kV (f0:=f) kb hn _ f idF 0 0 (ac _) k.st;exact⟨h,T,Fi kb hn1 hn (k.dk kb hn1) hr 0 0 k.st,hr⟩
section
open Go.ChangeShapes Go.WideShapes Go.ChangeAt Go.RowKit
theorem IF {w:World}: ∀{ts:List TV} {vs:List Value},ts.length=vs.length->(∀(j:Nat) t v,ts[j]?=some t->vs[j]?=some v->t.rel (fun _ _=>none) (fun _=>[]) (fun _=>False) w v)->
  ∀(j:Nat) t,ts[j]?=some t-> ∃v:Value,vs.toArray[j]?=some v/\t.rel (fun _ _=>none) (fun _=>[]) (fun _=>False) w v:=fun{ts vs} hl h j t hj=>by
 have hlt:=(List.getElem?_eq_some_iff.1 hj).1;obtain⟨v,hv⟩: ∃v,vs[j]?=some v:=⟨_,List.getElem?_eq_getElem (by omega)⟩;exact⟨v,by simpa using hv,h j t v hj hv⟩
end
section
theorem oy {a:Act} {d:Option Tmp} {k:Nat} (v:Value) (h:d≠some k):(a.put d v).tmps[k]?=a.tmps[k]?:=by
 cases d with
 |none=>rfl
 |some d=>
  have:d≠k:=fun e=>h (by rw[e])
  simp[Act.put,Array.getElem?_setIfInBounds_ne this]
def iR (k:Nat) (v0:Value) (w0:World) (O X:Nat->Prop) (s:AS) (a:Act) (w:World):Prop:=eW w0 O X s a w/\a.tmps[k]?=some v0
def dF (P:Program) (k:Nat) (c:Code) (Q:Exit->AS->Prop) (s:AS):Prop:=
 ∀(v0:Value) (w0:World) (O X:Nat->Prop) (a:Act) (w:World),iR k v0 w0 O X s a w->c.wp P (fun e a' w'=> ∃s',Q e s'/\iR k v0 w0 O X s' a' w') a w
def fE (k:Nat) (ops:Array Oper):Bool:=ops.toList.all fun o=>o.dst !=some k
section
variable {P:Program} {k:Nat} {s s':AS} {Q:Exit->AS->Prop}
theorem iR.weak {v0:Value} {w0 w:World} {O X:Nat->Prop} {a:Act} (h:bX s s') (r:iR k v0 w0 O X s a w):iR k v0 w0 O X s' a w:=⟨h _ _ _ _ _ r.1,r.2⟩
theorem dF.weak {c:Code} (h:bX s s') (r:dF P k c Q s'):dF P k c Q s:=fun _ _ _ _ _ _ q=>r _ _ _ _ _ _ (q.weak h)
theorem dF.mono {c:Code} {Q':Exit->AS->Prop} (h:dF P k c Q s) (q: ∀e s',Q e s'->Q' e s'):dF P k c Q' s:=fun _ _ _ _ _ _ r=>
 wp_mono (h _ _ _ _ _ _ r) fun _ _ _ ⟨s',h1,h2⟩=>⟨s',q _ _ h1,h2⟩
theorem d7 (h:Q .normal s):dF P k .skip Q s:=fun _ _ _ _ _ _ r=>wp_skip ⟨s,h,r⟩
theorem d6 {id:Nat} (h:Q (.exit id) s):dF P k (.exit id) Q s:=fun _ _ _ _ _ _ r=>wp_exit ⟨s,h,r⟩
theorem nN (h:Q .ret s):dF P k .ret Q s:=fun _ _ _ _ _ _ r=>wp_ret ⟨s,h,r⟩
theorem bI {x y:Code} (h:dF P k x (kw (dF P k y Q) Q) s):dF P k (.seq x y) Q s:=fun _ _ _ _ _ _ r=>
 wp_seq (wp_mono (h _ _ _ _ _ _ r) fun e a w ⟨s',h1,h2⟩=>by
  cases e with
  |normal=>exact h1 _ _ _ _ _ _ h2
  |_=>exact⟨s',h1,h2⟩)
theorem dC {id:Nat} {x:Code} (h:dF P k x (mw id Q) s):dF P k (.block id x) Q s:=fun _ _ _ _ _ _ r=>
 wp_block (wp_mono (h _ _ _ _ _ _ r) fun e a w ⟨s',h1,h2⟩=>by
  cases e with
  |exit id'=>
   simp only[mw]at h1;simp only[Exit.inBlock];split at h1
   ·rename_i hid;rw[if_pos hid];exact⟨s',h1,h2⟩
   rename_i hid;rw[if_neg hid];exact⟨s',h1,h2⟩
  |_=>exact⟨s',h1,h2⟩)
theorem tz {c:Operand} {x y:Code} {b:Bool} (hc:s.ev c=some (.raw (.bool b))) (ht:b=true->dF P k x Q s) (hf:b=false->dF P k y Q s):dF P k (.cond c x y) Q s:=fun _ _ _ _ _ _ r=>by
 obtain⟨h1,hsz,ρ,hinv,htm⟩:=id r.1;have hb:=(bF (b7 htm c _ hc)).1;exact wp_cond_split hb (fun h=>ht h _ _ _ _ _ _ r) (fun h=>hf h _ _ _ _ _ _ r)
theorem ic {c:Operand} {x y:Code} (hc:s.ev c=some (.raw (.bool true))) (h:dF P k x Q s):dF P k (.cond c x y) Q s:=tz hc (fun _=>h) (fun h=>by cases h)
theorem fJ {c:Operand} {x y:Code} (hc:s.ev c=some (.raw (.bool false))) (h:dF P k y Q s):dF P k (.cond c x y) Q s:=tz hc (fun h=>by cases h) (fun _=>h)
theorem rJ {c:Operand} {y z:Code} (hc:s.ev c=some (.raw (.bool true))) (h:dF P k z Q s):dF P k (.seq (.cond c .skip y) z) Q s:=bI (ic hc (d7 h))
theorem rI {c:Operand} {x z:Code} {id:Nat} (hc:s.ev c=some (.raw (.bool false))) (h:Q (.exit id) s):dF P k (.seq (.cond c x (.exit id)) z) Q s:=bI (fJ hc (d6 h))
theorem AZ {G:Type} (St:G->AS) (μ:G->Nat) (g0:G) {c:Code} (h0:bX s (St g0))
  (round: ∀g,dF P k c (kw (fun s'=> ∃g',μ g'<μ g/\bX s' (St g')) Q) (St g)):dF P k (.loop c) Q s:=fun v0 w0 O X a w r=>by
 classical
 let p:Act->World->Nat->Prop:=fun a w n=> ∃g,μ g=n/\iR k v0 w0 O X (St g) a w
 let m:Act->World->Nat:=fun a w=>if h: ∃n,p a w n then Classical.choose (a8 h)else 0
 refine wp_loop (fun a w=> ∃n,p a w n) m ⟨_,g0,rfl,r.weak h0⟩ ?_;intro a w hI;have hm:m a w=Classical.choose (a8 hI):=dif_pos hI;obtain⟨hp,hleast⟩:=Classical.choose_spec (a8 hI);rw[<- hm]at hp;obtain⟨g,hg,hr⟩:=hp;refine wp_mono (round g _ _ _ _ _ _ hr) fun e a' w' ⟨s',h1,h2⟩=>?_
 cases e with
 |normal=>
  obtain⟨g',hlt,hw⟩:=h1;have hr':=h2.weak hw;have hI': ∃n,p a' w' n:=⟨_,g',rfl,hr'⟩;refine⟨hI',?_⟩;have hm':m a' w'=Classical.choose (a8 hI'):=dif_pos hI';obtain⟨_,hl'⟩:=Classical.choose_spec (a8 hI');have:=hl' (μ g') ⟨g',rfl,hr'⟩;rw[hm'];omega
 |_=>exact⟨s',h1,h2⟩
theorem eH {G:Type} (St:G->AS) (μ:G->Nat) (g0:G) {id:Nat} {x:Code} (h0:bX s (St g0))
  (round: ∀g,dF P k x (kw (fun s'=> ∃g',μ g'<μ g/\bX s' (St g')) (mw id Q)) (St g)):dF P k (.block id (.loop x)) Q s:=
 dC (AZ St μ g0 h0 round)
theorem Dc {items:List (cH P)} (hI:eF P items) {ow:List Nat} {ops:Array Oper} {i:Nat} {v0:Value} {w0 w:World} {O X:Nat->Prop} {a:Act} (hrel:iR k v0 w0 O X s a w) {o:Oper} (hd:o.dst≠some k) (h:bJ P items ow ops i o s=some s') {K:Act->World->Prop} {Q:Exit->Act->World->Prop}
  (hK: ∀v w',iR k v0 w0 O X s' (a.put o.dst v) w'->K (a.put o.dst v) w'):if Region.wanted o (yielded ops a.tmps)then o.wp P a w K Q else K (a.put o.dst undef) w:=
 f9 hI hrel.1 h fun v w' hr=>hK v w' ⟨hr,by rw[oy v hd];exact hrel.2⟩
theorem lQ {ops:Array Oper} (h:fE k ops=true) {j:Nat} {o:Oper} (ho:ops[j]?=some o):o.dst≠some k:=by
 unfold fE at h;rw[ai]at h;have:=h o (au (by simpa using ho));simpa using this
theorem kW {items:List (cH P)} (hI:eF P items) {ow:List Nat} {ops:Array Oper} (hk:fE k ops=true) {v0:Value} {w0:World} {O X:Nat->Prop} {Q:Exit->Act->World->Prop}: ∀(l:List Oper) (n:Nat) (s s':AS) (a:Act) (w:World),(∀(j:Nat) o,l[j]?=some o->ops[n+j]?=some o)->
  fY P items ow ops (l.zipIdx n) s=some s'->iR k v0 w0 O X s a w->(∀a' w',iR k v0 w0 O X s' a' w'->Q .normal a' w')->wpOps P ops Q (List.range' n l.length) a w
 |[],n,s,s',a,w,_,h,r,hQ=>by
  simp only[List.zipIdx_nil,fY]at h;injection h with h
  subst h;exact hQ a w r
 |o::l,n,s,s',a,w,hl,h,r,hQ=>by
  simp only[List.zipIdx_cons,fY]at h;split at h
  ·rename_i s1 hs1;simp only[List.length_cons,List.range'_succ,wpOps];have ho:ops[n]?=some o:=by have:=hl 0 o rfl;simpa using this
   rw[ho];simp only;have:=Dc (Q:=Q) hI r (lQ hk ho) hs1 (K:=wpOps P ops Q (List.range' (n+1) l.length)) (fun v w' hr=>kW hI hk l (n+1) s1 s' _ _ (fun j o hj=>by have:=hl (j+1) o (by simpa using hj);rwa[show n+(j+1)=n+1+j by omega]at this) h hr hQ);split at this
   ·rename_i hw;rw[if_pos hw];exact .inl this
   rename_i hw;rw[if_neg hw];exact this
  cases h
theorem xC (items:List (aJ P)) (ow:List Nat) {id:Nat} {ops:Array Oper} (hk:fE k ops=true) (h:bW P (items.map aJ.a) ow (bo ops ops.toList 0) (some s) (Q .normal)):dF P k (.region id ops false) Q s:=fun v0 w0 O X a w r=>by
 obtain⟨s',h1,h2⟩:=bU P (items.map aJ.a) ow ops ops.toList 0 s (Q .normal) h;refine wp_region ?_;rw[List.range_eq_range'];have:=kW (aJ.ok items) hk (Q:=fun e a' w'=> ∃s',Q e s'/\iR k v0 w0 O X s' a' w') ops.toList 0 s s' a w (fun j o hj=>by simpa using hj) h1 r (fun a' w' hr=>⟨s',h2,hr⟩);simpa using this
theorem tA (hmx:P.follows .mixedOrders=true) (items:List (aJ P)) (ow:List Nat) {id:Nat} {ops:Array Oper} (hd:cy [] ops=true) (hk:fE k ops=true) (h:bW P (items.map aJ.a) ow (bo ops ops.toList 0) (some s) (Q .normal)):dF P k (.region id ops true) Q s:=fun v0 w0 O X a w r=>by
 obtain⟨sF,h1,h2⟩:=bU P (items.map aJ.a) ow ops ops.toList 0 s (Q .normal) h;refine wp_region_any hmx ?_;have hF:eQ P (items.map aJ.a) ow ops (List.range ops.size) s=some sF:=by
  rw[List.range_eq_range'];have:=ko (P:=P) (items:=items.map aJ.a) (ow:=ow) ops.toList 0 s (fun j o hj=>by simpa using hj);rw[h1]at this;simpa using this.symm
 have hr':iR k v0 w0 O X s a {w with drawn:=w.drawn+1}:=by
  obtain⟨⟨q1,q2,ρ,hinv,htm⟩,hs⟩:=r;have e:Ext w {w with drawn:=w.drawn+1}:=⟨rfl,rfl,rfl,ac _,fun _ _=>rfl⟩;have htm:bC X ρ s a w:=htm;exact⟨⟨q1,q2,ρ,hinv.grow e,htm.grow e⟩,hs⟩
 refine kF (sep:=[]) (oO hd (by simp)) hd (Q:=fun e a' w'=> ∃s',Q e s'/\iR k v0 w0 O X s' a' w') (fun _ s a w=>iR k v0 w0 O X s a w) ⟨jG r.1,fun x hx=>by simp at hx⟩ hF (fun p a w hall hr=>⟨sF,h2,hr⟩) (fun p i o s s1 a w K ho hpi hs hr hK=>?_) ops.size (Array.replicate ops.size false) s a _ (by simp) ?_ ?_ ?_ hr'
 ·exact Dc (aJ.ok items) hr (lQ hk ho) hs fun v w' hr'=>hK v w' hr'
 ·intro j o ho hp;have hj:j<ops.size:=(Array.getElem?_eq_some_iff.1 ho).1;simp[hj]at hp
 ·exact ay (List.length_filter_le _ _) (by simp)
 have:pS ops.size (fun j=>(Array.replicate ops.size false).getD j true)=[]:=by
  unfold pS;rw[List.filter_eq_nil_iff];intro j hj;have:=List.mem_range.1 hj;simp[this]
 rw[this];rfl
theorem A1 (items:List (aJ P)) (ow:List Nat) {id:Nat} {ops:Array Oper} {y:Code} (hk:fE k ops=true) (h: ∀K:AS->Prop,(∀s',dF P k y Q s'->K s')->bW P (items.map aJ.a) ow (bo ops ops.toList 0) (some s) K):dF P k (.seq (.region id ops false) y) Q s:=
 bI (xC items ow hk (h _ fun _ h=>h))
theorem A0 (items:List (aJ P)) (ow:List Nat) {id:Nat} {ops:Array Oper} (hk:fE k ops=true) (h: ∀K:AS->Prop,(∀s',Q .normal s'->K s')->bW P (items.map aJ.a) ow (bo ops ops.toList 0) (some s) K):dF P k (.region id ops false) Q s:=
 xC items ow hk (h _ fun _ h=>h)
theorem jZ (hmx:P.follows .mixedOrders=true) (items:List (aJ P)) (ow:List Nat) {id:Nat} {ops:Array Oper} {y:Code} (hd:cy [] ops=true) (hk:fE k ops=true) (h: ∀K:AS->Prop,(∀s',dF P k y Q s'->K s')->bW P (items.map aJ.a) ow (bo ops ops.toList 0) (some s) K):dF P k (.seq (.region id ops true) y) Q s:=
 bI (tA hmx items ow hd hk (h _ fun _ h=>h))
theorem yT (hmx:P.follows .mixedOrders=true) (items:List (aJ P)) (ow:List Nat) {id:Nat} {ops:Array Oper} (hd:cy [] ops=true) (hk:fE k ops=true) (h: ∀K:AS->Prop,(∀s',Q .normal s'->K s')->bW P (items.map aJ.a) ow (bo ops ops.toList 0) (some s) K):dF P k (.region id ops true) Q s:=
 tA hmx items ow hd hk (h _ fun _ h=>h)
theorem aG {y:Code} {id:Nat} {ops:Array Oper} (hk:fE k ops=true) (h: ∀K:AS->Prop,(∀s',dF P k y Q s'->K s')->bW P [] [] (bo ops ops.toList 0) (some s) K):dF P k (.seq (.region id ops false) y) Q s:=A1 [] [] hk h
theorem ch {id:Nat} {ops:Array Oper} (hk:fE k ops=true) (h: ∀K:AS->Prop,(∀s',Q .normal s'->K s')->bW P [] [] (bo ops ops.toList 0) (some s) K):dF P k (.region id ops false) Q s:=A0 [] [] hk h
theorem ef (hm:P.follows .mixedOrders=true) {y:Code} {id:Nat} {ops:Array Oper} (hd:cy [] ops=true) (hk:fE k ops=true) (h: ∀K:AS->Prop,(∀s',dF P k y Q s'->K s')->bW P [] [] (bo ops ops.toList 0) (some s) K):dF P k (.seq (.region id ops true) y) Q s:=jZ hm [] [] hd hk h
theorem vL (hm:P.follows .mixedOrders=true) {id:Nat} {ops:Array Oper} (hd:cy [] ops=true) (hk:fE k ops=true) (h: ∀K:AS->Prop,(∀s',Q .normal s'->K s')->bW P [] [] (bo ops ops.toList 0) (some s) K):dF P k (.region id ops true) Q s:=yT hm [] [] hd hk h
end
/-! The contract of a function that writes a row. -/
def rho1 (b c:Nat):Rho:=fun a r=>if a=0/\r=0 then some (b,c)else none
structure ni (P:Program) (f:FuncId) (args:List TV) (k off len:Nat) (o o':OObj) (r:TV):Prop where
 able:callable P f=true
 es:o'.es=o.es
 size:o'.elems.length=o.elems.length
 pure: ∀e∈o'.elems,∀x∈e,isPure x=true
 noref:noRefTV r=true
 calls: ∀(X:Nat->Prop) (w:World) (vs:Array Value) (b c:Nat),(∀j,X j->j<w.heap.size)-> ¬X b->objRel (rho1 b c) (famH 0 [o]) (fun j=>X j\/j=b) w 0 0 o->vs.size=args.length->
  vs[k]?=some (.slice (some ⟨b,off*o.es,none⟩) len (c-off))->(∀(j:Nat) t,j≠k->args[j]?=some t-> ∃v:Value,vs[j]?=some v/\t.rel (fun _ _=>none) (fun _=>[]) (fun j=>X j\/j=b) w v)->
  Calls P f vs w fun e w'=> ∃v,e= .returned v/\But b w w'/\objRel (rho1 b c) (famH 0 [o']) (fun j=>X j\/j=b) w' 0 0 o'/\r.rel (rho1 b c) (famH 0 [o']) (fun j=>X j\/j=b) w' v
theorem J3 {X:Nat->Prop} {b c:Nat} {o:OObj}:Xo X (rho1 b c) (famH 0 [o])=fun j=>X j\/j=b:=by
 funext j;apply propext;constructor
 ·rintro(h|⟨a,r,o',c',h1,h2⟩)
  ·exact .inl h
  unfold rho1 at h2;split at h2
  ·injection h2 with h2;injection h2 with h2 h3;exact .inr h2.symm
  cases h2
 rintro(h|rfl)
 ·exact .inl h
 exact .inr ⟨0,0,o,c,rfl,by simp[rho1]⟩
theorem nH {a r:Nat} {o o':OObj} (h:(famH 0 [o] a)[r]?=some o'):a=0/\r=0/\o'=o:=by
 unfold famH at h;split at h
 ·rename_i ha;cases r with
  |zero=>simp at h;exact⟨ha,rfl,h.symm⟩
  |succ r=>simp at h
 simp at h
theorem jM {ρ ρ':Rho} {H H':OH} {Y:Nat->Prop} {w:World} {a r a' r':Nat} {o:OObj} (hp: ∀e∈o.elems,∀x∈e,isPure x=true) (h:objRel ρ H Y w a r o) (hρ:ρ' a' r'=ρ a r):objRel ρ' H' Y w a' r' o:=by
 obtain⟨h1,h2,h3⟩:=h;refine⟨h1,h2,?_⟩;rw[hρ];cases hr:ρ a r with
 |none=>rw[hr]at h3;exact h3
 |some bc=>
  obtain⟨b,c⟩:=bc;rw[hr]at h3;obtain⟨cells,g1,g2,g3,g4,g5⟩:=h3;refine⟨cells,g1,g2,g3,g4,fun i e j x he hx=>?_⟩;obtain⟨v,v1,v2,v3⟩:=g5 i e j x he hx;refine⟨v,v1,v2,?_⟩;have:=hp e (au he) x (au hx);cases x with
  |p x=>exact v3
  |_=>cases this
theorem mO {ρ ρ':Rho} {H H':OH} {Y:Nat->Prop} {w:World} {r:TV} {v:Value} (hn:noRefTV r=true) (h:r.rel ρ H Y w v):r.rel ρ' H' Y w v:=by
 have av: ∀x u,dI x=true->AV.rel ρ H Y w x u->AV.rel ρ' H' Y w x u:=fun x u hx hu=>by
  cases x with
  |p x=>exact hu
  |junk=>trivial
  |_=>cases hx
 have agg: ∀cs v,cs.all dI=true->bv ρ H Y w cs v->bv ρ' H' Y w cs v:=fun cs v hc ⟨vs,g1,g2,g3⟩=>by
  simp only[ai]at hc;exact⟨vs,g1,g2,fun j x hx=>by obtain⟨u,u1,u2,u3⟩:=g3 j x hx;exact⟨u,u1,u2,av x u (hc x (au hx)) u3⟩⟩
 cases r with
 |one x=>exact av x v hn h
 |agg cs=>exact agg cs v hn h
 |fn f cs=>obtain⟨u,h1,h2⟩:=h;exact⟨u,agg cs u hn h1,h2⟩
 |tup ts=>
  simp only[noRefTV,ai]at hn;obtain⟨vs,g1,g2,g3⟩:=h;refine⟨vs,g1,g2,fun j c cs hj=>?_⟩;obtain⟨u,u1,u2⟩:=g3 j c cs hj;have hall:=hn (c,cs) (au hj);refine⟨u,u1,?_⟩;rcases u2 with⟨u2,u3⟩|⟨u2,x,rfl,u4⟩
  ·exact .inl ⟨u2,agg _ _ (List.all_eq_true.2 hall) u3⟩
  exact .inr ⟨u2,x,rfl,av x u (hall x (by simp)) u4⟩
def Jo (P:Program) (fn:Func) (k off len:Nat) (o':OObj) (r:TV) (s:AS):Prop:=
 s.tmps[k]?=some (.one (.sl 0 0 off len))/\s.H=famH 0 [o']/\nK P s fn.results.toList=some r
theorem oG {P:Program} {f:FuncId} {fn:Func} {c:Code} {args:List TV} {k off len:Nat} {o o':OObj} {r:TV} (hf:P.funcs[f]?=some fn) (hb:fn.body=some c) (hn:callable P f=true) (hk:k<args.length) (hlen:0<len) (hol:off+len<=o.elems.length) (hop: ∀e∈o.elems,∀x∈e,isPure x=true)
  (he:o'.es=o.es) (hs:o'.elems.length=o.elems.length) (hp: ∀e∈o'.elems,∀x∈e,isPure x=true) (hr:noRefTV r=true)
  (h:dF P k c (fun e s=>(e= .normal\/e= .ret)/\ ∃s',bX s s'/\Jo P fn k off len o' r s') ⟨args.set k (.one (.sl 0 0 off len))++ae (fn.ntmps-args.length) .undef,famH 0 [o]⟩):ni P f args k off len o o' r:=by
 refine⟨hn,he,hs,hp,hr,fun X w vs b cc hX hXb hobj hvs hvk hargs=>?_⟩;refine calls_of_wp hf hb ?_;have hXo:=J3 (X:=X) (b:=b) (c:=cc) (o:=o);have hblt:b<w.heap.size:=by
  obtain⟨_,_,q⟩:=hobj;simp only[rho1,and_self,if_true]at q;obtain⟨cells,q1,_⟩:=q;exact(Array.getElem?_eq_some_iff.1 q1).1
 have hlc:len<=cc-off:=by
  obtain⟨_,_,q⟩:=hobj;simp only[rho1,and_self,if_true]at q;obtain⟨cells,_,_,q3,_⟩:=q;omega
 have hrel:iR k (.slice (some ⟨b,off*o.es,none⟩) len (cc-off)) w (fun j=>j=b) X ⟨args.set k (.one (.sl 0 0 off len))++ae (fn.ntmps-args.length) .undef,famH 0 [o]⟩ {tmps:=vs++Array.replicate (fn.ntmps-vs.size) undef,defers:=[]} w:=by
  refine⟨⟨rfl,by simp[hvs],rho1 b cc,⟨Keep.refl w,fun a r o1 ho=>?_,fun a r a' r' o1 o2 b1 c1 c2 ho ho' _ _=>?_,fun a r o1 b1 c1 ho h1=>?_,hX,fun a r o1 ho=>?_⟩,fun t x hx=>?_⟩,?_⟩
  ·obtain⟨rfl,rfl,rfl⟩:=nH ho;show objRel _ _ (Xo X (rho1 b cc) (famH 0 [o1])) w 0 0 o1;rw[hXo];exact hobj
  ·obtain⟨rfl,rfl,_⟩:=nH ho;obtain⟨rfl,rfl,_⟩:=nH ho';exact⟨rfl,rfl⟩
  ·obtain⟨rfl,rfl,_⟩:=nH ho;simp only[rho1,and_self,if_true]at h1;injection h1 with h1
   injection h1 with h1 h2
   subst h1;exact⟨.inr rfl,hXb⟩
  ·obtain⟨rfl,rfl,rfl⟩:=nH ho;exact cf hop
  ·show ∃v:Value,_/\x.rel (rho1 b cc) (famH 0 [o]) (Xo X (rho1 b cc) (famH 0 [o])) w v;rw[hXo];by_cases ht:t<args.length
   ·rw[ao (by simpa using ht)]at hx;by_cases htk:t=k
    ·subst htk;rw[List.getElem?_set_self ht]at hx;injection hx with hx
     subst hx;exact⟨_,by rw[Array.getElem?_append_left (by omega)];exact hvk,o,rfl,hol,.inr ⟨b,cc,cc-off,by simp[rho1],rfl,hlc,fun _=>rfl⟩⟩
    rw[List.getElem?_set_ne (Ne.symm htk)]at hx;obtain⟨v,v1,v2⟩:=hargs t x htk hx;refine⟨v,by rw[Array.getElem?_append_left (by omega)];exact v1,TV.rel_map v2 (fun y u hy=>?_)⟩;cases y with
    |p y=>exact hy
    |sl a r off len=>obtain⟨o,h1,_⟩:=hy;simp at h1
    |ptr a r i j=>obtain⟨o,_,_,h1,_⟩:=hy;simp at h1
    |junk=>trivial
   rw[ap (by simp;omega),List.getElem?_replicate]at hx;split at hx
   ·rename_i hlt;injection hx with hx
    subst hx;refine⟨undef,?_,fg⟩;simp at hlt;rw[Array.getElem?_append_right (by omega),Array.getElem?_replicate,if_pos (by omega)]
   cases hx
  show(vs++_)[k]?=_;rw[Array.getElem?_append_left (by omega)];exact hvk
 refine wp_mono (h _ _ _ _ _ _ hrel) fun e a' w' ⟨s1,⟨hee,s2,hw,hW1,hW2,hW3⟩,hrel1⟩=>?_
 obtain⟨⟨h1,hsz,ρ,hinv,htm⟩,hslot⟩:=hrel1.weak hw;have htm:bC X ρ s2 a' w':=htm;rw[hW2]at hinv;obtain⟨v,v1,v2⟩:=jf (by rw[hW2];exact hinv) htm hW3;rw[hW2]at v2
 -- the row has not moved
 obtain⟨u,u1,u2⟩:=htm k _ hW1;rw[hslot]at u1;injection u1 with u1
 subst u1;obtain⟨o2,g1,g2,g3⟩:=u2;rw[hW2]at g1;obtain⟨_,_,rfl⟩:=nH g1;have hρ:ρ 0 0=some (b,cc):=by
  rcases g3 with⟨_,g4,_,_⟩|⟨b',c',cap,g4,g5,_,g9⟩
  ·cases g4
  have g9:=g9 (by decide);injection g5 with g5 g6 g7
  injection g5 with g5
  injection g5 with g5 g8
  subst g5;have hobj2:=hinv.objs 0 0 o2 rfl;obtain⟨q1,q2,q3⟩:=hobj2;rw[g4]at q3;obtain⟨cells,q4,q5,q6,_⟩:=q3;obtain⟨p1,p2,p3⟩:=hobj;simp only[rho1,and_self,if_true]at p3;obtain⟨cells',p4,p5,p6,_⟩:=p3;rw[g4,show c'=cc by omega]
 have hXo2:Xo X ρ (famH 0 [o2])=fun j=>X j\/j=b:=by
  funext j;apply propext;constructor
  ·rintro(h|⟨a,r,o3,c',h1,h2⟩)
   ·exact .inl h
   obtain⟨rfl,rfl,_⟩:=nH h1;rw[hρ]at h2;injection h2 with h2;injection h2 with h2 h3;exact .inr h2.symm
  rintro(h|rfl)
  ·exact .inl h
  exact .inr ⟨0,0,o2,cc,rfl,hρ⟩
 have hob:=hinv.objs 0 0 o2 rfl;rw[hXo2]at hob;rw[hXo2]at v2;have hbut:But b w w':=⟨hinv.keep.os,hinv.keep.tape,hinv.keep.output,hinv.keep.size,fun j hj hne=>hinv.keep.block j hj hne⟩;have hob1:objRel (rho1 b cc) (famH 0 [o2]) (fun j=>X j\/j=b) w' 0 0 o2:=by
  refine jM hp hob (by rw[hρ];simp[rho1])
 have hv1:r.rel (rho1 b cc) (famH 0 [o2]) (fun j=>X j\/j=b) w' v:=mO hr v2;rcases hee with rfl|rfl
 ·exact⟨h1,v,v1,v,rfl,hbut,hob1,hv1⟩
 exact⟨h1,v,v1,v,rfl,hbut,hob1,hv1⟩
end
end Go.Proofs.YtfgeomlagfomgaaDoor
