/-
  Part 14 of a proof (walks and plain facts).
-/
import Derived.Test.YtpgghglbpcabkaaGreatQ12
import Derived.Lib.SliceRun
set_option linter.all false
set_option maxRecDepth 100000
set_option maxHeartbeats 64000000
namespace Go.Proofs.YtpgghglbpcabkaaGreat
open Go.RowKit
section
theorem dy.later {Y Y':Nat->Prop} {w w':World} (hY: ∀b,b<w.heap.size->Y' b->Y b) (hs:w.heap.size<=w'.heap.size) (hc: ∀p v,p.block<w.heap.size-> ¬Y p.block->w.cell? p=some v->w'.cell? p=some v) {x:PV} {v:Value} (h:dy Y w x v):dy Y' w' x v:=by
 induction h with
 |raw v h=>exact .raw v h
 |nil a c=>exact .nil a c
 |sl b off es cap xs f hX hb hes hcap hm hcc hr ih=>exact .sl b off es cap xs f (fun h=>hX (hY _ hb h)) (Nat.lt_of_lt_of_le hb hs) hes hcap hm (fun i e j x h1 h2=>hc ⟨b,_,none⟩ _ hb hX (hcc i e j x h1 h2)) ih
 |ptr b off cs f hX hb hcc hr ih=>exact .ptr b off cs f (fun h=>hX (hY _ hb h)) (Nat.lt_of_lt_of_le hb hs) (fun j x h1=>hc ⟨b,_,none⟩ _ hb hX (hcc j x h1)) ih
theorem uk {w w':World} {p:Addr} (h:w'.heap[p.block]?=w.heap[p.block]?):w'.cell? p=w.cell? p:=by unfold World.cell?;rw[h]
def m0 (b:Nat) (ty:TypeId) (cs:List PV) (Y:Nat->Prop) (w:World):Prop:=
 ∃(cells:Array Value) (c:Nat),w.heap[b]?=some (.cells cells ty (0,0))/\cells.size=c*cs.length/\1<=c/\c<=9223372036854775807/\0<cs.length/\
  ∀(j:Nat) x,cs[j]?=some x-> ∃v:Value,cells[j]?=some v/\v.oneCell'=true/\dy Y w x v
theorem m0.later {b:Nat} {ty:TypeId} {cs:List PV} {Y Y':Nat->Prop} {w w':World} (hY: ∀j,j<w.heap.size->Y' j->Y j) (hs:w.heap.size<=w'.heap.size) (hb:w'.heap[b]?=w.heap[b]?) (hc: ∀j,j<w.heap.size-> ¬Y j->w'.heap[j]?=w.heap[j]?)
  (h:m0 b ty cs Y w):m0 b ty cs Y' w':=by
 obtain⟨cells,c,h1,h2,h3,h4,h5,h6⟩:=h
 refine⟨cells,c,by rw[hb];exact h1,h2,h3,h4,h5,fun j x hx=>?_⟩
 obtain⟨v,v1,v2,v3⟩:=h6 j x hx
 exact⟨v,v1,v2,v3.later hY hs fun p u hp hn hu=>by rw[uk (hc p.block hp hn)];exact hu⟩
theorem m0.weaken {b:Nat} {ty:TypeId} {cs:List PV} {Y Y':Nat->Prop} {w:World} (hY: ∀j,j<w.heap.size->Y' j->Y j) (h:m0 b ty cs Y w):m0 b ty cs Y' w:=
 h.later hY (Nat.le_refl _) rfl fun _ _ _=>rfl
section
variable {P:Program} {b:Nat} {ty:TypeId} {cs cs':List PV} {w0 w:World} {O X:Nat->Prop} {s s':AS} {a:Act}
def gG (b:Nat) (ty:TypeId) (w0:World) (O X:Nat->Prop) (s:AS) (cs:List PV) (a:Act) (w:World):Prop:=
 a.defers=[]/\a.tmps.size=s.tmps.length/\ ∃ρ,i7 w0 O X s.H ρ w/\di X ρ s a w/\O b/\X b/\m0 b ty cs (Xo X ρ s.H) w
theorem gG.rel (h:gG b ty w0 O X s cs a w):ik w0 O X s a w:=by
 obtain⟨h1,h2,ρ,h3,h4,_⟩:=h
 exact⟨h1,h2,ρ,h3,h4⟩
theorem gG.rebase (h:gG b ty w0 O X s cs a w): ∃Own:Nat->Prop,ik w Own X s a w/\ ∀s1 a1 w1,ik w Own X s1 a1 w1->gG b ty w0 O X s1 cs a1 w1:=by
 obtain⟨h1,hsz,ρ,hinv,htm,hO,hX,hbox⟩:=h
 refine⟨fun j=> ∃(x r:Nat) (o:OObj) (c:Nat),(s.H x)[r]?=some o/\ρ x r=some (j,c),⟨h1,hsz,ρ,⟨Keep.refl w,hinv.objs,hinv.inj,fun x r o j c ho hj=>⟨.inr ⟨x,r,o,c,ho,hj⟩,(hinv.old x r o j c ho hj).2⟩,hinv.bar,hinv.self⟩,htm⟩,?_⟩
 rintro s1 a1 w1 ⟨k1,ksz,ρ1,kinv,ktm⟩
 have hown: ∀j,(∃(x r:Nat) (o:OObj) (c:Nat),(s.H x)[r]?=some o/\ρ x r=some (j,c))->(w0.heap.size<=j\/O j)/\ ¬X j:=fun j ⟨x,r,o,c,g1,g2⟩=>hinv.old x r o j c g1 g2
 refine⟨k1,ksz,ρ1,⟨⟨kinv.keep.os.trans hinv.keep.os,kinv.keep.tape.trans hinv.keep.tape,kinv.keep.output.trans hinv.keep.output,Nat.le_trans hinv.keep.size kinv.keep.size,fun j hj hn=>?_⟩,kinv.objs,kinv.inj,fun x r o j c ho hj=>?_,kinv.bar,kinv.self⟩,ktm,hO,hX,?_⟩
 ·rw[kinv.keep.block j (Nat.lt_of_lt_of_le hj hinv.keep.size) (fun hh=>by
   rcases(hown j hh).1 with h|h
   ·omega
   ·exact hn h)]
  exact hinv.keep.block j hj hn
 ·obtain⟨g1,g2⟩:=kinv.old x r o j c ho hj
  refine⟨?_,g2⟩
  rcases g1 with g|g
  ·exact .inl (Nat.le_trans hinv.keep.size g)
  ·exact(hown j g).1
 ·refine hbox.later (fun j hj hh=>?_) kinv.keep.size (kinv.keep.block b (hinv.bar b hX) (fun hh=>(hown b hh).2 hX)) (fun j hj hn=>kinv.keep.block j hj (fun hh=>hn (.inr hh)))
  rcases hh with hh|⟨x,r,o,c,g1,g2⟩
  ·exact .inl hh
  ·rcases(kinv.old x r o j c g1 g2).1 with g|g
   ·omega
   ·exact .inr g
def f9 (P:Program) (b:Nat) (ty:TypeId) (c:Code) (Q:Exit->AS->List PV->Prop) (s:AS) (cs:List PV):Prop:=
 ∀(w0:World) (O X:Nat->Prop) (a:Act) (w:World),gG b ty w0 O X s cs a w->c.wp P (fun e a' w'=> ∃s' cs',Q e s' cs'/\gG b ty w0 O X s' cs' a' w') a w
def yr (next:AS->List PV->Prop) (Q:Exit->AS->List PV->Prop):Exit->AS->List PV->Prop
 | .normal,s,k=>next s k
 |e,s,k=>Q e s k
def yY (id:Nat) (Q:Exit->AS->List PV->Prop):Exit->AS->List PV->Prop
 | .exit id',s,k=>if id'=id then Q .normal s k else Q (.exit id') s k
 |e,s,k=>Q e s k
variable {Q:Exit->AS->List PV->Prop}
theorem yQ {c:Code} (h:bT P c (fun e s'=>Q e s' cs) s):f9 P b ty c Q s cs:=fun w0 O X a w r=>by
 obtain⟨Own,h1,h2⟩:=r.rebase
 exact wp_mono (h _ _ _ _ _ h1) fun e a' w' ⟨s',g1,g2⟩=>⟨s',cs,g1,h2 _ _ _ g2⟩
theorem f9.weak {c:Code} (h:dG s s') (k:f9 P b ty c Q s' cs):f9 P b ty c Q s cs:=fun _ _ _ _ _ r=>by
 obtain⟨Own,h1,h2⟩:=r.rebase
 exact k _ _ _ _ _ (h2 _ _ _ (h _ _ _ _ _ h1))
theorem gG.weak (h:dG s s') (r:gG b ty w0 O X s cs a w):gG b ty w0 O X s' cs a w:=by
 obtain⟨Own,h1,h2⟩:=r.rebase
 exact h2 _ _ _ (h _ _ _ _ _ h1)
theorem f9.mono {c:Code} {Q':Exit->AS->List PV->Prop} (h:f9 P b ty c Q s cs) (k: ∀e s' cs',Q e s' cs'->Q' e s' cs'):f9 P b ty c Q' s cs:=fun _ _ _ _ _ r=>
 wp_mono (h _ _ _ _ _ r) fun _ _ _ ⟨s',cs',h1,h2⟩=>⟨s',cs',k _ _ _ h1,h2⟩
theorem g9 (h:Q .normal s cs):f9 P b ty .skip Q s cs:=fun _ _ _ _ _ r=>wp_skip ⟨s,cs,h,r⟩
theorem oy {id:Nat} (h:Q (.exit id) s cs):f9 P b ty (.exit id) Q s cs:=fun _ _ _ _ _ r=>wp_exit ⟨s,cs,h,r⟩
theorem oA (h:Q .ret s cs):f9 P b ty .ret Q s cs:=fun _ _ _ _ _ r=>wp_ret ⟨s,cs,h,r⟩
theorem dz {x y:Code} (h:f9 P b ty x (yr (f9 P b ty y Q) Q) s cs):f9 P b ty (.seq x y) Q s cs:=fun _ _ _ _ _ r=>
 wp_seq (wp_mono (h _ _ _ _ _ r) fun e a w ⟨s',cs',h1,h2⟩=>by
  cases e with
  |normal=>exact h1 _ _ _ _ _ h2
  |_=>exact⟨s',cs',h1,h2⟩)
theorem d9 {id:Nat} {x:Code} (h:f9 P b ty x (yY id Q) s cs):f9 P b ty (.block id x) Q s cs:=fun _ _ _ _ _ r=>
 wp_block (wp_mono (h _ _ _ _ _ r) fun e a w ⟨s',cs',h1,h2⟩=>by
  cases e with
  |exit id'=>
   simp only[yY]at h1
   simp only[Exit.inBlock]
   split at h1
   ·rename_i hid;rw[if_pos hid];exact⟨s',cs',h1,h2⟩
   ·rename_i hid;rw[if_neg hid];exact⟨s',cs',h1,h2⟩
  |_=>exact⟨s',cs',h1,h2⟩)
theorem bV {c:Operand} {x y:Code} {v:Bool} (hc:s.ev c=some (.raw (.bool v))) (ht:v=true->f9 P b ty x Q s cs) (hf:v=false->f9 P b ty y Q s cs):f9 P b ty (.cond c x y) Q s cs:=fun _ _ _ _ _ r=>by
 obtain⟨h1,hsz,ρ,hinv,htm,_⟩:=id r
 have hb:=(dM (ew htm c _ hc)).1
 exact wp_cond_split hb (fun h=>ht h _ _ _ _ _ r) (fun h=>hf h _ _ _ _ _ r)
theorem DI {G:Type} (St:G->AS) (Sc:G->List PV) (μ:G->Nat) (g0:G) {c:Code} (h0:dG s (St g0)) (h0':Sc g0=cs)
  (round: ∀g,f9 P b ty c (yr (fun s' cs'=> ∃g',μ g'<μ g/\dG s' (St g')/\Sc g'=cs') Q) (St g) (Sc g)):f9 P b ty (.loop c) Q s cs:=fun w0 O X a w r=>by
 classical
 subst h0'
 let p:Act->World->Nat->Prop:=fun a w n=> ∃g,μ g=n/\gG b ty w0 O X (St g) (Sc g) a w
 let m:Act->World->Nat:=fun a w=>if h: ∃n,p a w n then Classical.choose (dj h)else 0
 refine wp_loop (fun a w=> ∃n,p a w n) m ⟨_,g0,rfl,r.weak h0⟩ ?_
 intro a w hI
 have hm:m a w=Classical.choose (dj hI):=dif_pos hI
 obtain⟨hp,hleast⟩:=Classical.choose_spec (dj hI)
 rw[<- hm]at hp
 obtain⟨g,hg,hr⟩:=hp
 refine wp_mono (round g _ _ _ _ _ hr) fun e a' w' ⟨s',cs',h1,h2⟩=>?_
 cases e with
 |normal=>
  obtain⟨g',hlt,hw,hcs⟩:=h1
  subst hcs
  have hr':=h2.weak hw
  have hI': ∃n,p a' w' n:=⟨_,g',rfl,hr'⟩
  refine⟨hI',?_⟩
  have hm':m a' w'=Classical.choose (dj hI'):=dif_pos hI'
  obtain⟨_,hl'⟩:=Classical.choose_spec (dj hI')
  have:=hl' (μ g') ⟨g',rfl,hr'⟩
  rw[hm']
  omega
 |_=>exact⟨s',cs',h1,h2⟩
theorem oz {G:Type} (St:G->AS) (Sc:G->List PV) (μ:G->Nat) (g0:G) {id:Nat} {x:Code} (h0:dG s (St g0)) (h0':Sc g0=cs)
  (round: ∀g,f9 P b ty x (yr (fun s' cs'=> ∃g',μ g'<μ g/\dG s' (St g')/\Sc g'=cs') (yY id Q)) (St g) (Sc g)):f9 P b ty (.block id (.loop x)) Q s cs:=
 d9 (DI St Sc μ g0 h0 h0' round)
/-! Regions without lent calls. -/
theorem bI {y:Code} (items:List (ar P)) (ow:List Nat) {id:Nat} {ops:Array Oper} (hl:s.tmps.length<=1000000) (h: ∀K:AS->Prop,(∀s',f9 P b ty y Q s' cs->K s')->eE P (items.map ar.a) ow (dC ops ops.toList 0) (some s) K):f9 P b ty (.seq (.region id ops false) y) Q s cs:=
 dz (yQ (qU items ow hl (h _ fun _ h=>h)))
theorem fH (items:List (ar P)) (ow:List Nat) {id:Nat} {ops:Array Oper} (hl:s.tmps.length<=1000000) (h: ∀K:AS->Prop,(∀s',Q .normal s' cs->K s')->eE P (items.map ar.a) ow (dC ops ops.toList 0) (some s) K):f9 P b ty (.region id ops false) Q s cs:=
 yQ (qU items ow hl (h _ fun _ h=>h))
theorem mD (hm:P.follows .mixedOrders=true) (items:List (ar P)) (ow:List Nat) {id:Nat} {ops:Array Oper} (hd:fV [] ops=true) (hl:s.tmps.length<=1000000) (h: ∀K:AS->Prop,(∀s',Q .normal s' cs->K s')->eE P (items.map ar.a) ow (dC ops ops.toList 0) (some s) K):f9 P b ty (.region id ops true) Q s cs:=
 yQ (mC hm items ow hd (by simp) (fun x hx=>by simp at hx) hl (h _ fun _ h=>h))
end
def gZ (P:Program) (b:Nat) (ty:TypeId) (f:FuncId) (args:List TV) (cs:List PV) (res:CallRes) (cs':List PV):Prop:=
 callable P f=true/\ ∀(X:Nat->Prop) (w:World) (vs:Array Value),(∀j,X j->j<w.heap.size)->X b->m0 b ty cs X w->vs.size=args.length->
  (∀(j:Nat) t,args[j]?=some t-> ∃v:Value,vs[j]?=some v/\t.rel (fun _ _=>none) (fun _=>[]) X w v)->
  Calls P f vs w fun e w'=> ∃v,e= .returned v/\ ∃ρ:gm,i7 w (fun j=>j=b) X (famH 0 res.fam) ρ w'/\res.r.rel ρ (famH 0 res.fam) (Xo X ρ (famH 0 res.fam)) w' v/\m0 b ty cs' (Xo X ρ (famH 0 res.fam)) w'
section
variable {P:Program} {b:Nat} {ty:TypeId} {cs cs':List PV} {w0 w:World} {O X:Nat->Prop} {ρ:gm} {s:AS} {a:Act}
theorem EH {it:eQ P} {d:Nat} (h1:a.defers=[]) (hsz:a.tmps.size=s.tmps.length) (hinv:i7 w0 O X s.H ρ w) (htm:di X ρ s a w) (hO:O b) (hX:X b) {t:TV} {F:List OObj} (ht:aG d it.res.r=t) (hF:it.res.fam.map (dm d)=F) (hd:F≠[]->s.H d=[])
  {v:Value} {w1:World} {ρc:gm} (hi:i7 w (fun j=>j=b) (Xo X ρ s.H) (famH 0 it.res.fam) ρc w1) (hr:it.res.r.rel ρc (famH 0 it.res.fam) (Xo (Xo X ρ s.H) ρc (famH 0 it.res.fam)) w1 v)
  (hbox:m0 b ty cs' (Xo (Xo X ρ s.H) ρc (famH 0 it.res.fam)) w1):gG b ty w0 O X (jB s d t F) cs' (a.put (some d) v) w1:=by
 have hbut:But b w w1:=⟨hi.keep.os,hi.keep.tape,hi.keep.output,hi.keep.size,fun k hk hne=>hi.keep.block k hk hne⟩
 have hnb: ∀(x r:Nat) o b' c,(s.H x)[r]?=some o->ρ x r=some (b',c)->w1.heap[b']?=w.heap[b']?:=fun x r o b' c ho hb'=>hbut.block b' (dB (hinv.objs x r o ho) hb') (by rintro rfl;exact(hinv.old x r o b' c ho hb').2 hX)
 by_cases hfam:it.res.fam=[]
 ·rw[hfam]at hi hr hbox
  have hF0:F=[]:=by rw[<- hF,hfam];rfl
  subst hF0
  have mono: ∀x u,AV.rel ρ s.H (Xo X ρ s.H) w x u->AV.rel ρ s.H (Xo X ρ s.H) w1 x u:=fun x u hx=>kd (.inl hX) hbut (fun a r o ho=>⟨o,ho,rfl,Nat.le_refl _,rfl⟩) (fun a r o b' c ho hb _=> .inr ⟨a,r,o,c,ho,hb⟩) hx
  have hinv':i7 w0 O X s.H ρ w1:=⟨hinv.keep.but hbut (.inr hO),fun x r o ho=>fk (hinv.objs x r o ho) rfl (fun b' c hb'=>hnb x r o b' c ho hb') mono,hinv.inj,hinv.old,fun j hj=>Nat.lt_of_lt_of_le (hinv.bar j hj) hbut.size,hinv.self⟩
  have htm':di X ρ s a w1:=fun k x hx=>by
   obtain⟨u,g1,g2⟩:=htm k x hx
   exact⟨u,g1,TV.rel_map g2 mono⟩
  have hv:t.rel ρ s.H (Xo X ρ s.H) w1 v:=by
   rw[<- ht]
   exact mT hr (fun x u hx=>rc (fun r o' ho'=>by simp at ho') (fun j _ hj=> .inl hj) hx)
  show gG b ty w0 O X (s.put (some d) t) cs' _ _
  refine⟨by rw[jx];exact h1,by rw[mb,fp];exact hsz,ρ,by rw[jw];exact hinv',sP hsz htm' hv,hO,hX,?_⟩
  rw[jw]
  exact hbox.weaken fun j _ hj=> .inl hj
 ·have hF0:F≠[]:=by rw[<- hF];simpa using hfam
  have hd0:=hd hF0
  have hres:jB s d t F=AS.put ⟨s.tmps,aJ s.H d F⟩ (some d) t:=by
   unfold jB
   rw[if_neg (by simpa using hF0)]
  rw[hres]
  let f:Nat->Option (Nat×Nat):=fun r=>if r<it.res.fam.length then ρc 0 r else none
  have hff: ∀r j n,f r=some (j,n)->(∃o',it.res.fam[r]?=some o')/\ρc 0 r=some (j,n):=fun r j n h=>by
   simp only[f]at h
   split at h
   ·rename_i hlt;exact⟨⟨_,List.getElem?_eq_getElem hlt⟩,h⟩
   ·cases h
  have hnew: ∀(r j n:Nat),f r=some (j,n)->w.heap.size<=j:=fun r j n h=>by
   obtain⟨⟨o',ho'⟩,g⟩:=hff r j n h
   have:=hi.old 0 r o' j n (by simpa[famH] using ho') g
   rcases this.1 with h|h
   ·exact h
   ·exact absurd (h▸ .inl hX) this.2
  have hXo: ∀j,Xo X (newρ ρ d f) (aJ s.H d F) j->Xo (Xo X ρ s.H) ρc (famH 0 it.res.fam) j:=fun j hj=>by
   rcases hj with hj|⟨x',y',o',n,g1,g2⟩
   ·exact .inl (.inl hj)
   ·by_cases hxd:x'=d
    ·subst hxd
     rw[newρ_eq]at g2
     obtain⟨⟨o2,ho2⟩,g3⟩:=hff y' j n g2
     exact .inr ⟨0,y',o2,n,by simpa[famH] using ho2,g3⟩
    ·rw[bO hxd]at g1
     rw[newρ_ne hxd]at g2
     exact .inl (.inr ⟨x',y',o',n,g1,g2⟩)
  have mono: ∀x u,AV.rel ρ s.H (Xo X ρ s.H) w x u->AV.rel (newρ ρ d f) (aJ s.H d F) (Xo X (newρ ρ d f) (aJ s.H d F)) w1 x u:=fun x u hx=>by
   refine kd (.inl hX) hbut (fun x r o ho=>?_) (fun x r o b' c ho hb hlt=>?_) hx
   ·have hxd:x≠d:=by rintro rfl;rw[hd0]at ho;simp at ho
    exact⟨o,by rw[bO hxd];exact ho,rfl,Nat.le_refl _,newρ_ne hxd r⟩
   ·by_cases hxd:x=d
    ·subst hxd
     rw[newρ_eq]at hb
     have:=hnew r b' c hb
     omega
    ·rw[bO hxd]at ho
     rw[newρ_ne hxd]at hb
     exact .inr ⟨x,r,o,c,ho,hb⟩
  have hmap: ∀x u,AV.rel ρc (famH 0 it.res.fam) (Xo (Xo X ρ s.H) ρc (famH 0 it.res.fam)) w1 x u->AV.rel (newρ ρ d f) (aJ s.H d F) (Xo X (newρ ρ d f) (aJ s.H d F)) w1 (aE d x) u:=fun x u hx=>by
   refine rc (fun r o' ho'=>?_) (fun j _ hj=>hXo j hj) hx
   rw[cz,newρ_eq]
   simp only[f]
   rw[if_pos (List.getElem?_eq_some_iff.1 ho').1,<- hF,List.getElem?_map,ho']
   exact⟨rfl,rfl⟩
  have hinv':i7 w0 O X (aJ s.H d F) (newρ ρ d f) w1:=by
   refine⟨hinv.keep.but hbut (.inr hO),fun x r o ho=>?_,fun x r x' r' o o' j c c' ho ho' hr hr'=>?_,fun x r o j c ho hr=>?_,fun j hj=>Nat.lt_of_lt_of_le (hinv.bar j hj) hbut.size,fun x r o ho=>?_⟩
   ·by_cases hxd:x=d
    ·subst hxd
     rw[cz,<- hF,List.getElem?_map]at ho
     obtain⟨o2,ho2,rfl⟩:=Option.map_eq_some_iff.1 ho
     have hobj:=hi.objs 0 r o2 (by simpa[famH] using ho2)
     obtain⟨z1,z2,z3⟩:=hobj
     refine⟨fun e he=>?_,z2,?_⟩
     ·simp only[dm,List.mem_map]at he
      obtain⟨e',he',rfl⟩:=he
      rw[List.length_map];exact z1 e' he'
     ·rw[newρ_eq]
      simp only[f]
      rw[if_pos (List.getElem?_eq_some_iff.1 ho2).1]
      cases hr0:ρc 0 r with
      |none=>rw[hr0]at z3;simp[dm,z3]
      |some bc=>
       obtain⟨j,n⟩:=bc
       rw[hr0]at z3
       obtain⟨cells,p1,p2,p3,p4,p5⟩:=z3
       refine⟨cells,p1,p2,by simpa[dm] using p3,p4,fun i e j z he hz=>?_⟩
       simp only[dm,List.getElem?_map]at he
       obtain⟨e',he',rfl⟩:=Option.map_eq_some_iff.1 he
       rw[List.getElem?_map]at hz
       obtain⟨z',hz',rfl⟩:=Option.map_eq_some_iff.1 hz
       obtain⟨u,u1,u2,u3⟩:=p5 i e' j z' he' hz'
       exact⟨u,u1,u2,hmap z' u u3⟩
    ·rw[bO hxd]at ho
     exact fk (hinv.objs x r o ho) (newρ_ne hxd r) (fun b' c hb'=>hnb x r o b' c ho hb') mono
   ·by_cases hx:x=d
    ·subst hx
     rw[newρ_eq]at hr
     by_cases hx':x'=x
     ·subst hx'
      rw[newρ_eq]at hr'
      obtain⟨⟨o1,ho1⟩,g1⟩:=hff r j c hr
      obtain⟨⟨o2,ho2⟩,g2⟩:=hff r' j c' hr'
      exact⟨rfl,(hi.inj 0 r 0 r' o1 o2 j c c' (by simpa[famH] using ho1) (by simpa[famH] using ho2) g1 g2).2⟩
     ·rw[newρ_ne hx']at hr'
      rw[bO hx']at ho'
      have:=dB (hinv.objs x' r' o' ho') hr'
      have:=hnew _ _ _ hr
      omega
    ·rw[newρ_ne hx]at hr
     rw[bO hx]at ho
     by_cases hx':x'=d
     ·subst hx'
      rw[newρ_eq]at hr'
      have:=dB (hinv.objs x r o ho) hr
      have:=hnew _ _ _ hr'
      omega
     ·rw[newρ_ne hx']at hr'
      rw[bO hx']at ho'
      exact hinv.inj x r x' r' o o' j c c' ho ho' hr hr'
   ·by_cases hx:x=d
    ·subst hx
     rw[newρ_eq]at hr
     have:=hnew _ _ _ hr
     have hk:=hinv.keep.size
     exact⟨.inl (by omega),fun hX=>by have:=hinv.bar j hX;omega⟩
    ·rw[newρ_ne hx]at hr
     rw[bO hx]at ho
     exact hinv.old x r o j c ho hr
   ·by_cases hx:x=d
    ·subst hx
     rw[cz,<- hF,List.getElem?_map]at ho
     obtain⟨o2,ho2,rfl⟩:=Option.map_eq_some_iff.1 ho
     intro e he z hz
     simp only[dm,List.mem_map]at he
     obtain⟨e',he',rfl⟩:=he
     simp only[List.mem_map]at hz
     obtain⟨z',hz',rfl⟩:=hz
     cases z'<;>first|rfl|trivial
    ·rw[bO hx]at ho
     exact hinv.self x r o ho
  have htm':di X (newρ ρ d f) ⟨s.tmps,aJ s.H d F⟩ a w1:=fun k x hx=>by
   obtain⟨u,g1,g2⟩:=htm k x hx
   exact⟨u,g1,TV.rel_map g2 mono⟩
  have hv:t.rel (newρ ρ d f) (aJ s.H d F) (Xo X (newρ ρ d f) (aJ s.H d F)) w1 v:=by
   rw[<- ht]
   exact mT hr hmap
  refine⟨by rw[jx];exact h1,by rw[mb,fp];exact hsz,newρ ρ d f,by rw[jw];exact hinv',sP (s:=⟨s.tmps,aJ s.H d F⟩) hsz htm' hv,hO,hX,?_⟩
  rw[jw]
  exact hbox.weaken fun j _ hj=>hXo j hj
theorem EV {H:OH} {t:TV} (h:aF (aX H t)=true):aX H t=t:=by
 unfold aX at h⊢
 split
 ·rename_i a r off len
  simp only at h
  split at h<;>cases h
 ·cases h
 ·rfl
theorem C5 {H H':OH} {ρ':gm} {Y Y':Nat->Prop} {w':World} {t:TV} {v:Value} (h:aF t=true) (hr:t.rel ρ H Y w v):t.rel ρ' H' Y' w' v:=by
 have hav: ∀x u,aH x=true->AV.rel ρ H Y w x u->AV.rel ρ' H' Y' w' x u:=fun x u hx hu=>by
  cases x with
  |p x=>
   cases x with
   |raw z=>
    obtain⟨rfl,h1⟩:=dM (ρ:=ρ) (H:=H) hu
    exact dy.raw _ h1
   |sl xs=>cases hx
   |ptr cs=>cases hx
  |sl a r off len=>cases hx
  |ptr a r i j=>cases hx
  |junk=>cases hx
 have agg: ∀cs v,cs.all aH=true->dv ρ H Y w cs v->dv ρ' H' Y' w' cs v:=fun cs v hc ⟨vs,g1,g2,g3⟩=>by
  simp only[List.all_eq_true]at hc
  exact⟨vs,g1,g2,fun j x hx=>by obtain⟨u,u1,u2,u3⟩:=g3 j x hx;exact⟨u,u1,u2,hav x u (hc x (List.mem_of_getElem? hx)) u3⟩⟩
 cases t with
 |one x=>exact hav x v h hr
 |agg cs=>exact agg cs v h hr
 |fn f cs=>obtain⟨u,h1,h2⟩:=hr;exact⟨u,agg cs u h h1,h2⟩
 |tup ts=>
  simp only[aF,List.all_eq_true]at h
  obtain⟨vs,g1,g2,g3⟩:=hr
  refine⟨vs,g1,g2,fun j c cs hj=>?_⟩
  obtain⟨u,u1,u2⟩:=g3 j c cs hj
  have hall:=h (c,cs) (List.mem_of_getElem? hj)
  refine⟨u,u1,?_⟩
  rcases u2 with⟨u2,u3⟩|⟨u2,x,rfl,u4⟩
  ·exact .inl ⟨u2,agg _ _ (by simpa only[List.all_eq_true] using hall) u3⟩
  ·exact .inr ⟨u2,_,rfl,hav x u (hall x (by simp)) u4⟩
theorem G4 {items:List (eQ P)} {ow:List Nat} {i:Nat} {s1:AS} (hrel:gG b ty w0 O X s cs a w) {o:Oper} {c:Call} {f:FuncId} (ho:o.op= .call c) (hcal:c.callee= .value (.func f)) {it:eQ P} (hit:items.find? (·.i==i)=some it)
  (hraw:it.args.all aF=true) (hcon:gZ P b ty it.f it.args cs it.res cs') (h:fw P items ow i o s=some s1) {K:Act->World->Prop} {Q:Exit->Act->World->Prop}
  (hK: ∀v w',gG b ty w0 O X s1 cs' (a.put o.dst v) w'->K (a.put o.dst v) w'):o.wp P a w K Q:=by
 obtain⟨h1,hsz,ρ,hinv,htm,hO,hX,hbox⟩:=hrel
 have hM:vQ o.op=false:=by rw[ho];rfl
 have hR:GY o.op=false:=by
  obtain⟨callee,args,tys⟩:=c
  simp only at hcal
  subst hcal
  rw[ho];rfl
 have hD:bJ P s.ev s.H o.op=none:=by
  obtain⟨callee,args,tys⟩:=c
  simp only at hcal
  subst hcal
  rw[ho];rfl
 unfold fw at h
 simp only[hM,hR,hD,Bool.false_eq_true,if_false]at h
 obtain⟨d,t,F,hdst,hA,hdF,hs1⟩: ∃d t F,o.dst=some d/\aC P items ow i d s.ev s.H o.op=some (t,F)/\(F≠[]->s.H d=[])/\s1=jB s d t F:=by
  split at h
  ·cases h
  ·rename_i d hd
   split at h
   ·rename_i t ht
    injection h with h
    exact⟨d,t,[],hd,ht,fun h=>absurd rfl h,by rw[<- h];rfl⟩
   ·rename_i t F hF ht
    split at h
    ·rename_i hH
     injection h with h
     refine⟨d,t,F,hd,ht,fun _=>hH,?_⟩
     rw[<- h]
     unfold jB
     rw[if_neg (by intro h;exact hF (List.isEmpty_iff.1 h))]
    ·cases h
   ·cases h
 subst hs1
 rw[ho]at hA
 simp only[aC,hcal]at hA
 rw[hit]at hA
 split at hA
 ·rename_i it' ts hit' hts
  injection hit' with hit'
  subst hit'
  split at hA
  ·rename_i hc
   obtain⟨c1,c2,_,_⟩:=hc
   injection hA with hA
   injection hA with ht hF
   subst c1
   obtain⟨e1,e2⟩:=fi hts
   obtain⟨hcallable,hcon⟩:=hcon
   have hrun:=pe (w:=w) ho hcal (e:=a.eval) rfl hcallable
   unfold Oper.wp
   rw[hrun]
   simp only[Oper.upon]
   have hXlt: ∀j,Xo X ρ s.H j->j<w.heap.size:=fun j hj=>by
    rcases hj with hj|⟨x,y,o',n,g1,g2⟩
    ·exact hinv.bar j hj
    ·exact dB (hinv.objs x y o' g1) g2
   refine(hcon (Xo X ρ s.H) w (c.args.map a.eval) hXlt (.inl hX) hbox ?_ ?_).mono ?_
   ·rw[<- c2];simp[e1]
   ·intro j u hu
    have hru:aF u=true:=by
     rw[List.all_eq_true]at hraw
     exact hraw u (List.mem_of_getElem? hu)
    rw[<- c2,List.getElem?_map]at hu
    obtain⟨t0,ht0,rfl⟩:=Option.map_eq_some_iff.1 hu
    obtain⟨x,hx,hxt⟩:=e2 j t0 ht0
    refine⟨a.eval x,by rw[Array.getElem?_map];simp at hx;rw[hx];rfl,?_⟩
    have hne:=EV hru
    rw[hne]at hru⊢
    exact C5 hru (ew htm x t0 hxt)
   ·rintro e w1 ⟨v,rfl,ρc,hi,hr,hb'⟩
    show K (a.put o.dst v) w1
    refine hK v w1 ?_
    rw[hdst]
    exact EH h1 hsz hinv htm hO hX ht hF hdF hi hr hb'
  ·cases hA
 ·cases hA
end
end
section
theorem HU {w w':World} {O X:Nat->Prop} {s2:AS} {ρ:gm} {res:CallRes} {r:TV} {a0:Nat} {v:Value} (hinv:i7 w O X s2.H ρ w') (v2:r.rel ρ s2.H (Xo X ρ s2.H) w' v) (hself:mg a0 r) (hfam:res.fam=(s2.H a0).map (dm 0)) (hr:res.r=aG 0 r):
  ∃ρ':gm,i7 w O X (famH 0 res.fam) ρ' w'/\res.r.rel ρ' (famH 0 res.fam) (Xo X ρ' (famH 0 res.fam)) w' v/\ ∀b,Xo X ρ' (famH 0 res.fam) b->Xo X ρ s2.H b:=by
 have hF: ∀(k:Nat) o,(famH 0 res.fam 0)[k]?=some o-> ∃o',(s2.H a0)[k]?=some o'/\o=dm 0 o':=fun k o ho=>by
  simp only[famH,if_true,hfam,List.getElem?_map]at ho
  obtain⟨o',g1,g2⟩:=Option.map_eq_some_iff.1 ho
  exact⟨o',g1,g2.symm⟩
 have hz: ∀(x k:Nat) o,(famH 0 res.fam x)[k]?=some o->x=0:=fun x k o ho=>by
  by_cases hx:x=0
  ·exact hx
  ·simp[famH,hx]at ho
 have hXo: ∀b,Xo X (fun _ k=>ρ a0 k) (famH 0 res.fam) b->Xo X ρ s2.H b:=fun b hb=>by
  rcases hb with hb|⟨x,k,o,n,g1,g2⟩
  ·exact .inl hb
  ·have:=hz x k o g1
   subst this
   obtain⟨o',g3,_⟩:=hF k o g1
   exact .inr ⟨a0,k,o',n,g3,g2⟩
 have hmap: ∀x u,fE a0 x->AV.rel ρ s2.H (Xo X ρ s2.H) w' x u->AV.rel (fun _ k=>ρ a0 k) (famH 0 res.fam) (Xo X (fun _ k=>ρ a0 k) (famH 0 res.fam)) w' (aE 0 x) u:=fun x u hs hx=>by
  cases x with
  |p x=>exact dy.weaken (fun b _ hb=>hXo b hb) hx
  |sl x k off len=>
   have hs:x=a0:=hs
   subst hs
   obtain⟨o,g1,g2,g3⟩:=hx
   exact⟨dm 0 o,by simp[famH,hfam,g1],by simpa[dm] using g2,g3⟩
  |ptr x k i j=>
   have hs:x=a0:=hs
   subst hs
   obtain⟨o,b,c,g1,g2,g3,g4⟩:=hx
   exact⟨dm 0 o,b,c,by simp[famH,hfam,g1],g2,by simpa[dm] using g3,g4⟩
  |junk=>trivial
 have hfin: ∃ρ':gm,i7 w O X (famH 0 res.fam) ρ' w'/\res.r.rel ρ' (famH 0 res.fam) (Xo X ρ' (famH 0 res.fam)) w' v/\ ∀b,Xo X ρ' (famH 0 res.fam) b->Xo X ρ s2.H b:=by
  refine⟨fun _ k=>ρ a0 k,⟨hinv.keep,fun x k o ho=>?_,fun x k x' k' o o' b c c' ho ho' hr1 hr2=>?_,fun x k o b c ho hr1=>?_,hinv.bar,fun x k o ho=>?_⟩,?_,hXo⟩
  ·have:=hz x k o ho
   subst this
   obtain⟨o',g1,rfl⟩:=hF k o ho
   obtain⟨z1,z2,z3⟩:=hinv.objs a0 k o' g1
   refine⟨fun e he=>?_,z2,?_⟩
   ·simp only[dm,List.mem_map]at he
    obtain⟨e',he',rfl⟩:=he
    rw[List.length_map];exact z1 e' he'
   ·cases hr0:ρ a0 k with
    |none=>rw[hr0]at z3;simp only[hr0];simp[dm,z3]
    |some bc=>
     obtain⟨b,n⟩:=bc
     rw[hr0]at z3
     obtain⟨cells,p1,p2,p3,p4,p5⟩:=z3
     simp only[hr0]
     refine⟨cells,p1,p2,by simpa[dm] using p3,p4,fun i e j z he hz=>?_⟩
     simp only[dm,List.getElem?_map]at he
     obtain⟨e',he',rfl⟩:=Option.map_eq_some_iff.1 he
     rw[List.getElem?_map]at hz
     obtain⟨z',hz',rfl⟩:=Option.map_eq_some_iff.1 hz
     obtain⟨u,u1,u2,u3⟩:=p5 i e' j z' he' hz'
     exact⟨u,u1,u2,hmap z' u (hinv.self a0 k o' g1 e' (List.mem_of_getElem? he') z' (List.mem_of_getElem? hz')) u3⟩
  ·have e1:=hz x k o ho
   have e2:=hz x' k' o' ho'
   subst e1 e2
   obtain⟨o1,g1,_⟩:=hF k o ho
   obtain⟨o2,g2,_⟩:=hF k' o' ho'
   exact⟨rfl,(hinv.inj a0 k a0 k' o1 o2 b c c' g1 g2 hr1 hr2).2⟩
  ·have e1:=hz x k o ho
   subst e1
   obtain⟨o1,g1,_⟩:=hF k o ho
   exact hinv.old a0 k o1 b c g1 hr1
  ·have e1:=hz x k o ho
   subst e1
   obtain⟨o1,g1,rfl⟩:=hF k o ho
   intro e he z hzz
   simp only[dm,List.mem_map]at he
   obtain⟨e',he',rfl⟩:=he
   simp only[List.mem_map]at hzz
   obtain⟨z',hz',rfl⟩:=hzz
   cases z'<;>first|rfl|trivial
  ·rw[hr]
   have agg: ∀cs u,(∀x∈cs,fE a0 x)->dv ρ s2.H (Xo X ρ s2.H) w' cs u->dv (fun _ k=>ρ a0 k) (famH 0 res.fam) (Xo X (fun _ k=>ρ a0 k) (famH 0 res.fam)) w' (cs.map (aE 0)) u:=fun cs u hs h=>by
    obtain⟨us,h1,h2,h3⟩:=h
    refine⟨us,h1,by simpa using h2,fun j x hx=>?_⟩
    rw[List.getElem?_map]at hx
    obtain⟨y,hy,rfl⟩:=Option.map_eq_some_iff.1 hx
    obtain⟨u',u1,u2,u3⟩:=h3 j y hy
    exact⟨u',u1,u2,hmap _ _ (hs y (List.mem_of_getElem? hy)) u3⟩
   cases r with
   |one x=>exact hmap x v hself v2
   |agg cs=>exact agg cs v hself v2
   |fn f cs=>obtain⟨u,h1,h2⟩:=v2;exact⟨u,agg cs u hself h1,h2⟩
   |tup ts=>
    obtain⟨us,h1,h2,h3⟩:=v2
    refine⟨us,h1,by simpa using h2,fun j b cs hx=>?_⟩
    rw[List.getElem?_map]at hx
    obtain⟨y,hy,hyy⟩:=Option.map_eq_some_iff.1 hx
    obtain⟨b',cs'⟩:=y
    simp at hyy
    obtain⟨rfl,rfl⟩:=hyy
    obtain⟨u,u1,u2⟩:=h3 j b' cs' hy
    have hs:=hself (b',cs') (List.mem_of_getElem? hy)
    refine⟨u,u1,?_⟩
    rcases u2 with⟨u2,u3⟩|⟨u2,x,rfl,u4⟩
    ·exact .inl ⟨u2,agg _ _ hs u3⟩
    ·exact .inr ⟨u2,_,rfl,hmap _ _ (hs x (by simp)) u4⟩
 exact hfin
section
variable {P:Program} {b:Nat} {ty:TypeId} {cs cs':List PV} {Q:Exit->AS->List PV->Prop} {s:AS}
theorem rJ {f:FuncId} {fn:Func} {c:Code} {args:List TV} {res:CallRes} (hf:P.funcs[f]?=some fn) (hb:fn.body=some c) (hn:callable P f=true)
  (h:f9 P b ty c (fun e s k=>(e= .normal\/e= .ret)/\k=cs'/\ ∃s',dG s s'/\ql P fn res s') ⟨args++List.replicate (fn.ntmps-args.length) .undef,fun _=>[]⟩ cs):gZ P b ty f args cs res cs':=by
 refine⟨hn,fun X w vs hX hXb hbox hvs hargs=>?_⟩
 refine calls_of_wp hf hb ?_
 have hXo: ∀j,j<w.heap.size->Xo X (fun _ _=>none) (fun _=>[]) j->X j:=fun j _ h=>by
  rcases h with h|⟨a,r,o,c,h1,h2⟩
  ·exact h
  ·cases h2
 have hrel:gG b ty w (fun j=>j=b) X ⟨args++List.replicate (fn.ntmps-args.length) .undef,fun _=>[]⟩ cs {tmps:=vs++Array.replicate (fn.ntmps-vs.size) undef,defers:=[]} w:=by
  refine⟨rfl,by simp[hvs],fun _ _=>none,⟨Keep.refl w,fun a r o ho=>by simp at ho,fun a r a' r' o o' b c c' ho=>by simp at ho,fun a r o b c ho=>by simp at ho,hX,fun a r o ho=>by simp at ho⟩,fun t x hx=>?_,rfl,hXb,hbox.weaken hXo⟩
  by_cases ht:t<args.length
  ·rw[List.getElem?_append_left ht]at hx
   obtain⟨v,v1,v2⟩:=hargs t x hx
   refine⟨v,by rw[Array.getElem?_append_left (by omega)];exact v1,TV.rel_map v2 (fun y u hy=>?_)⟩
   cases y with
   |p y=>exact dy.weaken hXo hy
   |sl a r off len=>obtain⟨o,h1,_⟩:=hy;simp at h1
   |ptr a r i j=>obtain⟨o,_,_,h1,_⟩:=hy;simp at h1
   |junk=>trivial
  ·rw[List.getElem?_append_right (by omega),List.getElem?_replicate]at hx
   split at hx
   ·rename_i hlt
    injection hx with hx
    subst hx
    refine⟨undef,?_,jm⟩
    rw[Array.getElem?_append_right (by omega),Array.getElem?_replicate,if_pos (by omega)]
   ·cases hx
 refine wp_mono (h _ _ _ _ _ hrel) fun e a' w' ⟨s1,k,⟨he,hk,s2,hw,r,a0,hres,hself,hfam,hr⟩,hrel1⟩=>?_
 subst hk
 obtain⟨h1,hsz,ρ,hinv,htm,_,_,hbox'⟩:=hrel1.weak hw
 have htm:di X ρ s2 a' w':=htm
 obtain⟨v,v1,v2⟩:=n9 hinv htm hres
 obtain⟨ρ',g1,g2,g3⟩:=HU hinv v2 hself hfam hr
 rcases he with rfl|rfl
 ·exact⟨h1,v,v1,v,rfl,ρ',g1,g2,hbox'.weaken fun j _ hj=>g3 j hj⟩
 ·exact⟨h1,v,v1,v,rfl,ρ',g1,g2,hbox'.weaken fun j _ hj=>g3 j hj⟩
/-! Regions. -/
theorem zf {items items':List (eQ P)} {ow:List Nat} {i d:Nat} {ev:Operand->Option TV} {H:OH} {op:Op} (h:items.find? (·.i==i)=items'.find? (·.i==i)):aC P items ow i d ev H op=aC P items' ow i d ev H op:=by
 cases op<;>simp only[aC,h]
theorem tJ {items items':List (eQ P)} {ow:List Nat} {ops:Array Oper} {i:Nat} {o:Oper} {s:AS} (h:items.find? (·.i==i)=items'.find? (·.i==i)):du P items ow ops i o s=du P items' ow ops i o s:=by
 have e:fw P items ow i o s=fw P items' ow i o s:=by
  unfold fw
  simp only[zf h]
 unfold du
 simp only[e]
def fC (ops:Array Oper) (m:Nat):Bool:=match ops[m]? with
 |some o=>o.guard.isNone&&(match o.op with
  | .call c=>(match c.callee with
   | .value (.func _)=>true
   |_=>false)
  |_=>false)
 |none=>false
theorem xH {ops:Array Oper} {m:Nat} (h:fC ops m=true) {o:Oper} (ho:ops[m]?=some o):o.guard=none/\ ∃c f,o.op= .call c/\c.callee= .value (.func f):=by
 unfold fC at h
 rw[ho]at h
 simp only[Bool.and_eq_true]at h
 obtain⟨h1,h2⟩:=h
 refine⟨by simpa using h1,?_⟩
 split at h2
 ·rename_i c hc
  split at h2
  ·rename_i f hf
   exact⟨c,f,hc,hf⟩
  ·cases h2
 ·cases h2
theorem zr {items:List (ar P)} {it:eQ P} {i:Nat} (h:i≠it.i):(items.map ar.a++[it]).find? (·.i==i)=(items.map ar.a).find? (·.i==i):=by
 rw[List.find?_append]
 have:[it].find? (·.i==i)=none:=by simp[Ne.symm h]
 rw[this,Option.or_none]
theorem Cw {items:List (ar P)} {it:eQ P} (h:items.all (fun c=>c.i !=it.i)=true):(items.map ar.a++[it]).find? (·.i==it.i)=some it:=by
 rw[List.find?_append]
 have:(items.map ar.a).find? (·.i==it.i)=none:=by
  rw[List.find?_eq_none]
  intro x hx
  obtain⟨c,hc,rfl⟩:=List.mem_map.1 hx
  rw[List.all_eq_true]at h
  have:=h c hc
  simpa[ar.a] using this
 rw[this]
 simp
theorem p8 {w0 w:World} {O X:Nat->Prop} {a:Act} (items:List (ar P)) (it:eQ P) {ow:List Nat} {ops:Array Oper} {i:Nat} {o:Oper} (ho:ops[i]?=some o) (hL:fC ops it.i=true) (hF:items.all (fun c=>c.i !=it.i)=true) (hraw:it.args.all aF=true) (hcon:gZ P b ty it.f it.args cs it.res cs')
  {x:List PV} (hx:i=it.i->x=cs) {s1:AS} (hrel:gG b ty w0 O X s x a w) (h:du P (items.map ar.a++[it]) ow ops i o s=some s1) {K:Act->World->Prop} {Q:Exit->Act->World->Prop}
  (hK: ∀v w',gG b ty w0 O X s1 (if i=it.i then cs' else x) (a.put o.dst v) w'->K (a.put o.dst v) w'):if Region.wanted o (yielded ops a.tmps)then o.wp P a w K Q else K (a.put o.dst undef) w:=by
 by_cases hi:i=it.i
 ·have hxx:=hx hi
  subst hi hxx
  obtain⟨hg,c,f,h1,h2⟩:=xH hL ho
  rw[if_pos (by simp[Region.wanted,hg])]
  unfold du at h
  rw[hg]at h
  simp only[if_true]at hK
  exact G4 hrel h1 h2 (Cw hF) hraw hcon h hK
 ·rw[tJ (zr hi)]at h
  obtain⟨Own,r1,r2⟩:=hrel.rebase
  simp only[if_neg hi]at hK
  exact jo (ar.ok items) r1 h fun v w' hr=>hK v w' (r2 _ _ _ hr)
theorem pW {w0:World} {O X:Nat->Prop} (items:List (ar P)) (it:eQ P) {ow:List Nat} {ops:Array Oper} (hL:fC ops it.i=true) (hF:items.all (fun c=>c.i !=it.i)=true) (hraw:it.args.all aF=true) (hcon:gZ P b ty it.f it.args cs it.res cs') {Q:Exit->Act->World->Prop}:
  ∀(l:List Oper) (k:Nat) (s s':AS) (a:Act) (w:World),(∀(j:Nat) o,l[j]?=some o->ops[k+j]?=some o)->jy P (items.map ar.a++[it]) ow ops (l.zipIdx k) s=some s'->gG b ty w0 O X s (if k<=it.i then cs else cs') a w->
   (∀a' w',gG b ty w0 O X s' (if k+l.length<=it.i then cs else cs') a' w'->Q .normal a' w')->wpOps P ops Q (List.range' k l.length) a w
 |[],k,s,s',a,w,_,h,r,hQ=>by
  simp only[List.zipIdx_nil,jy]at h
  injection h with h
  subst h
  exact hQ a w r
 |o::l,k,s,s',a,w,hl,h,r,hQ=>by
  simp only[List.zipIdx_cons,jy]at h
  split at h
  ·rename_i s1 hs1
   simp only[List.length_cons,List.range'_succ,wpOps]
   have ho:ops[k]?=some o:=by have:=hl 0 o rfl;simpa using this
   rw[ho]
   simp only
   have:=p8 (Q:=Q) items it ho hL hF hraw hcon (x:=if k<=it.i then cs else cs') (fun hk=>if_pos (by omega)) r hs1 (K:=wpOps P ops Q (List.range' (k+1) l.length)) (fun v w' hr=>pW items it hL hF hraw hcon l (k+1) s1 s' _ _ (fun j o hj=>by have:=hl (j+1) o (by simpa using hj);rwa[show k+(j+1)=k+1+j by omega]at this) h (by
    have e:(if k=it.i then cs' else if k<=it.i then cs else cs')=if k+1<=it.i then cs else cs':=by
     by_cases h1:k=it.i
     ·rw[if_pos h1,if_neg (by omega)]
     ·rw[if_neg h1]
      by_cases h2:k<=it.i
      ·rw[if_pos h2,if_pos (by omega)]
      ·rw[if_neg h2,if_neg (by omega)]
    rw[e]at hr
    exact hr) (fun a' w' hr'=>hQ a' w' (by rw[List.length_cons,show k+(l.length+1)=k+1+l.length by omega];exact hr')))
   split at this
   ·rename_i hw;rw[if_pos hw];exact .inl this
   ·rename_i hw;rw[if_neg hw];exact this
  ·cases h
theorem tY (m:Nat) {f:FuncId} {args:List TV} {res:CallRes} (hcon:gZ P b ty f args cs res cs') (items:List (ar P)) (ow:List Nat) {id:Nat} {ops:Array Oper} (hL:fC ops m=true) (hF:items.all (fun c=>c.i !=m)=true) (hraw:args.all aF=true) (hl:s.tmps.length<=1000000)
  (h:eE P (items.map ar.a++[⟨m,f,args,res⟩]) ow (dC ops ops.toList 0) (some s) (fun s'=>Q .normal s' cs')):f9 P b ty (.region id ops false) Q s cs:=fun w0 O X a w r=>by
 obtain⟨s',h1,h2⟩:=dF P _ ow ops ops.toList 0 s _ hl h
 refine wp_region ?_
 rw[List.range_eq_range']
 have hm:m<ops.size:=by
  unfold fC at hL
  split at hL
  ·rename_i o ho;exact(Array.getElem?_eq_some_iff.1 ho).1
  ·cases hL
 have:=pW (w0:=w0) (O:=O) (X:=X) items ⟨m,f,args,res⟩ hL hF hraw hcon (Q:=fun e a' w'=> ∃s' k,Q e s' k/\gG b ty w0 O X s' k a' w') ops.toList 0 s s' a w (fun j o hj=>by simpa using hj) h1 (by simpa using r) (fun a' w' hr=>⟨s',cs',h2,by
  rw[if_neg (by simp;omega)]at hr
  exact hr⟩)
 simpa using this
theorem tX (hmx:P.follows .mixedOrders=true) (m:Nat) {f:FuncId} {args:List TV} {res:CallRes} (hcon:gZ P b ty f args cs res cs') (items:List (ar P)) (ow:List Nat) {id:Nat} {ops:Array Oper} (hd:fV [] ops=true) (hL:fC ops m=true) (hF:items.all (fun c=>c.i !=m)=true) (hraw:args.all aF=true) (hl:s.tmps.length<=1000000)
  (h:eE P (items.map ar.a++[⟨m,f,args,res⟩]) ow (dC ops ops.toList 0) (some s) (fun s'=>Q .normal s' cs')):f9 P b ty (.region id ops true) Q s cs:=fun w0 O X a w r=>by
 obtain⟨sF,h1,h2⟩:=dF P _ ow ops ops.toList 0 s _ hl h
 have hm:m<ops.size:=by
  unfold fC at hL
  split at hL
  ·rename_i o ho;exact(Array.getElem?_eq_some_iff.1 ho).1
  ·cases hL
 refine wp_region_any hmx ?_
 have hrun:ie P (items.map ar.a++[⟨m,f,args,res⟩]) ow ops (List.range ops.size) s=some sF:=by
  rw[List.range_eq_range']
  have:=mV (P:=P) (items:=items.map ar.a++[⟨m,f,args,res⟩]) (ow:=ow) ops.toList 0 s (fun j o hj=>by simpa using hj)
  rw[h1]at this
  simpa using this.symm
 have hr':gG b ty w0 O X s cs a {w with drawn:=w.drawn+1}:=by
  obtain⟨Own,g1,g2⟩:=r.rebase
  obtain⟨q1,q2,ρ,hinv,htm⟩:=g1
  have e:Ext w {w with drawn:=w.drawn+1}:=⟨rfl,rfl,rfl,Nat.le_refl _,fun _ _=>rfl⟩
  have htm:di X ρ s a w:=htm
  exact g2 _ _ _ ⟨q1,q2,ρ,hinv.grow e,htm.grow e⟩
 refine ny (sep:=[]) (rT hd (by simp)) hd (Q:=fun e a' w'=> ∃s' k,Q e s' k/\gG b ty w0 O X s' k a' w') (fun p s a w=>gG b ty w0 O X s (if p m then cs' else cs) a w) ⟨l4 r.rel,fun x hx=>by simp at hx⟩ hrun (fun p a w hall hr=>⟨sF,cs',h2,by
  rw[if_pos (hall m hm)]at hr
  exact hr⟩) (fun p i o s s1 a w K ho hpi hs hr hK=>?_) ops.size (Array.replicate ops.size false) s a _ (by simp) ?_ ?_ ?_ ?_
 ·refine p8 items ⟨m,f,args,res⟩ ho hL hF hraw hcon (x:=if p m then cs' else cs) (fun hi=>?_) hr hs (fun v w' hr'=>hK v w' ?_)
  ·have hi:i=m:=hi
   subst hi
   rw[if_neg (by simp[hpi])]
  ·by_cases hi:i=m
   ·subst hi
    simpa[fJ] using hr'
   ·have hmi:(m==i)=false:=by simpa using Ne.symm hi
    simpa[fJ,hi,hmi] using hr'
 ·intro j o ho hp
  have hj:j<ops.size:=(Array.getElem?_eq_some_iff.1 ho).1
  simp[hj]at hp
 ·exact Nat.le_trans (List.length_filter_le _ _) (by simp)
 ·have:tb ops.size (fun j=>(Array.replicate ops.size false).getD j true)=[]:=by
   unfold tb
   rw[List.filter_eq_nil_iff]
   intro j hj
   have:=List.mem_range.1 hj
   simp[this]
  rw[this]
  rfl
 ·have:(Array.replicate ops.size false).getD m true=false:=by simp[hm]
  simp only[this]
  exact hr'
theorem mE (m:Nat) {f:FuncId} {args:List TV} {res:CallRes} (hcon:gZ P b ty f args cs res cs') (items:List (ar P)) (ow:List Nat) {id:Nat} {ops:Array Oper} {y:Code} (hL:fC ops m=true) (hF:items.all (fun c=>c.i !=m)=true) (hraw:args.all aF=true) (hl:s.tmps.length<=1000000)
  (h: ∀K:AS->Prop,(∀s',f9 P b ty y Q s' cs'->K s')->eE P (items.map ar.a++[⟨m,f,args,res⟩]) ow (dC ops ops.toList 0) (some s) K):f9 P b ty (.seq (.region id ops false) y) Q s cs:=
 dz (tY m hcon items ow hL hF hraw hl (h _ fun _ h=>h))
theorem ja (m:Nat) {f:FuncId} {args:List TV} {res:CallRes} (hcon:gZ P b ty f args cs res cs') (items:List (ar P)) (ow:List Nat) {id:Nat} {ops:Array Oper} (hL:fC ops m=true) (hF:items.all (fun c=>c.i !=m)=true) (hraw:args.all aF=true) (hl:s.tmps.length<=1000000)
  (h: ∀K:AS->Prop,(∀s',Q .normal s' cs'->K s')->eE P (items.map ar.a++[⟨m,f,args,res⟩]) ow (dC ops ops.toList 0) (some s) K):f9 P b ty (.region id ops false) Q s cs:=
 tY m hcon items ow hL hF hraw hl (h _ fun _ h=>h)
theorem yR (hmx:P.follows .mixedOrders=true) (m:Nat) {f:FuncId} {args:List TV} {res:CallRes} (hcon:gZ P b ty f args cs res cs') (items:List (ar P)) (ow:List Nat) {id:Nat} {ops:Array Oper} {y:Code} (hd:fV [] ops=true) (hL:fC ops m=true) (hF:items.all (fun c=>c.i !=m)=true) (hraw:args.all aF=true) (hl:s.tmps.length<=1000000)
  (h: ∀K:AS->Prop,(∀s',f9 P b ty y Q s' cs'->K s')->eE P (items.map ar.a++[⟨m,f,args,res⟩]) ow (dC ops ops.toList 0) (some s) K):f9 P b ty (.seq (.region id ops true) y) Q s cs:=
 dz (tX hmx m hcon items ow hd hL hF hraw hl (h _ fun _ h=>h))
theorem ns (hmx:P.follows .mixedOrders=true) (m:Nat) {f:FuncId} {args:List TV} {res:CallRes} (hcon:gZ P b ty f args cs res cs') (items:List (ar P)) (ow:List Nat) {id:Nat} {ops:Array Oper} (hd:fV [] ops=true) (hL:fC ops m=true) (hF:items.all (fun c=>c.i !=m)=true) (hraw:args.all aF=true) (hl:s.tmps.length<=1000000)
  (h: ∀K:AS->Prop,(∀s',Q .normal s' cs'->K s')->eE P (items.map ar.a++[⟨m,f,args,res⟩]) ow (dC ops ops.toList 0) (some s) K):f9 P b ty (.region id ops true) Q s cs:=
 tX hmx m hcon items ow hd hL hF hraw hl (h _ fun _ h=>h)
end
/-! A box of one's own is lent. -/
def lL (d b:Nat):AV->AV
 | .sl x r off len=>if x=d then .junk else .sl x r off len
 | .ptr x r i j=>if x=d then(if r=0/\i=0/\j=0 then .raw (.pointer (some ⟨b,0,none⟩))else .junk)else .ptr x r i j
 |x=>x
def zF (d b:Nat):TV->TV
 | .one x=> .one (lL d b x)
 | .agg cs=> .agg (cs.map (lL d b))
 | .fn f cs=> .fn f (cs.map (lL d b))
 | .tup ts=> .tup (ts.map fun t=>(t.1,t.2.map (lL d b)))
theorem DD {P:Program} {c:Code} {Q:Exit->AS->Prop} {s:AS} (d:Nat) {ty:TypeId} {cs:List PV} (hd:s.H d=[⟨ty,cs.length,[cs.map AV.p]⟩]) (h: ∀b,f9 P b ty c (fun e s' _=>Q e s') ⟨s.tmps.map (zF d b),aJ s.H d []⟩ cs):bT P c Q s:=fun w0 O X a w r=>by
 obtain⟨h1,hsz,ρ,hinv,htm⟩:=r
 have htm:di X ρ s a w:=htm
 have hget:(s.H d)[0]?=some ⟨ty,cs.length,[cs.map AV.p]⟩:=by rw[hd];rfl
 obtain⟨z1,z2,z3⟩:=hinv.objs d 0 _ hget
 cases hρ:ρ d 0 with
 |none=>rw[hρ]at z3;cases z3
 |some bc=>
  obtain⟨b,n⟩:=bc
  rw[hρ]at z3
  obtain⟨cells,p1,p2,p3,p4,p5⟩:=z3
  have hold:=hinv.old d 0 _ b n hget hρ
  have hna: ∀(x y:Nat) o,(aJ s.H d [] x)[y]?=some o->x≠d/\(s.H x)[y]?=some o:=fun x y o ho=>by
   by_cases hx:x=d
   ·subst hx;rw[cz]at ho;simp at ho
   ·rw[bO hx]at ho;exact⟨hx,ho⟩
  have hXo: ∀j,Xo (fun j=>X j\/j=b) ρ (aJ s.H d []) j->Xo X ρ s.H j:=fun j hj=>by
   rcases hj with(hj|rfl)|⟨x,y,o,n',g1,g2⟩
   ·exact .inl hj
   ·exact .inr ⟨d,0,_,n,hget,hρ⟩
   ·exact .inr ⟨x,y,o,n',(hna x y o g1).2,g2⟩
  have hmap: ∀x v,AV.rel ρ s.H (Xo X ρ s.H) w x v->AV.rel ρ (aJ s.H d []) (Xo (fun j=>X j\/j=b) ρ (aJ s.H d [])) w (lL d b x) v:=fun x v hx=>by
   cases x with
   |p x=>exact dy.weaken (fun j _ hj=>hXo j hj) hx
   |sl x r off len=>
    simp only[lL]
    split
    ·trivial
    ·rename_i hxd
     obtain⟨o,g1,g2⟩:=hx
     exact⟨o,by rw[bO hxd];exact g1,g2⟩
   |ptr x r i j=>
    simp only[lL]
    split
    ·rename_i hxd
     subst hxd
     split
     ·rename_i hc
      obtain⟨rfl,rfl,rfl⟩:=hc
      obtain⟨o,b',c',g1,g2,g3,g4⟩:=hx
      rw[hρ]at g2
      injection g2 with g2
      injection g2 with g2 g2'
      subst g2
      rw[g4]
      simp only[Nat.zero_mul,Nat.add_zero]
      exact dy.raw _ rfl
     ·trivial
    ·rename_i hxd
     obtain⟨o,b',c',g1,g2⟩:=hx
     exact⟨o,b',c',by rw[bO hxd];exact g1,g2⟩
   |junk=>trivial
  have hagg: ∀cs v,dv ρ s.H (Xo X ρ s.H) w cs v->dv ρ (aJ s.H d []) (Xo (fun j=>X j\/j=b) ρ (aJ s.H d [])) w (cs.map (lL d b)) v:=fun cs v ⟨vs,g1,g2,g3⟩=>by
   refine⟨vs,g1,by simpa using g2,fun j x hx=>?_⟩
   rw[List.getElem?_map]at hx
   obtain⟨y,hy,rfl⟩:=Option.map_eq_some_iff.1 hx
   obtain⟨u,u1,u2,u3⟩:=g3 j y hy
   exact⟨u,u1,u2,hmap y u u3⟩
  have hrel:gG b ty w0 (fun j=>O j\/j=b) (fun j=>X j\/j=b) ⟨s.tmps.map (zF d b),aJ s.H d []⟩ cs a w:=by
   refine⟨h1,by simpa using hsz,ρ,⟨⟨hinv.keep.os,hinv.keep.tape,hinv.keep.output,hinv.keep.size,fun k hk hn=>hinv.keep.block k hk (fun h=>hn (.inl h))⟩,fun x y o ho=>?_,fun x y x' y' o o' j c c' ho ho'=>hinv.inj x y x' y' o o' j c c' (hna x y o ho).2 (hna x' y' o' ho').2,fun x y o j c ho hj=>?_,fun j hj=>?_,fun x y o ho=>hinv.self x y o (hna x y o ho).2⟩,fun t x hx=>?_,.inr rfl,.inr rfl,?_⟩
   ·obtain⟨hxd,ho'⟩:=hna x y o ho
    obtain⟨q1,q2,q3⟩:=hinv.objs x y o ho'
    refine⟨q1,q2,?_⟩
    cases hr:ρ x y with
    |none=>rw[hr]at q3;exact q3
    |some bc=>
     obtain⟨b',c'⟩:=bc
     rw[hr]at q3
     obtain⟨cells',r1,r2,r3,r4,r5⟩:=q3
     refine⟨cells',r1,r2,r3,r4,fun i e j z he hz=>?_⟩
     obtain⟨u,u1,u2,u3⟩:=r5 i e j z he hz
     have hs:=hinv.self x y o ho' e (List.mem_of_getElem? he) z (List.mem_of_getElem? hz)
     have:=hmap z u u3
     refine⟨u,u1,u2,?_⟩
     cases z with
     |sl z _ _ _=>have hs:z=x:=hs;subst hs;simpa[lL,hxd] using this
     |ptr z _ _ _=>have hs:z=x:=hs;subst hs;simpa[lL,hxd] using this
     |p z=>exact this
     |junk=>trivial
   ·obtain⟨hxd,ho'⟩:=hna x y o ho
    obtain⟨g1,g2⟩:=hinv.old x y o j c ho' hj
    refine⟨?_,?_⟩
    ·rcases g1 with g|g
     ·exact .inl g
     ·exact .inr (.inl g)
    ·rintro(g|rfl)
     ·exact g2 g
     ·exact hxd (hinv.inj x y d 0 o _ j c n ho' hget hj hρ).1
   ·rcases hj with hj|rfl
    ·exact hinv.bar j hj
    ·exact(Array.getElem?_eq_some_iff.1 p1).1
   ·simp only[List.getElem?_map]at hx
    obtain⟨y,hy,rfl⟩:=Option.map_eq_some_iff.1 hx
    obtain⟨v,v1,v2⟩:=htm t y hy
    refine⟨v,v1,?_⟩
    cases y with
    |one x=>exact hmap x v v2
    |agg cs=>exact hagg cs v v2
    |fn f cs=>obtain⟨u,h1,h2⟩:=v2;exact⟨u,hagg cs u h1,h2⟩
    |tup ts=>
     obtain⟨vs,g1,g2,g3⟩:=v2
     refine⟨vs,g1,by simpa using g2,fun j c cs hj=>?_⟩
     rw[List.getElem?_map]at hj
     obtain⟨z,hz,hzz⟩:=Option.map_eq_some_iff.1 hj
     obtain⟨c',cs'⟩:=z
     simp at hzz
     obtain⟨rfl,rfl⟩:=hzz
     obtain⟨u,u1,u2⟩:=g3 j c' cs' hz
     refine⟨u,u1,?_⟩
     rcases u2 with⟨u2,u3⟩|⟨u2,q',rfl,u4⟩
     ·exact .inl ⟨u2,hagg _ _ u3⟩
     ·exact .inr ⟨u2,_,rfl,hmap _ _ u4⟩
   ·refine⟨cells,n,p1,p2,by simpa using p3,p4,z2,fun j x hx=>?_⟩
    obtain⟨v,v1,v2,v3⟩:=p5 0 (cs.map AV.p) j (.p x) rfl (by rw[List.getElem?_map,hx];rfl)
    exact⟨v,by simpa using v1,v2,dy.weaken (fun j _ hj=>hXo j hj) v3⟩
  refine wp_mono (h b _ _ _ _ _ hrel) fun e a' w' ⟨s',cs',hq,hr⟩=>⟨s',hq,?_⟩
  obtain⟨k1,ksz,ρ',kinv,ktm,_,_,_⟩:=hr
  have ktm:di (fun j=>X j\/j=b) ρ' s' a' w':=ktm
  have kXo: ∀j,Xo X ρ' s'.H j->Xo (fun j=>X j\/j=b) ρ' s'.H j:=fun j hj=>by
   rcases hj with hj|hj
   ·exact .inl (.inl hj)
   ·exact .inr hj
  have kmap: ∀x v,AV.rel ρ' s'.H (Xo (fun j=>X j\/j=b) ρ' s'.H) w' x v->AV.rel ρ' s'.H (Xo X ρ' s'.H) w' x v:=fun x v hx=>by
   cases x with
   |p x=>exact dy.weaken (fun j _ hj=>kXo j hj) hx
   |sl x r off len=>exact hx
   |ptr x r i j=>exact hx
   |junk=>trivial
  refine⟨k1,ksz,ρ',⟨⟨kinv.keep.os,kinv.keep.tape,kinv.keep.output,kinv.keep.size,fun k hk hn=>?_⟩,fun x y o ho=>fk (kinv.objs x y o ho) rfl (fun _ _ _=>rfl) kmap,kinv.inj,fun x y o j c ho hj=>?_,fun j hj=>kinv.bar j (.inl hj),kinv.self⟩,fun t x hx=>?_⟩
  ·by_cases hkb:k=b
   ·subst hkb
    exfalso
    rcases hold.1 with g|g
    ·omega
    ·exact hn g
   ·exact kinv.keep.block k hk (fun hh=>by
     rcases hh with hh|hh
     ·exact hn hh
     ·exact hkb hh)
  ·obtain⟨g1,g2⟩:=kinv.old x y o j c ho hj
   refine⟨?_,fun hx=>g2 (.inl hx)⟩
   rcases g1 with g|g|g
   ·exact .inl g
   ·exact .inr g
   ·exact absurd (.inr g) g2
  ·obtain⟨v,v1,v2⟩:=ktm t x hx
   exact⟨v,v1,TV.rel_map v2 kmap⟩
end
theorem Ej (w:World) (q:Nat) (os:Array Obj):Ext w (Sort.grow (w.drewN q) os):=
 ⟨rfl,rfl,rfl,by show w.heap.size<=(w.heap++os).size;simp,fun k hk=>by show(w.heap++os)[k]?=w.heap[k]?;rw[Array.getElem?_append_left hk]⟩
structure NItem where
 key:Int
 vals:List Int
 at_:Option Addr
 cap:Nat
 deriving Inhabited
def NItem.val (it:NItem):Value:= .slice it.at_ it.vals.length it.cap
def NItem.agg (it:NItem):Value:= .agg #[.int .i64 it.key,.slice it.at_ it.vals.length it.cap]
def ip (a b:NItem):Int:=Cd a.key a.vals b.key b.vals
def rY (a b:NItem):Bool:=ip a b==0
structure ItemOk (w:World) (g:Nat) (it:NItem):Prop where
 rd:RdI .i64 w it.at_ it.vals
 ne: ∀p,it.at_=some p->p.block≠g
 le:it.vals.length<=9223372036854775807
theorem ItemOk.ext {w w':World} {g:Nat} {it:NItem} (h:ItemOk w g it) (e:Ext w w'):ItemOk w' g it:=⟨h.rd.ext e,h.ne,h.le⟩
theorem RdI.setOther {k:IntKind} {w:World} {A:Option Addr} {zs:List Int} {g:Nat} (h:RdI k w A zs) (hne: ∀p,A=some p->p.block≠g) (p:Addr) (hp:p.block=g) (v:Value):RdI k (w.setCell p v) A zs:=fun hn=>by
 obtain⟨b,off,rfl,hc⟩:=h hn
 refine⟨b,off,rfl,fun i x hx=>?_⟩
 rw[World.cell?_setCell_other _ _ _ _ (fun e=>by have:=hne _ rfl;have e2:=congrArg Addr.block e;simp at e2 this;omega)]
 exact hc i x hx
theorem ItemOk.setCell {w:World} {g:Nat} {it:NItem} (h:ItemOk w g it) (p:Addr) (hp:p.block=g) (v:Value):ItemOk (w.setCell p v) g it:=⟨h.rd.setOther h.ne p hp v,h.ne,h.le⟩
theorem tK (a b:NItem) (w:World) (g:Nat) (ha:ItemOk w g a) (hb:ItemOk w g b):
  Calls Tryz.prog 35 #[a.agg,b.agg] w fun e w'=>e= .returned (.int .i64 (ip a b))/\Ext w w':=
 (jH a.key b.key a.at_ b.at_ a.cap b.cap a.vals b.vals w ha.rd hb.rd ha.le hb.le).mono fun _ _ ⟨he,q,os,hw⟩=>⟨he,by rw[hw];exact Ej w q os⟩
theorem tj (a b:NItem) (bx sx so:Nat) (w:World) (g:Nat) (ha:ItemOk w g a) (hb:ItemOk w g b) (h1:w.cell? ⟨bx,0,none⟩=some (.pointer (some ⟨sx,so,none⟩))) (h2:w.cell? ⟨sx,so+1,none⟩=some (.func (Fn.func 35) #[] #[])):
  Calls Tryz.prog 81 #[a.agg,b.agg,.pointer (some ⟨bx,0,none⟩)] w fun e w'=>e= .returned (.bool (rY a b))/\Ext w w':=by
 have HA:=Lib.hid ha
 have HB:=Lib.hid hb
 clear ha hb
 unfold NItem.agg
 go_enter Tryz.func81,Tryz.ntmps81
 go_wp2_with fail
 obtain⟨c1,c2,c3,c4,he,hg⟩:=u6 w (.int .i64 a.key) (.slice a.at_ a.vals.length a.cap) (.int .i64 b.key) (.slice b.at_ b.vals.length b.cap) 74
 have h1':=he.cell h1
 have h2':=he.cell h2
 have HE:=Lib.hid he
 clear he hg h1 h2
 generalize(w.alloc (.cells #[.int .i64 a.key,.slice a.at_ a.vals.length a.cap] 74)).alloc (.cells #[.int .i64 b.key,.slice b.at_ b.vals.length b.cap] 74)=w2 at*
 refine dV 6 (by kernel_rfl) (by kernel_rfl) ?_
 simp only[List.take_succ_cons,List.take_zero,List.drop_succ_cons,List.drop_zero]
 generalize w2.drew=w3 at*
 iterate 6 still_step
 refine wpStill_nil ?_
 have HC:=Lib.hid (tK a b w3 g (HA.out.ext HE.out) (HB.out.ext HE.out))
 unfold NItem.agg at HC
 go_wp2_with fail
 refine HC.out.mono ?_
 rintro e w' ⟨rfl,he⟩
 have HE2:=Lib.hid (HE.out.trans he)
 clear he
 go_wp2_with fail
 go_ret
 exact⟨rfl,HE2.out⟩
def qk (w:World) (g N:Nat) (L:List NItem):Prop:=
 ∃f,w.rowIs g 74 N f/\L.length*2<=N/\ ∀j it,L[j]?=some it->f (j*2)= .int .i64 it.key/\f (j*2+1)=it.val
theorem qk.ext {w w':World} {g N:Nat} {L:List NItem} (h:qk w g N L) (e:Ext w w'):qk w' g N L:=by
 obtain⟨f,h1,h2,h3⟩:=h
 exact⟨f,dP h1 e,h2,h3⟩
theorem qk.cell0 {w:World} {g N:Nat} {L:List NItem} (h:qk w g N L) {j:Nat} {it:NItem} (hj:L[j]?=some it):w.cell? ⟨g,j*2,none⟩=some (.int .i64 it.key):=by
 obtain⟨f,h1,h2,h3⟩:=h
 have:=(List.getElem?_eq_some_iff.1 hj).1
 rw[h1.cell (by omega),(h3 j it hj).1]
theorem qk.cell1 {w:World} {g N:Nat} {L:List NItem} (h:qk w g N L) {j:Nat} {it:NItem} (hj:L[j]?=some it):w.cell? ⟨g,j*2+1,none⟩=some (.slice it.at_ it.vals.length it.cap):=by
 obtain⟨f,h1,h2,h3⟩:=h
 have:=(List.getElem?_eq_some_iff.1 hj).1
 rw[h1.cell (by omega),(h3 j it hj).2];rfl
theorem qk.frozen {w:World} {g N:Nat} {L:List NItem} (h:qk w g N L) (j:Nat):w.frozen? ⟨g,j,none⟩=false:=by
 obtain⟨f,h1,h2,h3⟩:=h
 exact h1.frozen j
theorem qk.set {w:World} {g N:Nat} {L:List NItem} (h:qk w g N L) {i:Nat} (hi:i<L.length) (it:NItem):
  qk ((w.setCell ⟨g,i*2,none⟩ (.int .i64 it.key)).setCell ⟨g,i*2+1,none⟩ (.slice it.at_ it.vals.length it.cap)) g N (L.set i it):=by
 obtain⟨f,h1,h2,h3⟩:=h
 refine⟨_,(h1.set (i*2) _).set (i*2+1) _,by simpa using h2,fun j it' hj=>?_⟩
 rw[List.getElem?_set]at hj
 by_cases e:i=j
 ·subst e
  rw[if_pos rfl,if_pos hi]at hj
  cases hj
  constructor
  ·rw[if_neg (by omega),if_pos rfl]
  ·rw[if_pos rfl];rfl
 ·rw[if_neg e]at hj
  obtain⟨q1,q2⟩:=h3 j it' hj
  constructor
  ·rw[if_neg (by omega),if_neg (by omega),q1]
  ·rw[if_neg (by omega),if_neg (by omega),q2]
theorem qk.take {w:World} {g N:Nat} {L:List NItem} (h:qk w g N L) (i:Nat):qk w g N (L.take i):=by
 obtain⟨f,h1,h2,h3⟩:=h
 refine⟨f,h1,by rw[List.length_take];omega,fun j it hj=>?_⟩
 rw[List.getElem?_take]at hj
 split at hj
 ·exact h3 j it hj
 ·cases hj
theorem pg {g t N:Nat}: ∀(vs:List Value) (o:Nat) (w:World) (f:Nat->Value),w.rowIs g t N f-> ∃f',(w.setCells g o vs).rowIs g t N f'/\(∀j,j<o->f' j=f j)/\ ∀k,k≠g->(w.setCells g o vs).heap[k]?=w.heap[k]?
 |[],o,w,f,h=>⟨f,h,fun _ _=>rfl,fun _ _=>rfl⟩
 |v::r,o,w,f,h=>by
  obtain⟨f',h1,h2,h3⟩:=pg r (o+1) (w.setCell ⟨g,o,none⟩ v) _ (h.set o v)
  refine⟨f',h1,fun j hj=>?_,fun k hk=>?_⟩
  ·rw[h2 j (by omega),if_neg (by omega)]
  ·show((w.setCell ⟨g,o,none⟩ v).setCells g (o+1) r).heap[k]?=_
   rw[h3 k hk,Below.heap_setCell _ _ _ _ hk]
def eD (prev:NItem):List NItem->List NItem
 |[]=>[]
 |b::l=>if rY b prev then eD b l else b::eD b l
def cB:List NItem->List NItem
 |[]=>[]
 |a::l=>a::eD a l
theorem tQ {P:Program} (w:World) (t e ty:TypeId) (z:Value) (ht:P.underlying t=some (.slice e)) (hv: ∀w,(zeroValue e).run P w= .ok z w) (h1: ∀v∈z.cells,v.oneCell'=true) (hz:0<z.cells.size) (b o n c:Nat) (hn:0<n)
  (hc: ∀j,j<n*z.cells.size->(w.cell? ⟨b,o+j,none⟩).isSome=true) (hf: ∀j,j<n*z.cells.size->w.frozen? ⟨b,o+j,none⟩=false):
  (Builtin.clear_ #[t] ty #[.slice (some ⟨b,o,none⟩) n c]).run P w= .ok (.tuple #[]) (w.setCells b o (Builtin.zeroCells z.cells n).toList):=by
 have hlen:(Builtin.zeroCells z.cells n).toList.length=n*z.cells.size:=by simp[Builtin.zeroCells]
 have hst:=run_storeCells_cells (P:=P) b o (Builtin.zeroCells z.cells n).toList 0 w (by rw[hlen];simpa using hc) (by rw[hlen];simpa using hf) (by
  intro v hv'
  simp[Builtin.zeroCells]at hv'
  obtain⟨k,_,rfl⟩:=hv'
  have hlt:k%z.cells.size<z.cells.size:=Nat.mod_lt _ hz
  rw[getElem!_pos z.cells _ hlt]
  exact h1 _ (Array.getElem_mem hlt))
 simp only[Nat.add_zero]at hst
 obtain⟨m,rfl⟩: ∃m,n=m+1:=⟨n-1,by omega⟩
 simp[Builtin.clear_,run_underlying ht,hv,hst]
theorem fP {w w':World} (h:Ext w w') (g:Nat):w.grownBy w' (some g):=⟨h.os,h.tape,h.output,h.size,fun k hk _=>h.block k hk⟩
theorem iG {a b c:World} {g:Nat} (h:a.grownBy b (some g)) (k:b.grownBy c (some g)):a.grownBy c (some g):=
 ⟨k.os.trans h.os,k.tape.trans h.tape,k.output.trans h.output,Nat.le_trans h.size k.size,fun i hi hne=>(k.block i (Nat.lt_of_lt_of_le hi h.size) hne).trans (h.block i hi hne)⟩
theorem vK {a b:World} {g:Nat} (h:a.grownBy b (some g)) (o:Nat) (v:Value):a.grownBy (b.setCell ⟨g,o,none⟩ v) (some g):=
 iG h ⟨rfl,rfl,rfl,by simp[World.setCell],fun k _ hne=>Below.heap_setCell _ _ _ _ (fun e=>hne (by rw[e]))⟩
theorem qv {a b:World} {g:Nat}: ∀(vs:List Value) (o:Nat) {b:World},a.grownBy b (some g)->a.grownBy (b.setCells g o vs) (some g)
 |[],_,_,h=>h
 |v::r,o,_,h=>qv (b:=b) r (o+1) (vK h o v)
theorem mJ {w w':World} {g:Nat} (h:w.grownBy w' (some g)) {p:Addr} {v:Value} (hp:w.cell? p=some v) (hne:p.block≠g):w'.cell? p=some v:=
 h.cell hp (fun e=>hne (by injection e))
theorem RdI.gb {k:IntKind} {w w':World} {A:Option Addr} {zs:List Int} {g:Nat} (h:RdI k w A zs) (hne: ∀p,A=some p->p.block≠g) (hg:w.grownBy w' (some g)):RdI k w' A zs:=fun hn=>by
 obtain⟨b,off,rfl,hc⟩:=h hn
 exact⟨b,off,rfl,fun i x hx=>mJ hg (hc i x hx) (show b≠g from hne ⟨b,off,none⟩ rfl)⟩
theorem ItemOk.gb {w w':World} {g:Nat} {it:NItem} (h:ItemOk w g it) (hg:w.grownBy w' (some g)):ItemOk w' g it:=⟨h.rd.gb h.ne hg,h.ne,h.le⟩
theorem qs {L:List NItem} {k:Nat} {a:NItem} (hQ: ∀j a b,j+1<k+1->L[j+1]?=some a->L[j]?=some b->rY a b=false) (hk:L[k]?=some a):cB L=L.take (k+1)++eD a (L.drop (k+1)):=by
 induction k generalizing a with
 |zero=>
  cases L with
  |nil=>simp at hk
  |cons b l=>simp at hk;subst hk;simp[cB]
 |succ k ih=>
  have hlt:k<L.length:=by have:=(List.getElem?_eq_some_iff.1 hk).1;omega
  obtain⟨b,hb⟩:=getElem?_of_lt hlt
  have hlt2:=(List.getElem?_eq_some_iff.1 hk).1
  have e:=hQ k a b (by omega) hk hb
  rw[ih (fun j a b h=>hQ j a b (by omega)) hb]
  rw[List.drop_eq_getElem_cons hlt2]
  have e2:L[k+1]=a:=(List.getElem?_eq_some_iff.1 hk).2
  rw[e2,eD,e]
  have e3:L.take (k+1+1)=L.take (k+1)++[a]:=by rw[List.take_succ_eq_append_getElem hlt2,e2]
  rw[e3]
  simp
theorem qt {L:List NItem} (hQ: ∀j a b,j+1<L.length->L[j+1]?=some a->L[j]?=some b->rY a b=false):cB L=L:=by
 cases hL:L with
 |nil=>rfl
 |cons a l=>
  have hlen:0<L.length:=by rw[hL];simp
  obtain⟨b,hb⟩:=getElem?_of_lt (l:=L) (k:=L.length-1) (by omega)
  have:=qs (k:=L.length-1) (fun j a b h=>hQ j a b (by omega)) hb
  rw[show L.length-1+1=L.length from by omega,List.take_length,List.drop_length]at this
  rw[hL]at this
  rw[this];simp[eD]
theorem ur {L:List NItem} {m:Nat} {a b:NItem} (ha:L[m+1]?=some a) (e:rY a b=true):eD b (L.drop (m+1))=eD a (L.drop (m+1+1)):=by
 have hlt:=(List.getElem?_eq_some_iff.1 ha).1
 rw[List.drop_eq_getElem_cons hlt,(List.getElem?_eq_some_iff.1 ha).2,eD,if_pos e]
theorem Ci {L:List NItem} {m:Nat} {a b:NItem} (ha:L[m+1]?=some a) (e:rY a b=false):eD b (L.drop (m+1))=a::eD a (L.drop (m+1+1)):=by
 have hlt:=(List.getElem?_eq_some_iff.1 ha).1
 rw[List.drop_eq_getElem_cons hlt,(List.getElem?_eq_some_iff.1 ha).2,eD,if_neg (by simp[e])]
theorem EM {L pre:List NItem} {m:Nat} (h:pre.length<=m):(pre++L.drop pre.length)[m]?=L[m]?:=by
 rw[List.getElem?_append_right h,List.getElem?_drop,Nat.add_sub_cancel' h]
theorem G8 {L pre:List NItem} {a:NItem} (h:pre.length<L.length):(pre++L.drop pre.length).set pre.length a=(pre++[a])++L.drop (pre++[a]).length:=by
 have e:L.drop pre.length=L[pre.length]::L.drop (pre.length+1):=List.drop_eq_getElem_cons h
 rw[List.set_append_right _ _ (Nat.le_refl _),Nat.sub_self,e,List.set_cons_zero]
 simp
theorem qK (g cap:Nat) (L:List NItem) (bx sx so:Nat) (w:World) (hL:qk w g (cap*2) L) (hcap:L.length<=cap) (hlen:L.length<=4611686018427387904)
  (hok: ∀it∈L,ItemOk w g it) (h1:w.cell? ⟨bx,0,none⟩=some (.pointer (some ⟨sx,so,none⟩))) (h2:w.cell? ⟨sx,so+1,none⟩=some (.func (Fn.func 35) #[] #[])) (hbx:bx≠g) (hsx:sx≠g):
  Calls Tryz.prog 80 #[.slice (some ⟨g,0,none⟩) L.length cap,.func (Fn.func 81) #[] #[.pointer (some ⟨bx,0,none⟩)]] w fun e w'=>
   e= .returned (.slice (some ⟨g,0,none⟩) (cB L).length cap)/\qk w' g (cap*2) (cB L)/\w.grownBy w' (some g):=by
 have HL:=Lib.hid hL
 have HOK:=Lib.hid hok
 have HB1:=Lib.hid h1
 have HB2:=Lib.hid h2
 have HN1:=Lib.hid hbx
 have HN2:=Lib.hid hsx
 clear hL hok h1 h2 hbx hsx
 have hz59: ∀w,(zeroValue 74).run Tryz.prog w= .ok (.agg #[.int .i64 0,.slice none 0 0]) w:=fun w=>by kernel_rfl
 have HZ:=Lib.hid hz59
 clear hz59
 by_cases hsz:L.length<2
 ·have HC:Hid (cB L=L):=Lib.hid (qt (fun j a b h=>by omega))
  go_enter Tryz.func80,Tryz.ntmps80
  go_wp2_with fail
  go_ret
  rw[HC.out]
  exact⟨rfl,HL.out,World.grownBy.refl _ _⟩
 ·have hszb:decide ((L.length:Int)<2)=false:=by simp;omega
  go_enter Tryz.func80,Tryz.ntmps80
  go_wp2_with fail
  clear hszb
  go_loopw [5,6,7] (fun i _ _ wr=> ∃k:Nat,1<=k/\k<=L.length/\i= .int .i64 k/\Hid (Ext w wr)/\Hid (∀j a b,j+1<k->L[j+1]?=some a->L[j]?=some b->rY a b=false)) (fun i _ _ _=>L.length-(intOf i).toNat)
  case atStart=>exact⟨1,by omega,by omega,rfl,Lib.hid (Ext.refl _),Lib.hid (fun j a b h=>by omega)⟩
  case round=>
   obtain⟨k,hk1,hk,rfl,HE,HQ⟩:=hrel
   by_cases hlt:k<L.length
   ·obtain⟨a,ha⟩:=getElem?_of_lt hlt
    obtain⟨b,hb⟩:=getElem?_of_lt (l:=L) (k:=k-1) (by omega)
    have HA:=Lib.hid ha
    have HB:=Lib.hid hb
    clear ha hb
    have HL1:=Lib.hid (HL.out.ext (HE.out.drew))
    have t1:=HL1.out.cell0 HA.out
    have t2:=HL1.out.cell1 HA.out
    have t3:=HL1.out.cell0 HB.out
    have t4:=HL1.out.cell1 HB.out
    have HE1:=Lib.hid HE.out.drew
    clear HE
    have a1:IntKind.i64.wrap ((k:Int)-1)=(k:Int)-1:=IntWalk.i64_in _ (by omega)
    have a2:0<=(k:Int)-1:=by omega
    have a3:((k:Int)-1).toNat=k-1:=by omega
    have a4:(k:Int)-1<(L.length:Int):=by omega
    have a5:(1:Int)<=(k:Int):=by omega
    go_wp2_with fail
    refine dV 10 (by kernel_rfl) (by kernel_rfl) ?_
    simp only[List.take_succ_cons,List.take_zero,List.drop_succ_cons,List.drop_zero]
    generalize wr.drew=w3 at*
    iterate 10 still_step
    refine wpStill_nil ?_
    have HC:=Lib.hid (tj a b bx sx so w3 g ((HOK.out a (List.mem_of_getElem? HA.out)).ext HE1.out) ((HOK.out b (List.mem_of_getElem? HB.out)).ext HE1.out) (HE1.out.cell HB1.out) (HE1.out.cell HB2.out))
    unfold NItem.agg at HC
    clear t1 t2 t3 t4 HL1 a1 a2 a3 a4 a5
    cases heq:rY a b with
    |false=>
     rw[heq]at HC
     have HEQ:=Lib.hid heq
     clear heq
     go_wp2_with fail
     refine HC.out.mono ?_
     rintro e w' ⟨rfl,he⟩
     have HE2:=Lib.hid (HE1.out.trans he)
     clear he
     go_wp2_with fail
     go_roundw
     case rel=>
      refine⟨k+1,by omega,by omega,by go_num,HE2,Lib.hid (fun j x y hj hx hy=>?_)⟩
      by_cases e:j+1=k
      ·subst e
       rw[HA.out]at hx
       have hB:=HB.out
       rw[show j+1-1=j from by omega,hy]at hB
       cases hx;cases hB
       exact HEQ.out
      ·exact HQ.out j x y (by omega) hx hy
     case measure=>simp[intOf];omega
    |true=>
     rw[heq]at HC
     have HEQ:=Lib.hid heq
     clear heq
     have HCP:Hid (cB L=L.take k++eD a (L.drop (k+1))):=Lib.hid (by
      obtain⟨m,rfl⟩: ∃m,k=m+1:=⟨k-1,by omega⟩
      rw[qs (k:=m) HQ.out HB.out,ur HA.out HEQ.out])
     go_wp2_with fail
     refine HC.out.mono ?_
     rintro e w' ⟨rfl,he⟩
     have HE2:=Lib.hid (HE1.out.trans he)
     clear he HC HE1
     go_wp2_with fail
     obtain⟨wo,rfl⟩: ∃wo:World,wo=wr:=⟨_,rfl⟩
     go_loopw [7,5] (fun s i wx=> ∃(j:Nat) (pre:List NItem) (last:NItem),1<=j/\j<=L.length-k/\s= .int .i64 j/\i= .int .i64 (pre.length:Nat)/\k<=pre.length/\pre.length+1<=k+j/\Hid (L[k+j-1]?=some last)/\Hid (cB L=pre++eD last (L.drop (k+j)))/\Hid (qk wx g (cap*2) (pre++L.drop pre.length))/\Hid (w.grownBy wx (some g))) (fun s _ _=>L.length-(intOf s).toNat)
     case atStart=>
      have hlt':(L.take k).length=k:=by rw[List.length_take];omega
      refine⟨1,L.take k,a,by omega,by omega,rfl,by rw[hlt'],by omega,by omega,Lib.hid (by rw[show k+1-1=k from by omega];exact HA.out),HCP,Lib.hid ?_,Lib.hid (fP HE2.out g)⟩
      rw[hlt',List.take_append_drop]
      exact HL.out.ext HE2.out
     case round=>
      clear HE2 HCP HEQ HQ HA HB
      obtain⟨j,pre,last,hj1,hj,rfl,rfl,hp1,hp2,HLA,HCP,HLS,HGB⟩:=hrel
      by_cases hjl:j<L.length-k
      ·obtain⟨a2,ha2⟩:=getElem?_of_lt (l:=L) (k:=k+j) (by omega)
       have m1:(pre++L.drop pre.length)[k+j]?=some a2:=by rw[EM (by omega)];exact ha2
       have m2:(pre++L.drop pre.length)[k+(j-1)]?=some last:=by rw[EM (by omega),show k+(j-1)=k+j-1 from by omega];exact HLA.out
       have t1:=HLS.out.cell0 m1
       have t2:=HLS.out.cell1 m1
       have t3:=HLS.out.cell0 m2
       have t4:=HLS.out.cell1 m2
       rw[Nat.add_mul]at t1 t2 t3 t4
       have HA2:=Lib.hid ha2
       have HM1:=Lib.hid m1
       clear ha2 m1 m2
       have t1':wr.drew.cell? _=_:=t1
       have t2':wr.drew.cell? _=_:=t2
       have t3':wr.drew.cell? _=_:=t3
       have t4':wr.drew.cell? _=_:=t4
       have HGB1:Hid (w.grownBy wr.drew (some g)):=Lib.hid (iG HGB.out (fP ((Ext.refl _).drew) g))
       have HLS1:Hid (qk wr.drew g (cap*2) (pre++L.drop pre.length)):=Lib.hid (HLS.out.ext ((Ext.refl _).drew))
       clear t1 t2 t3 t4 HGB HLS
       have hjz:(j:Int)<((L.length-k:Nat):Int):=by omega
       have a1:IntKind.i64.wrap ((j:Int)-1)=(j:Int)-1:=IntWalk.i64_in _ (by omega)
       have a2':0<=(j:Int)-1:=by omega
       have a3:((j:Int)-1).toNat=j-1:=by omega
       have a4:(j:Int)-1<((L.length-k:Nat):Int):=by omega
       have a5:(1:Int)<=(j:Int):=by omega
       go_wp2_with fail
       refine dV 10 (by kernel_rfl) (by kernel_rfl) ?_
       simp only[List.take_succ_cons,List.take_zero,List.drop_succ_cons,List.drop_zero]
       generalize wr.drew=w3 at*
       iterate 10 still_step
       refine wpStill_nil ?_
       have HC:=Lib.hid (tj a2 last bx sx so w3 g ((HOK.out a2 (List.mem_of_getElem? HA2.out)).gb HGB1.out) ((HOK.out last (List.mem_of_getElem? HLA.out)).gb HGB1.out) (mJ HGB1.out HB1.out HN1.out) (mJ HGB1.out HB2.out HN2.out))
       unfold NItem.agg at HC
       clear t3' t4' a1 a2' a3 a4 a5
       cases heq:rY a2 last with
       |true=>
        rw[heq]at HC
        have HEQ:=Lib.hid heq
        clear heq t1' t2'
        go_wp2_with fail
        refine HC.out.mono ?_
        rintro e w4 ⟨rfl,he⟩
        have HGB2:=Lib.hid (iG HGB1.out (fP he g))
        have HLS2:=Lib.hid (HLS1.out.ext he)
        clear he
        go_wp2_with fail
        go_roundw
        case rel=>
         refine⟨j+1,pre,a2,by omega,by omega,by go_num,rfl,hp1,by omega,Lib.hid (by rw[show k+(j+1)-1=k+j from by omega];exact HA2.out),Lib.hid ?_,HLS2,HGB2⟩
         obtain⟨m,hm⟩: ∃m,k+j=m+1:=⟨k+j-1,by omega⟩
         have h1:=HA2.out
         rw[hm]at h1
         rw[HCP.out,hm,ur h1 HEQ.out,show k+(j+1)=m+1+1 from by omega]
        case measure=>simp[intOf];omega
       |false=>
        rw[heq]at HC
        have HEQ:=Lib.hid heq
        clear heq
        have hpl:pre.length<L.length:=by omega
        have hpz:(pre.length:Int)<(L.length:Int):=by omega
        obtain⟨p,hp⟩: ∃p,p=pre.length:=⟨_,rfl⟩
        go_wp2_with fail
        refine HC.out.mono ?_
        rintro e w4 ⟨rfl,he⟩
        have HGB2:=Lib.hid (iG HGB1.out (fP he g))
        have HLS2:=Lib.hid (HLS1.out.ext he)
        have s1:=he.cell t1'
        have s2:=he.cell t2'
        have hlm:pre.length<(pre++L.drop pre.length).length:=by rw[List.length_append,List.length_drop];omega
        obtain⟨q,hq⟩:=getElem?_of_lt hlm
        have s3:=HLS2.out.cell0 hq
        have s4:=HLS2.out.cell1 hq
        have s5:=HLS2.out.frozen (pre.length*2)
        have s6:=HLS2.out.frozen (pre.length*2+1)
        have HSET:=Lib.hid (HLS2.out.set hlm a2)
        clear he t1' t2' hq hlm HC hp
        go_wp2_with fail
        go_roundw
        case rel=>
         refine⟨j+1,pre++[a2],a2,by omega,by omega,by go_num,by simp,by simp;omega,by simp;omega,Lib.hid (by rw[show k+(j+1)-1=k+j from by omega];exact HA2.out),Lib.hid ?_,Lib.hid ?_,Lib.hid (vK (vK HGB2.out _ _) _ _)⟩
         ·obtain⟨m,hm⟩: ∃m,k+j=m+1:=⟨k+j-1,by omega⟩
          have h1:=HA2.out
          rw[hm]at h1
          rw[HCP.out,hm,Ci h1 HEQ.out,show k+(j+1)=m+1+1 from by omega]
          simp
         ·have:=HSET.out
          rw[G8 hpl]at this
          exact this
        case measure=>simp[intOf];omega
      ·have hjl':j=L.length-k:=by omega
       have HF:Hid (cB L=pre):=Lib.hid (by rw[HCP.out,show k+j=L.length from by omega,List.drop_length];simp[eD])
       have hpl:pre.length<L.length:=by omega
       have hcl: ∀ty,(Builtin.clear_ #[67] ty #[.slice (some ⟨g,pre.length*2,none⟩) (L.length-pre.length) (cap-pre.length)]).run Tryz.prog wr= .ok (.tuple #[]) (wr.setCells g (pre.length*2) (Builtin.zeroCells #[.int .i64 0,.slice none 0 0] (L.length-pre.length)).toList):=fun ty=>by
        obtain⟨f,f1,f2,f3⟩:=HLS.out
        refine tQ wr _ 74 ty (.agg #[.int .i64 0,.slice none 0 0]) Tryz.underlying67 HZ.out (by simp[Value.cells,Value.oneCell']) (by simp[Value.cells]) g _ _ _ (by omega) (fun j hj=>?_) (fun j hj=>f1.frozen _)
        simp[Value.cells]at hj
        rw[f1.cell (by omega)];rfl
       have HCL:Hid (qk (wr.setCells g (pre.length*2) (Builtin.zeroCells #[.int .i64 0,.slice none 0 0] (L.length-pre.length)).toList) g (cap*2) pre):=Lib.hid (by
        obtain⟨f,f1,f2,f3⟩:=HLS.out
        obtain⟨f',q1,q2,_⟩:=pg (Builtin.zeroCells #[.int .i64 0,.slice none 0 0] (L.length-pre.length)).toList (pre.length*2) wr f f1
        refine⟨f',q1,by omega,fun i it hi=>?_⟩
        have hlt:=(List.getElem?_eq_some_iff.1 hi).1
        have:=f3 i it (by rw[List.getElem?_append_left hlt];exact hi)
        rw[q2 _ (by omega),q2 _ (by omega)]
        exact this)
       have HGB3:Hid (w.grownBy (wr.setCells g (pre.length*2) (Builtin.zeroCells #[.int .i64 0,.slice none 0 0] (L.length-pre.length)).toList) (some g)):=Lib.hid (qv (b:=wr) _ _ HGB.out)
       clear hjl'
       go_wp2_with fail
       go_ret
       rw[HF.out]
       exact⟨rfl,HCL.out,HGB3.out⟩
   ·have HC:Hid (cB L=L):=Lib.hid (qt (fun j a b h=>HQ.out j a b (by omega)))
    go_wp2_with fail
    go_ret
    rw[HC.out]
    exact⟨rfl,HL.out.ext HE.out,fP HE.out g⟩
def dq (l:List Int) (a:Nat):Nat:=if a<l.length then a+1 else a
end Go.Proofs.YtpgghglbpcabkaaGreat
