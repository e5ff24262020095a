/-
  Part 12 of a proof (walks and plain facts).
-/
import Derived.Test.YtfgeomlagfomgaaGreatDoorP10
import Derived.Lib.SliceRun
import Derived.Lib.SmallJoins
set_option linter.all false
set_option maxRecDepth 100000
set_option maxHeartbeats 64000000
open Nat renaming le_refl → ai
open List renaming replicate → aj
open List renaming all_eq_true → aq
open List renaming mem_map → au
open Nat renaming add_zero → az
open List renaming mem_of_getElem? → aE
open List renaming length_replicate → aG
open List renaming getElem?_map → aH
namespace Go.Proofs.YtfgeomlagfomgaaGreatDoor
open Go.RowKit
theorem xk {w w':World} (h:Ext w w'):Keep (fun _=>False) w w':=⟨h.os,h.tape,h.output,h.size,fun k hk _=>h.block k hk⟩
theorem xt {w w':World} (h:Keep (fun _=>False) w w'):Ext w w':=⟨h.os,h.tape,h.output,h.size,fun k hk=>h.block k hk (fun h=>h)⟩
theorem A2 {w w':World} {X:Nat->Prop} (h:Ext w w') (hX: ∀b,X b->b<w.heap.size):Inv w (fun _=>False) X (famH 0 []) (fun _ _=>none) w':=by
 have e: ∀a,famH 0 [] a=[]:=fun a=>by unfold famH;split<;>rfl
 refine⟨xk h,fun a r o ho=>?_,fun a r a' r' o o' b c c' ho=>?_,fun a r o b c ho=>?_,fun b hb=>Nat.lt_of_lt_of_le (hX b hb) h.size,fun a r o ho=>?_⟩<;>(rw[e]at ho;simp at ho)
theorem i6 {P:Program} {f:FuncId} {args:List TV} {r:TV} (hc:callable P f=true) (h: ∀(X:Nat->Prop) (w:World) (vs:Array Value),(∀b,X b->b<w.heap.size)->vs.size=args.length->
  (∀(j:Nat) t,args[j]?=some t-> ∃v:Value,vs[j]?=some v/\t.rel (fun _ _=>none) (fun _=>[]) X w v)->Calls P f vs w fun e w'=> ∃v,e= .returned v/\(∀ρ H Y,r.rel ρ H Y w' v)/\Ext w w'):CallC P f args ⟨[],r⟩:=
 ⟨hc,fun X w vs hX hvs ha=>(h X w vs hX hvs ha).mono fun e w' ⟨v,h1,h2,h3⟩=>⟨v,h1,fun _ _=>none,A2 h3 hX,h2 _ _ _⟩⟩
theorem CallC.calls {P:Program} {f:FuncId} {args:List TV} {r:TV} (h:CallC P f args ⟨[],r⟩) {w:World} {vs:Array Value} (hvs:vs.size=args.length)
  (ha: ∀(j:Nat) t,args[j]?=some t-> ∃v:Value,vs[j]?=some v/\t.rel (fun _ _=>none) (fun _=>[]) (fun _=>False) w v):Calls P f vs w fun e w'=> ∃v,e= .returned v/\(∃ρ H X,r.rel ρ H X w' v)/\Ext w w':=
 (h.2 (fun _=>False) w vs (fun b h=>h.elim) hvs ha).mono fun e w' ⟨v,h1,ρ,h2,h3⟩=>⟨v,h1,⟨_,_,_,h3⟩,xt h2.keep⟩
theorem qR {ρ:Rho} {H:OH} {X:Nat->Prop} {w:World} (v:Int) (b:Bool):(Dk v b).rel ρ H X w (.tuple #[.int .i64 v,.bool b]):=by
 refine⟨#[.int .i64 v,.bool b],rfl,rfl,fun j c cs hj=>?_⟩
 match j,hj with
 |0,hj=>
  simp at hj
  obtain⟨rfl,rfl⟩:=hj
  exact⟨_,rfl,.inr ⟨rfl,_,rfl,ee.raw _ rfl⟩⟩
 |1,hj=>
  simp at hj
  obtain⟨rfl,rfl⟩:=hj
  exact⟨_,rfl,.inr ⟨rfl,_,rfl,ee.raw _ rfl⟩⟩
 |j+2,hj=>simp at hj
theorem sE {ρ:Rho} {H:OH} {X:Nat->Prop} {w:World} (b:Bool):(TV.raw (.bool b)).rel ρ H X w (.bool b):=ee.raw _ rfl
theorem qT {X:Nat->Prop} {w:World} {u v:Value} (h:ee X w (.raw u) v):v=u:=by cases h;rfl
theorem kx {X:Nat->Prop} {w:World} {l:List Int} {v:Value} (h:ee X w (.sl (ls fI l)) v): ∃A c,v= .slice A l.length c/\l.length<=c/\l.length<=9223372036854775807/\RdI .i64 w A l:=by
 generalize hx:PV.sl (ls fI l)=x at h
 cases h with
 |raw v h=>cases hx
 |ptr b off cs f hX hb hc hr=>cases hx
 |nil a c=>
  injection hx with hx
  have hl:l=[]:=by simpa[ls] using hx
  subst hl
  exact⟨a,c,rfl,Nat.zero_le _,by simp,RdI.nil _ _ _⟩
 |sl b off es cap xs f hX hb hes hcap hm hc hr=>
  injection hx with hx
  subst hx
  rw[bE]at hcap hm
  refine⟨some ⟨b,off,none⟩,cap,by rw[bE],hcap,hm,fun hne=>⟨b,off,rfl,fun i x hx=>?_⟩⟩
  rw[aH]at hx
  obtain⟨z,hz,rfl⟩:=Option.map_eq_some_iff.1 hx
  have h1:(ls fI l)[i]?=some (fI z):=by rw[ch,hz];rfl
  have he:es=1:=by rw[<- hes _ (aE h1)];rfl
  subst he
  have h2:=hc i _ 0 _ h1 rfl
  have h3:=qT (hr i _ 0 _ h1 rfl)
  rw[h3,Nat.mul_one,az]at h2
  exact h2
theorem nC {X:Nat->Prop} {w:World} {M:List (List Int)} {v:Value} (h:ee X w (.sl (ls (fR fI) M)) v): ∃A c,v= .slice A M.length c/\M.length<=c/\M.length<=9223372036854775807/\pB .i64 w A M:=by
 generalize hx:PV.sl (ls (fR fI) M)=x at h
 cases h with
 |raw v h=>cases hx
 |ptr b off cs f hX hb hc hr=>cases hx
 |nil a c=>
  injection hx with hx
  have hl:M=[]:=by simpa[ls] using hx
  subst hl
  exact⟨a,c,rfl,Nat.zero_le _,by simp,pB.nil _ _ _⟩
 |sl b off es cap xs f hX hb hes hcap hm hc hr=>
  injection hx with hx
  subst hx
  rw[bE]at hcap hm
  refine⟨some ⟨b,off,none⟩,cap,by rw[bE],hcap,hm,fun hne=>⟨b,off,rfl,fun i r hi=>?_⟩⟩
  have h1:(ls (fR fI) M)[i]?=some (fR fI r):=by rw[ch,hi];rfl
  have he:es=1:=by rw[<- hes _ (aE h1)];rfl
  subst he
  have h2:=hc i _ 0 _ h1 rfl
  have h3:=kx (hr i _ 0 _ h1 rfl)
  rw[Nat.mul_one,az]at h2
  exact⟨_,h2,h3⟩
theorem Ip {w:World} {l:List Int} {A:Option Addr} {c:Nat} (hl:l.length<=c) (hm:l.length<=9223372036854775807) (h:RdI .i64 w A l):ee (fun _=>False) w (.sl (ls fI l)) (.slice A l.length c):=by
 cases l with
 |nil=>exact ee.nil _ _
 |cons z0 l0=>
  obtain⟨b,off,rfl,hc⟩:=h (by simp)
  have h0:=hc 0 (.int .i64 z0) (by simp)
  have hb:b<w.heap.size:=lR h0
  have:=ee.sl (X:=fun _=>False) (w:=w) b off 1 c (ls fI (z0::l0)) (fun i _=> .int .i64 ((z0::l0).getD i 0)) (fun h=>h) hb (fun e he=>by
   obtain⟨z,_,rfl⟩:=List.mem_map.1 he
   rfl) (by rw[bE];exact hl) (by rw[bE];exact hm) (fun i e j x he hx=>by
   rw[ch]at he
   obtain⟨z,hz,rfl⟩:=Option.map_eq_some_iff.1 he
   cases j with
   |succ j=>simp[fI]at hx
   |zero=>
    have:=hc i (.int .i64 z) (by rw[aH,hz];rfl)
    simp only[Nat.mul_one,az,List.getD_eq_getElem?_getD,hz,Option.getD_some]
    exact this) (fun i e j x he hx=>by
   rw[ch]at he
   obtain⟨z,hz,rfl⟩:=Option.map_eq_some_iff.1 he
   cases j with
   |succ j=>simp[fI]at hx
   |zero=>
    simp[fI]at hx
    subst hx
    simp only[List.getD_eq_getElem?_getD,hz,Option.getD_some]
    exact ee.raw _ rfl)
  rw[bE]at this
  exact this
theorem Iq {w:World} {M:List (List Int)} {A:Option Addr} {c:Nat} (hl:M.length<=c) (hm:M.length<=9223372036854775807) (h:pB .i64 w A M):ee (fun _=>False) w (.sl (ls (fR fI) M)) (.slice A M.length c):=by
 cases M with
 |nil=>exact ee.nil _ _
 |cons r0 M0=>
  obtain⟨b,off,rfl,hc⟩:=h (by simp)
  obtain⟨v0,h0,_⟩:=hc 0 r0 rfl
  have hb:b<w.heap.size:=lR h0
  have:=ee.sl (X:=fun _=>False) (w:=w) b off 1 c (ls (fR fI) (r0::M0)) (fun i _=>(w.cell? ⟨b,off+i,none⟩).getD undef) (fun h=>h) hb (fun e he=>by
   obtain⟨z,_,rfl⟩:=List.mem_map.1 he
   rfl) (by rw[bE];exact hl) (by rw[bE];exact hm) (fun i e j x he hx=>by
   rw[ch]at he
   obtain⟨r,hr,rfl⟩:=Option.map_eq_some_iff.1 he
   cases j with
   |succ j=>simp[fR]at hx
   |zero=>
    obtain⟨v,h1,h2⟩:=hc i r hr
    simp only[Nat.mul_one,az,h1,Option.getD_some]) (fun i e j x he hx=>by
   rw[ch]at he
   obtain⟨r,hr,rfl⟩:=Option.map_eq_some_iff.1 he
   cases j with
   |succ j=>simp[fR]at hx
   |zero=>
    simp[fR]at hx
    subst hx
    obtain⟨v,h1,B,c',rfl,h3,h4,h5⟩:=hc i r hr
    simp only[h1,Option.getD_some]
    exact Ip h3 h4 h5)
  rw[bE]at this
  exact this
/-! The program's functions. -/
theorem my {args:List TV} {vs:Array Value} {X:Nat->Prop} {w:World} (h: ∀(j:Nat) t,args[j]?=some t-> ∃v:Value,vs[j]?=some v/\t.rel (fun _ _=>none) (fun _=>[]) X w v) {j:Nat} {x:PV} (hj:args[j]?=some (.one (.p x))): ∃v:Value,vs[j]?=some v/\ee X w x v:=h j _ hj
theorem Fg (M:List (List Int)) (x y:List Int):CallC Tryz.prog 47 [dx M,mp x,mp y] ⟨[],CE M x y⟩:=by
 refine i6 (by kernel_rfl) fun X w vs hX hvs ha=>?_
 obtain⟨v0,e0,r0⟩:=my ha (j:=0) rfl
 obtain⟨v1,e1,r1⟩:=my ha (j:=1) rfl
 obtain⟨v2,e2,r2⟩:=my ha (j:=2) rfl
 obtain⟨A,c,rfl,hc,hl,hR⟩:=nC r0
 obtain⟨B,d,rfl,hd,hlx,hx⟩:=kx r1
 obtain⟨C,d',rfl,hd',hly,hy⟩:=kx r2
 obtain rfl:vs= #[.slice A M.length c,.slice B x.length d,.slice C y.length d']:=by
  apply Array.ext_getElem?
  intro j
  match j with
  |0=>exact e0
  |1=>exact e1
  |2=>exact e2
  |j+3=>rw[Array.getElem?_eq_none (by simp at hvs;omega)];rfl
 obtain⟨v,b,g1,g2⟩:=rU M x y
 refine(uh A B C c d d' M x y w hR hx hy hl hc hlx hly).mono fun e w' ⟨h1,h2⟩=>?_
 rw[g2]at h1
 rw[g1]
 exact⟨_,h1,fun _ _ _=>qR v b,h2⟩
theorem Br (M:List (List Int)) (x:List Int):CallC Tryz.prog 93 [dx M,mp x] ⟨[],CE M x x⟩:=by
 refine i6 (by kernel_rfl) fun X w vs hX hvs ha=>?_
 obtain⟨v0,e0,r0⟩:=my ha (j:=0) rfl
 obtain⟨v1,e1,r1⟩:=my ha (j:=1) rfl
 obtain⟨A,c,rfl,hc,hl,hR⟩:=nC r0
 obtain⟨B,d,rfl,hd,hlx,hx⟩:=kx r1
 obtain rfl:vs= #[.slice A M.length c,.slice B x.length d]:=by
  apply Array.ext_getElem?
  intro j
  match j with
  |0=>exact e0
  |1=>exact e1
  |j+2=>rw[Array.getElem?_eq_none (by simp at hvs;omega)];rfl
 obtain⟨v,b,g1,g2⟩:=rU M x x
 refine(EY A B c d M x w hR hx hl hc hlx).mono fun e w' ⟨h1,h2⟩=>?_
 rw[g2]at h1
 rw[g1]
 exact⟨_,h1,fun _ _ _=>qR v b,h2⟩
section
theorem ee.later {Y Y':Nat->Prop} {w w':World} (hY: ∀b,b<w.heap.size->Y' b->Y b) (hs:w.heap.size<=w'.heap.size) (hc: ∀p v,p.block<w.heap.size-> ¬Y p.block->w.cell? p=some v->w'.cell? p=some v) {x:PV} {v:Value} (h:ee Y w x v):ee Y' w' x v:=by
 induction h with
 |raw v h=>exact .raw v h
 |nil a c=>exact .nil a c
 |sl b off es cap xs f hX hb hes hcap hm hcc hr ih=>exact .sl b off es cap xs f (fun h=>hX (hY _ hb h)) (Nat.lt_of_lt_of_le hb hs) hes hcap hm (fun i e j x h1 h2=>hc ⟨b,_,none⟩ _ hb hX (hcc i e j x h1 h2)) ih
 |ptr b off cs f hX hb hcc hr ih=>exact .ptr b off cs f (fun h=>hX (hY _ hb h)) (Nat.lt_of_lt_of_le hb hs) (fun j x h1=>hc ⟨b,_,none⟩ _ hb hX (hcc j x h1)) ih
theorem pG {w w':World} {p:Addr} (h:w'.heap[p.block]?=w.heap[p.block]?):w'.cell? p=w.cell? p:=by unfold World.cell?;rw[h]
def ki (b:Nat) (ty:TypeId) (cs:List PV) (Y:Nat->Prop) (w:World):Prop:=
 ∃(cells:Array Value) (c:Nat),w.heap[b]?=some (.cells cells ty (0,0))/\cells.size=c*cs.length/\1<=c/\c<=9223372036854775807/\0<cs.length/\
  ∀(j:Nat) x,cs[j]?=some x-> ∃v:Value,cells[j]?=some v/\v.oneCell'=true/\ee Y w x v
theorem ki.later {b:Nat} {ty:TypeId} {cs:List PV} {Y Y':Nat->Prop} {w w':World} (hY: ∀j,j<w.heap.size->Y' j->Y j) (hs:w.heap.size<=w'.heap.size) (hb:w'.heap[b]?=w.heap[b]?) (hc: ∀j,j<w.heap.size-> ¬Y j->w'.heap[j]?=w.heap[j]?)
  (h:ki b ty cs Y w):ki b ty cs Y' w':=by
 obtain⟨cells,c,h1,h2,h3,h4,h5,h6⟩:=h
 refine⟨cells,c,by rw[hb];exact h1,h2,h3,h4,h5,fun j x hx=>?_⟩
 obtain⟨v,v1,v2,v3⟩:=h6 j x hx
 exact⟨v,v1,v2,v3.later hY hs fun p u hp hn hu=>by rw[pG (hc p.block hp hn)];exact hu⟩
theorem ki.weaken {b:Nat} {ty:TypeId} {cs:List PV} {Y Y':Nat->Prop} {w:World} (hY: ∀j,j<w.heap.size->Y' j->Y j) (h:ki b ty cs Y w):ki b ty cs Y' w:=
 h.later hY (ai _) rfl fun _ _ _=>rfl
section
variable {P:Program} {b:Nat} {ty:TypeId} {cs cs':List PV} {w0 w:World} {O X:Nat->Prop} {s s':AS} {a:Act}
def iN (b:Nat) (ty:TypeId) (w0:World) (O X:Nat->Prop) (s:AS) (cs:List PV) (a:Act) (w:World):Prop:=
 a.defers=[]/\a.tmps.size=s.tmps.length/\ ∃ρ,Inv w0 O X s.H ρ w/\dN X ρ s a w/\O b/\X b/\ki b ty cs (Xo X ρ s.H) w
theorem iN.rel (h:iN b ty w0 O X s cs a w):iW w0 O X s a w:=by
 obtain⟨h1,h2,ρ,h3,h4,_⟩:=h
 exact⟨h1,h2,ρ,h3,h4⟩
theorem iN.rebase (h:iN b ty w0 O X s cs a w): ∃Own:Nat->Prop,iW w Own X s a w/\ ∀s1 a1 w1,iW w Own X s1 a1 w1->iN b ty w0 O X s1 cs a1 w1:=by
 obtain⟨h1,hsz,ρ,hinv,htm,hO,hX,hbox⟩:=h
 refine⟨fun j=> ∃(x r:Nat) (o:OObj) (c:Nat),(s.H x)[r]?=some o/\ρ x r=some (j,c),⟨h1,hsz,ρ,⟨Keep.refl w,hinv.objs,hinv.inj,fun x r o j c ho hj=>⟨.inr ⟨x,r,o,c,ho,hj⟩,(hinv.old x r o j c ho hj).2⟩,hinv.bar,hinv.self⟩,htm⟩,?_⟩
 rintro s1 a1 w1 ⟨k1,ksz,ρ1,kinv,ktm⟩
 have hown: ∀j,(∃(x r:Nat) (o:OObj) (c:Nat),(s.H x)[r]?=some o/\ρ x r=some (j,c))->(w0.heap.size<=j\/O j)/\ ¬X j:=fun j ⟨x,r,o,c,g1,g2⟩=>hinv.old x r o j c g1 g2
 refine⟨k1,ksz,ρ1,⟨⟨kinv.keep.os.trans hinv.keep.os,kinv.keep.tape.trans hinv.keep.tape,kinv.keep.output.trans hinv.keep.output,Nat.le_trans hinv.keep.size kinv.keep.size,fun j hj hn=>?_⟩,kinv.objs,kinv.inj,fun x r o j c ho hj=>?_,kinv.bar,kinv.self⟩,ktm,hO,hX,?_⟩
 ·rw[kinv.keep.block j (Nat.lt_of_lt_of_le hj hinv.keep.size) (fun hh=>by
   rcases(hown j hh).1 with h|h
   ·omega
   exact hn h)]
  exact hinv.keep.block j hj hn
 ·obtain⟨g1,g2⟩:=kinv.old x r o j c ho hj
  refine⟨?_,g2⟩
  rcases g1 with g|g
  ·exact .inl (Nat.le_trans hinv.keep.size g)
  exact(hown j g).1
 refine hbox.later (fun j hj hh=>?_) kinv.keep.size (kinv.keep.block b (hinv.bar b hX) (fun hh=>(hown b hh).2 hX)) (fun j hj hn=>kinv.keep.block j hj (fun hh=>hn (.inr hh)))
 rcases hh with hh|⟨x,r,o,c,g1,g2⟩
 ·exact .inl hh
 rcases(kinv.old x r o j c g1 g2).1 with g|g
 ·omega
 exact .inr g
def kX (P:Program) (b:Nat) (ty:TypeId) (c:Code) (Q:Exit->AS->List PV->Prop) (s:AS) (cs:List PV):Prop:=
 ∀(w0:World) (O X:Nat->Prop) (a:Act) (w:World),iN b ty w0 O X s cs a w->c.wp P (fun e a' w'=> ∃s' cs',Q e s' cs'/\iN b ty w0 O X s' cs' a' w') a w
def uT (next:AS->List PV->Prop) (Q:Exit->AS->List PV->Prop):Exit->AS->List PV->Prop
 | .normal,s,k=>next s k
 |e,s,k=>Q e s k
def pF (id:Nat) (Q:Exit->AS->List PV->Prop):Exit->AS->List PV->Prop
 | .exit id',s,k=>if id'=id then Q .normal s k else Q (.exit id') s k
 |e,s,k=>Q e s k
variable {Q:Exit->AS->List PV->Prop}
theorem DO {c:Code} (h:da P c (fun e s'=>Q e s' cs) s):kX P b ty c Q s cs:=fun w0 O X a w r=>by
 obtain⟨Own,h1,h2⟩:=r.rebase
 exact wp_mono (h _ _ _ _ _ h1) fun e a' w' ⟨s',g1,g2⟩=>⟨s',cs,g1,h2 _ _ _ g2⟩
theorem kX.weak {c:Code} (h:eg s s') (k:kX P b ty c Q s' cs):kX P b ty c Q s cs:=fun _ _ _ _ _ r=>by
 obtain⟨Own,h1,h2⟩:=r.rebase
 exact k _ _ _ _ _ (h2 _ _ _ (h _ _ _ _ _ h1))
theorem iN.weak (h:eg s s') (r:iN b ty w0 O X s cs a w):iN b ty w0 O X s' cs a w:=by
 obtain⟨Own,h1,h2⟩:=r.rebase
 exact h2 _ _ _ (h _ _ _ _ _ h1)
theorem kX.mono {c:Code} {Q':Exit->AS->List PV->Prop} (h:kX P b ty c Q s cs) (k: ∀e s' cs',Q e s' cs'->Q' e s' cs'):kX P b ty c Q' s cs:=fun _ _ _ _ _ r=>
 wp_mono (h _ _ _ _ _ r) fun _ _ _ ⟨s',cs',h1,h2⟩=>⟨s',cs',k _ _ _ h1,h2⟩
theorem wQ (h:Q .normal s cs):kX P b ty .skip Q s cs:=fun _ _ _ _ _ r=>wp_skip ⟨s,cs,h,r⟩
theorem wN {id:Nat} (h:Q (.exit id) s cs):kX P b ty (.exit id) Q s cs:=fun _ _ _ _ _ r=>wp_exit ⟨s,cs,h,r⟩
theorem GN (h:Q .ret s cs):kX P b ty .ret Q s cs:=fun _ _ _ _ _ r=>wp_ret ⟨s,cs,h,r⟩
theorem kj {x y:Code} (h:kX P b ty x (uT (kX P b ty y Q) Q) s cs):kX P b ty (.seq x y) Q s cs:=fun _ _ _ _ _ r=>
 wp_seq (wp_mono (h _ _ _ _ _ r) fun e a w ⟨s',cs',h1,h2⟩=>by
  cases e with
  |normal=>exact h1 _ _ _ _ _ h2
  |_=>exact⟨s',cs',h1,h2⟩)
theorem pC {id:Nat} {x:Code} (h:kX P b ty x (pF id Q) s cs):kX P b ty (.block id x) Q s cs:=fun _ _ _ _ _ r=>
 wp_block (wp_mono (h _ _ _ _ _ r) fun e a w ⟨s',cs',h1,h2⟩=>by
  cases e with
  |exit id'=>
   simp only[pF]at h1
   simp only[Exit.inBlock]
   split at h1
   ·rename_i hid;rw[if_pos hid];exact⟨s',cs',h1,h2⟩
   rename_i hid;rw[if_neg hid];exact⟨s',cs',h1,h2⟩
  |_=>exact⟨s',cs',h1,h2⟩)
theorem wM {c:Operand} {x y:Code} {v:Bool} (hc:s.ev c=some (.raw (.bool v))) (ht:v=true->kX P b ty x Q s cs) (hf:v=false->kX P b ty y Q s cs):kX P b ty (.cond c x y) Q s cs:=fun _ _ _ _ _ r=>by
 obtain⟨h1,hsz,ρ,hinv,htm,_⟩:=id r
 have hb:=(dQ (eH htm c _ hc)).1
 exact wp_cond_split hb (fun h=>ht h _ _ _ _ _ r) (fun h=>hf h _ _ _ _ _ r)
theorem DM {P:Program} {b:Nat} {ty:TypeId} {cs:List PV} {s:AS} {Q:Exit->AS->List PV->Prop} {c:Operand} {x y:Code} {v:Bool} (hc:s.ev c=some (.raw (.bool v))) (ht:kX P b ty x Q s cs) (hf:v=false->False:=by intro h;simp at h<;>omega):kX P b ty (.cond c x y) Q s cs:=wM hc (fun _=>ht) (fun h=>(hf h).elim)
theorem DL {P:Program} {b:Nat} {ty:TypeId} {cs:List PV} {s:AS} {Q:Exit->AS->List PV->Prop} {c:Operand} {x y:Code} {v:Bool} (hc:s.ev c=some (.raw (.bool v))) (ht:kX P b ty y Q s cs) (hf:v=true->False:=by intro h;simp at h<;>omega):kX P b ty (.cond c x y) Q s cs:=wM hc (fun h=>(hf h).elim) (fun _=>ht)
theorem DN {G:Type} (St:G->AS) (Sc:G->List PV) (μ:G->Nat) (g0:G) {c:Code} (h0:eg s (St g0)) (h0':Sc g0=cs)
  (round: ∀g,kX P b ty c (uT (fun s' cs'=> ∃g',μ g'<μ g/\eg s' (St g')/\Sc g'=cs') Q) (St g) (Sc g)):kX P b ty (.loop c) Q s cs:=fun w0 O X a w r=>by
 classical
 subst h0'
 let p:Act->World->Nat->Prop:=fun a w n=> ∃g,μ g=n/\iN b ty w0 O X (St g) (Sc g) a w
 let m:Act->World->Nat:=fun a w=>if h: ∃n,p a w n then Classical.choose (dB h)else 0
 refine wp_loop (fun a w=> ∃n,p a w n) m ⟨_,g0,rfl,r.weak h0⟩ ?_
 intro a w hI
 have hm:m a w=Classical.choose (dB hI):=dif_pos hI
 obtain⟨hp,hleast⟩:=Classical.choose_spec (dB hI)
 rw[<- hm]at hp
 obtain⟨g,hg,hr⟩:=hp
 refine wp_mono (round g _ _ _ _ _ hr) fun e a' w' ⟨s',cs',h1,h2⟩=>?_
 cases e with
 |normal=>
  obtain⟨g',hlt,hw,hcs⟩:=h1
  subst hcs
  have hr':=h2.weak hw
  have hI': ∃n,p a' w' n:=⟨_,g',rfl,hr'⟩
  refine⟨hI',?_⟩
  have hm':m a' w'=Classical.choose (dB hI'):=dif_pos hI'
  obtain⟨_,hl'⟩:=Classical.choose_spec (dB hI')
  have:=hl' (μ g') ⟨g',rfl,hr'⟩
  rw[hm']
  omega
 |_=>exact⟨s',cs',h1,h2⟩
theorem wO {G:Type} (St:G->AS) (Sc:G->List PV) (μ:G->Nat) (g0:G) {id:Nat} {x:Code} (h0:eg s (St g0)) (h0':Sc g0=cs)
  (round: ∀g,kX P b ty x (uT (fun s' cs'=> ∃g',μ g'<μ g/\eg s' (St g')/\Sc g'=cs') (pF id Q)) (St g) (Sc g)):kX P b ty (.block id (.loop x)) Q s cs:=
 pC (DN St Sc μ g0 h0 h0' round)
/-! Regions without lent calls. -/
theorem gC {y:Code} (items:List (bj P)) (ow:List Nat) {id:Nat} {ops:Array Oper} (hl:s.tmps.length<=1000000) (h: ∀K:AS->Prop,(∀s',kX P b ty y Q s' cs->K s')->fd P (items.map bj.a) ow (dZ ops ops.toList 0) (some s) K):kX P b ty (.seq (.region id ops false) y) Q s cs:=
 kj (DO (m6 items ow hl (h _ fun _ h=>h)))
theorem wP (items:List (bj P)) (ow:List Nat) {id:Nat} {ops:Array Oper} (hl:s.tmps.length<=1000000) (h: ∀K:AS->Prop,(∀s',Q .normal s' cs->K s')->fd P (items.map bj.a) ow (dZ ops ops.toList 0) (some s) K):kX P b ty (.region id ops false) Q s cs:=
 DO (m6 items ow hl (h _ fun _ h=>h))
end
def CallT (P:Program) (b:Nat) (ty:TypeId) (f:FuncId) (args:List TV) (cs:List PV) (res:CallRes) (cs':List PV):Prop:=
 callable P f=true/\ ∀(X:Nat->Prop) (w:World) (vs:Array Value),(∀j,X j->j<w.heap.size)->X b->ki b ty cs X w->vs.size=args.length->
  (∀(j:Nat) t,args[j]?=some t-> ∃v:Value,vs[j]?=some v/\t.rel (fun _ _=>none) (fun _=>[]) X w v)->
  Calls P f vs w fun e w'=> ∃v,e= .returned v/\ ∃ρ:Rho,Inv w (fun j=>j=b) X (famH 0 res.fam) ρ w'/\res.r.rel ρ (famH 0 res.fam) (Xo X ρ (famH 0 res.fam)) w' v/\ki b ty cs' (Xo X ρ (famH 0 res.fam)) w'
section
variable {P:Program} {b:Nat} {ty:TypeId} {cs cs':List PV} {w0 w:World} {O X:Nat->Prop} {ρ:Rho} {s:AS} {a:Act}
theorem xB {it:fh P} {d:Nat} (h1:a.defers=[]) (hsz:a.tmps.size=s.tmps.length) (hinv:Inv w0 O X s.H ρ w) (htm:dN X ρ s a w) (hO:O b) (hX:X b) {t:TV} {F:List OObj} (ht:bQ d it.res.r=t) (hF:it.res.fam.map (renO d)=F) (hd:F≠[]->s.H d=[])
  {v:Value} {w1:World} {ρc:Rho} (hi:Inv w (fun j=>j=b) (Xo X ρ s.H) (famH 0 it.res.fam) ρc w1) (hr:it.res.r.rel ρc (famH 0 it.res.fam) (Xo (Xo X ρ s.H) ρc (famH 0 it.res.fam)) w1 v)
  (hbox:ki b ty cs' (Xo (Xo X ρ s.H) ρc (famH 0 it.res.fam)) w1):iN b ty w0 O X (jS s d t F) cs' (a.put (some d) v) w1:=by
 have hbut:But b w w1:=⟨hi.keep.os,hi.keep.tape,hi.keep.output,hi.keep.size,fun k hk hne=>hi.keep.block k hk hne⟩
 have hnb: ∀(x r:Nat) o b' c,(s.H x)[r]?=some o->ρ x r=some (b',c)->w1.heap[b']?=w.heap[b']?:=fun x r o b' c ho hb'=>hbut.block b' (dW (hinv.objs x r o ho) hb') (by rintro rfl;exact(hinv.old x r o b' c ho hb').2 hX)
 by_cases hfam:it.res.fam=[]
 ·rw[hfam]at hi hr hbox
  have hF0:F=[]:=by rw[<- hF,hfam];rfl
  subst hF0
  have mono: ∀x u,AV.rel ρ s.H (Xo X ρ s.H) w x u->AV.rel ρ s.H (Xo X ρ s.H) w1 x u:=fun x u hx=>oI (.inl hX) hbut (fun a r o ho=>⟨o,ho,rfl,ai _,rfl⟩) (fun a r o b' c ho hb _=> .inr ⟨a,r,o,c,ho,hb⟩) hx
  have hinv':Inv w0 O X s.H ρ w1:=⟨hinv.keep.but hbut (.inr hO),fun x r o ho=>gX (hinv.objs x r o ho) rfl (fun b' c hb'=>hnb x r o b' c ho hb') mono,hinv.inj,hinv.old,fun j hj=>Nat.lt_of_lt_of_le (hinv.bar j hj) hbut.size,hinv.self⟩
  have htm':dN X ρ s a w1:=fun k x hx=>by
   obtain⟨u,g1,g2⟩:=htm k x hx
   exact⟨u,g1,TV.rel_map g2 mono⟩
  have hv:t.rel ρ s.H (Xo X ρ s.H) w1 v:=by
   rw[<- ht]
   exact nB hr (fun x u hx=>qS (fun r o' ho'=>by simp at ho') (fun j _ hj=> .inl hj) hx)
  show iN b ty w0 O X (s.put (some d) t) cs' _ _
  refine⟨by rw[jZ];exact h1,by rw[mP,gm];exact hsz,ρ,by rw[jY];exact hinv',sy hsz htm' hv,hO,hX,?_⟩
  rw[jY]
  exact hbox.weaken fun j _ hj=> .inl hj
 have hF0:F≠[]:=by rw[<- hF];simpa using hfam
 have hd0:=hd hF0
 have hres:jS s d t F=AS.put ⟨s.tmps,bD s.H d F⟩ (some d) t:=by
  unfold jS
  rw[if_neg (by simpa using hF0)]
 rw[hres]
 let f:Nat->Option (Nat×Nat):=fun r=>if r<it.res.fam.length then ρc 0 r else none
 have hff: ∀r j n,f r=some (j,n)->(∃o',it.res.fam[r]?=some o')/\ρc 0 r=some (j,n):=fun r j n h=>by
  simp only[f]at h
  split at h
  ·rename_i hlt;exact⟨⟨_,List.getElem?_eq_getElem hlt⟩,h⟩
  cases h
 have hnew: ∀(r j n:Nat),f r=some (j,n)->w.heap.size<=j:=fun r j n h=>by
  obtain⟨⟨o',ho'⟩,g⟩:=hff r j n h
  have:=hi.old 0 r o' j n (by simpa[famH] using ho') g
  rcases this.1 with h|h
  ·exact h
  exact absurd (h▸ .inl hX) this.2
 have hXo: ∀j,Xo X (newρ ρ d f) (bD s.H d F) j->Xo (Xo X ρ s.H) ρc (famH 0 it.res.fam) j:=fun j hj=>by
  rcases hj with hj|⟨x',y',o',n,g1,g2⟩
  ·exact .inl (.inl hj)
  by_cases hxd:x'=d
  ·subst hxd
   rw[newρ_eq]at g2
   obtain⟨⟨o2,ho2⟩,g3⟩:=hff y' j n g2
   exact .inr ⟨0,y',o2,n,by simpa[famH] using ho2,g3⟩
  rw[cz hxd]at g1
  rw[newρ_ne hxd]at g2
  exact .inl (.inr ⟨x',y',o',n,g1,g2⟩)
 have mono: ∀x u,AV.rel ρ s.H (Xo X ρ s.H) w x u->AV.rel (newρ ρ d f) (bD s.H d F) (Xo X (newρ ρ d f) (bD s.H d F)) w1 x u:=fun x u hx=>by
  refine oI (.inl hX) hbut (fun x r o ho=>?_) (fun x r o b' c ho hb hlt=>?_) hx
  ·have hxd:x≠d:=by rintro rfl;rw[hd0]at ho;simp at ho
   exact⟨o,by rw[cz hxd];exact ho,rfl,ai _,newρ_ne hxd r⟩
  by_cases hxd:x=d
  ·subst hxd
   rw[newρ_eq]at hb
   have:=hnew r b' c hb
   omega
  rw[cz hxd]at ho
  rw[newρ_ne hxd]at hb
  exact .inr ⟨x,r,o,c,ho,hb⟩
 have hmap: ∀x u,AV.rel ρc (famH 0 it.res.fam) (Xo (Xo X ρ s.H) ρc (famH 0 it.res.fam)) w1 x u->AV.rel (newρ ρ d f) (bD s.H d F) (Xo X (newρ ρ d f) (bD s.H d F)) w1 (bM d x) u:=fun x u hx=>by
  refine qS (fun r o' ho'=>?_) (fun j _ hj=>hXo j hj) hx
  rw[dr,newρ_eq]
  simp only[f]
  rw[if_pos (List.getElem?_eq_some_iff.1 ho').1,<- hF,aH,ho']
  exact⟨rfl,rfl⟩
 have hinv':Inv w0 O X (bD s.H d F) (newρ ρ d f) w1:=by
  refine⟨hinv.keep.but hbut (.inr hO),fun x r o ho=>?_,fun x r x' r' o o' j c c' ho ho' hr hr'=>?_,fun x r o j c ho hr=>?_,fun j hj=>Nat.lt_of_lt_of_le (hinv.bar j hj) hbut.size,fun x r o ho=>?_⟩
  ·by_cases hxd:x=d
   ·subst hxd
    rw[dr,<- hF,aH]at ho
    obtain⟨o2,ho2,rfl⟩:=Option.map_eq_some_iff.1 ho
    have hobj:=hi.objs 0 r o2 (by simpa[famH] using ho2)
    obtain⟨z1,z2,z3⟩:=hobj
    refine⟨fun e he=>?_,z2,?_⟩
    ·simp only[renO,au]at he
     obtain⟨e',he',rfl⟩:=he
     rw[List.length_map];exact z1 e' he'
    rw[newρ_eq]
    simp only[f]
    rw[if_pos (List.getElem?_eq_some_iff.1 ho2).1]
    cases hr0:ρc 0 r with
    |none=>rw[hr0]at z3;simp[renO,z3]
    |some bc=>
     obtain⟨j,n⟩:=bc
     rw[hr0]at z3
     obtain⟨cells,p1,p2,p3,p4,p5⟩:=z3
     refine⟨cells,p1,p2,by simpa[renO] using p3,p4,fun i e j z he hz=>?_⟩
     simp only[renO,aH]at he
     obtain⟨e',he',rfl⟩:=Option.map_eq_some_iff.1 he
     rw[aH]at hz
     obtain⟨z',hz',rfl⟩:=Option.map_eq_some_iff.1 hz
     obtain⟨u,u1,u2,u3⟩:=p5 i e' j z' he' hz'
     exact⟨u,u1,u2,hmap z' u u3⟩
   rw[cz hxd]at ho
   exact gX (hinv.objs x r o ho) (newρ_ne hxd r) (fun b' c hb'=>hnb x r o b' c ho hb') mono
  ·by_cases hx:x=d
   ·subst hx
    rw[newρ_eq]at hr
    by_cases hx':x'=x
    ·subst hx'
     rw[newρ_eq]at hr'
     obtain⟨⟨o1,ho1⟩,g1⟩:=hff r j c hr
     obtain⟨⟨o2,ho2⟩,g2⟩:=hff r' j c' hr'
     exact⟨rfl,(hi.inj 0 r 0 r' o1 o2 j c c' (by simpa[famH] using ho1) (by simpa[famH] using ho2) g1 g2).2⟩
    rw[newρ_ne hx']at hr'
    rw[cz hx']at ho'
    have:=dW (hinv.objs x' r' o' ho') hr'
    have:=hnew _ _ _ hr
    omega
   rw[newρ_ne hx]at hr
   rw[cz hx]at ho
   by_cases hx':x'=d
   ·subst hx'
    rw[newρ_eq]at hr'
    have:=dW (hinv.objs x r o ho) hr
    have:=hnew _ _ _ hr'
    omega
   rw[newρ_ne hx']at hr'
   rw[cz hx']at ho'
   exact hinv.inj x r x' r' o o' j c c' ho ho' hr hr'
  ·by_cases hx:x=d
   ·subst hx
    rw[newρ_eq]at hr
    have:=hnew _ _ _ hr
    have hk:=hinv.keep.size
    exact⟨.inl (by omega),fun hX=>by have:=hinv.bar j hX;omega⟩
   rw[newρ_ne hx]at hr
   rw[cz hx]at ho
   exact hinv.old x r o j c ho hr
  by_cases hx:x=d
  ·subst hx
   rw[dr,<- hF,aH]at ho
   obtain⟨o2,ho2,rfl⟩:=Option.map_eq_some_iff.1 ho
   intro e he z hz
   simp only[renO,au]at he
   obtain⟨e',he',rfl⟩:=he
   simp only[au]at hz
   obtain⟨z',hz',rfl⟩:=hz
   cases z'<;>first|rfl|trivial
  rw[cz hx]at ho
  exact hinv.self x r o ho
 have htm':dN X (newρ ρ d f) ⟨s.tmps,bD s.H d F⟩ a w1:=fun k x hx=>by
  obtain⟨u,g1,g2⟩:=htm k x hx
  exact⟨u,g1,TV.rel_map g2 mono⟩
 have hv:t.rel (newρ ρ d f) (bD s.H d F) (Xo X (newρ ρ d f) (bD s.H d F)) w1 v:=by
  rw[<- ht]
  exact nB hr hmap
 refine⟨by rw[jZ];exact h1,by rw[mP,gm];exact hsz,newρ ρ d f,by rw[jY];exact hinv',sy (s:=⟨s.tmps,bD s.H d F⟩) hsz htm' hv,hO,hX,?_⟩
 rw[jY]
 exact hbox.weaken fun j _ hj=>hXo j hj
theorem EZ {H:OH} {t:TV} (h:bV (cq H t)=true):cq H t=t:=by
 unfold cq at h⊢
 split
 ·rename_i a r off len
  simp only at h
  split at h<;>cases h
 ·cases h
 rfl
theorem uF {H H':OH} {ρ':Rho} {Y Y':Nat->Prop} {w':World} {t:TV} {v:Value} (h:bV t=true) (hr:t.rel ρ H Y w v):t.rel ρ' H' Y' w' v:=by
 have hav: ∀x u,bW x=true->AV.rel ρ H Y w x u->AV.rel ρ' H' Y' w' x u:=fun x u hx hu=>by
  cases x with
  |p x=>
   cases x with
   |raw z=>
    obtain⟨rfl,h1⟩:=dQ (ρ:=ρ) (H:=H) hu
    exact ee.raw _ h1
   |sl xs=>cases hx
   |ptr cs=>cases hx
  |sl a r off len=>cases hx
  |ptr a r i j=>cases hx
  |junk=>cases hx
 have agg: ∀cs v,cs.all bW=true->dL ρ H Y w cs v->dL ρ' H' Y' w' cs v:=fun cs v hc ⟨vs,g1,g2,g3⟩=>by
  simp only[aq]at hc
  exact⟨vs,g1,g2,fun j x hx=>by obtain⟨u,u1,u2,u3⟩:=g3 j x hx;exact⟨u,u1,u2,hav x u (hc x (aE hx)) u3⟩⟩
 cases t with
 |one x=>exact hav x v h hr
 |agg cs=>exact agg cs v h hr
 |fn f cs=>obtain⟨u,h1,h2⟩:=hr;exact⟨u,agg cs u h h1,h2⟩
 |tup ts=>
  simp only[bV,aq]at h
  obtain⟨vs,g1,g2,g3⟩:=hr
  refine⟨vs,g1,g2,fun j c cs hj=>?_⟩
  obtain⟨u,u1,u2⟩:=g3 j c cs hj
  have hall:=h (c,cs) (aE hj)
  refine⟨u,u1,?_⟩
  rcases u2 with⟨u2,u3⟩|⟨u2,x,rfl,u4⟩
  ·exact .inl ⟨u2,agg _ _ (by simpa only[aq] using hall) u3⟩
  exact .inr ⟨u2,_,rfl,hav x u (hall x (by simp)) u4⟩
def Ft:PV->Bool
 | .raw _=>true
 |_=>false
def lentOk (args:List TV) (res:CallRes) (cs:List PV):Bool:=args.all bV||!res.plain||cs.all Ft
theorem ki.raw {Y Y':Nat->Prop} (hr:cs.all Ft=true) (h:ki b ty cs Y w):ki b ty cs Y' w:=by
 obtain⟨cells,c,h1,h2,h3,h4,h5,h6⟩:=h
 refine⟨cells,c,h1,h2,h3,h4,h5,fun j x hx=>?_⟩
 obtain⟨v,v1,v2,v3⟩:=h6 j x hx
 rw[aq]at hr
 have:=hr x (aE hx)
 cases x with
 |raw z=>cases v3 with|raw _ h=>exact⟨_,v1,v2,.raw _ h⟩
 |sl xs=>cases this
 |ptr cs=>cases this
theorem uk {it:fh P} {d:Nat} (h1:a.defers=[]) (hsz:a.tmps.size=s.tmps.length) (hinv:Inv w0 O X s.H ρ w) (htm:dN X ρ s a w) (hO:O b) (hX:X b) (hbox:ki b ty cs (Xo X ρ s.H) w) (hok:lentOk it.args it.res cs'=true) (hcon:CallT P b ty it.f it.args cs it.res cs')
  {ts:List TV} (c2:ts.map (cq s.H)=it.args) (c3:ts.all (bs it.res.plain s.H)=true) {vs:Array Value} (hvs:vs.size=ts.length) (hv: ∀(j:Nat) t,ts[j]?=some t-> ∃v:Value,vs[j]?=some v/\t.rel ρ s.H (Xo X ρ s.H) w v)
  {t:TV} {F:List OObj} (ht:bQ d it.res.r=t) (hF:it.res.fam.map (renO d)=F) (hdF:F≠[]->s.H d=[]):
  Calls P it.f vs w fun e w1=> ∃v,e= .returned v/\iN b ty w0 O X (jS s d t F) cs' (a.put (some d) v) w1:=by
 obtain⟨_,hcon⟩:=hcon
 have hXlt: ∀j,Xo X ρ s.H j->j<w.heap.size:=fun j hj=>by
  rcases hj with hj|⟨x,y,o',n,g1,g2⟩
  ·exact hinv.bar j hj
  exact dW (hinv.objs x y o' g1) g2
 simp only[aq]at c3
 by_cases hcase:it.args.all bV=true\/it.res.plain=false
 ·refine(hcon (Xo X ρ s.H) w vs hXlt (.inl hX) hbox ?_ ?_).mono ?_
  ·rw[<- c2];simp[hvs]
  ·intro j u hu
   have hu0:=hu
   rw[<- c2,aH]at hu
   obtain⟨t0,ht0,rfl⟩:=Option.map_eq_some_iff.1 hu
   obtain⟨v,v1,v2⟩:=hv j t0 ht0
   refine⟨v,v1,?_⟩
   rcases hcase with hraw|hpl
   ·have hru:bV (cq s.H t0)=true:=by
     rw[aq]at hraw
     exact hraw _ (aE hu0)
    have hne:=EZ hru
    rw[hne]at hru⊢
    exact uF hru v2
   have:=c3 t0 (aE ht0)
   rw[hpl]at this
   exact oY hinv.objs (fun _ h=>h) (fun h=>by cases h) v2 this
  rintro e w1 ⟨v,rfl,ρc,hi,hr,hb'⟩
  exact⟨v,rfl,xB h1 hsz hinv htm hO hX ht hF hdF hi hr hb'⟩
 have hnr:it.args.all bV=false:=by simpa using fun h=>hcase (.inl h)
 have hpl:it.res.plain=true:=by simpa using fun h=>hcase (.inr h)
 have hcr:cs'.all Ft=true:=by
  unfold lentOk at hok
  rw[hnr,hpl]at hok
  simpa using hok
 have hpl2:=hpl
 unfold CallRes.plain at hpl2
 rw[Bool.and_eq_true]at hpl2
 have hfam:it.res.fam=[]:=List.isEmpty_iff.1 hpl2.1
 refine(hcon (fun j=>j=b) w vs (fun j hj=>by subst hj;exact hXlt j (.inl hX)) rfl (hbox.weaken fun j _ hj=>by subst hj;exact .inl hX) ?_ ?_).mono ?_
 ·rw[<- c2];simp[hvs]
 ·intro j u hu
  rw[<- c2,aH]at hu
  obtain⟨t0,ht0,rfl⟩:=Option.map_eq_some_iff.1 hu
  obtain⟨v,v1,v2⟩:=hv j t0 ht0
  refine⟨v,v1,?_⟩
  exact uA hinv.objs (fun j hj=>by subst hj;exact .inl hX) (fun _ x y o b' c ho hb' hbb=>by subst hbb;exact(hinv.old x y o b' c ho hb').2 hX) v2 (c3 t0 (aE ht0))
 rintro e w1 ⟨v,rfl,ρc,hi,hr,hb'⟩
 refine⟨v,rfl,xB h1 hsz hinv htm hO hX ht hF hdF (ρc:=ρc) ?_ (uF hpl2.2 hr) (hb'.raw hcr)⟩
 rw[hfam]
 exact⟨hi.keep,fun x r o ho=>by simp[famH]at ho,fun x r x' r' o o' j c c' ho=>by simp[famH]at ho,fun x r o j c ho=>by simp[famH]at ho,fun j hj=>Nat.lt_of_lt_of_le (hXlt j hj) hi.keep.size,fun x r o ho=>by simp[famH]at ho⟩
theorem Hz {items:List (fh P)} {ow:List Nat} {i:Nat} {s1:AS} (hrel:iN b ty w0 O X s cs a w) {o:Oper} {c:Call} {y:Operand} (ho:o.op= .call c) (hcal:c.callee= .value y) (hy:(∃f,y= .func f)\/ ∃k,y= .tmp k) {it:fh P} (hit:items.find? (·.i==i)=some it)
  (hraw:lentOk it.args it.res cs'=true) (hcon:CallT P b ty it.f it.args cs it.res cs') (h:gH P items ow i o s=some s1) {K:Act->World->Prop} {Q:Exit->Act->World->Prop}
  (hK: ∀v w',iN b ty w0 O X s1 cs' (a.put o.dst v) w'->K (a.put o.dst v) w'):o.wp P a w K Q:=by
 obtain⟨h1,hsz,ρ,hinv,htm,hO,hX,hbox⟩:=hrel
 have hM:vJ o.op=false:=by rw[ho];rfl
 have hR:Hu o.op=false:=by
  obtain⟨callee,args,tys⟩:=c
  simp only at hcal
  subst hcal
  rw[ho];rfl
 have hD:cU P s.ev s.H o.op=none:=by
  obtain⟨callee,args,tys⟩:=c
  simp only at hcal
  subst hcal
  rw[ho];rfl
 unfold gH at h
 simp only[hM,hR,hD,Bool.false_eq_true,if_false]at h
 obtain⟨d,t,F,hdst,hA,hdF,hs1⟩: ∃d t F,o.dst=some d/\bI P items ow i d s.ev s.H o.op=some (t,F)/\(F≠[]->s.H d=[])/\s1=jS s d t F:=by
  split at h
  ·cases h
  rename_i d hd
  split at h
  ·rename_i t ht
   injection h with h
   exact⟨d,t,[],hd,ht,fun h=>absurd rfl h,by rw[<- h];rfl⟩
  ·rename_i t F hF ht
   split at h
   ·rename_i hH
    injection h with h
    refine⟨d,t,F,hd,ht,fun _=>hH,?_⟩
    rw[<- h]
    unfold jS
    rw[if_neg (by intro h;exact hF (List.isEmpty_iff.1 h))]
   cases h
  cases h
 subst hs1
 rw[ho]at hA
 rcases hy with⟨f,rfl⟩|⟨k,rfl⟩
 ·simp only[bI,hcal]at hA
  rw[hit]at hA
  split at hA
  ·rename_i it' ts hit' hts
   injection hit' with hit'
   subst hit'
   split at hA
   ·rename_i hc
    obtain⟨c1,c2,c3,_⟩:=hc
    injection hA with hA
    injection hA with ht hF
    subst c1
    obtain⟨e1,e2⟩:=fw hts
    have hrun:=mR (w:=w) ho hcal (e:=a.eval) rfl hcon.1
    unfold Oper.wp
    rw[hrun]
    simp only[Oper.upon]
    refine(uk h1 hsz hinv htm hO hX hbox hraw hcon c2 c3 (vs:=c.args.map a.eval) (by simp[e1]) (fun j t0 ht0=>?_) ht hF hdF).mono ?_
    ·obtain⟨x,hx,hxt⟩:=e2 j t0 ht0
     exact⟨a.eval x,by rw[Array.getElem?_map];simp at hx;rw[hx];rfl,eH htm x t0 hxt⟩
    rintro e w1 ⟨v,rfl,hr⟩
    show K (a.put o.dst v) w1
    refine hK v w1 ?_
    rw[hdst]
    exact hr
   cases hA
  cases hA
 simp only[bI,hcal]at hA
 rw[hit]at hA
 split at hA
 ·rename_i f extra it' ts hcl hit' hts
  injection hit' with hit'
  subst hit'
  split at hA
  ·rename_i hc
   obtain⟨c1,c2,c3,_⟩:=hc
   injection hA with hA
   injection hA with ht hF
   subst c1
   obtain⟨e1,e2⟩:=fw hts
   obtain⟨us,k1,k2,k3⟩:=tW (v:=a.eval (.tmp k)) (fun t0 ht0=>eH htm (.tmp k) t0 ht0) hcl
   have hrun:=uL (w:=w) ho hcal (e:=a.eval) k1 hcon.1
   unfold Oper.wp
   rw[hrun]
   simp only[Oper.upon]
   refine(uk h1 hsz hinv htm hO hX hbox hraw hcon c2 c3 (vs:=c.args.map a.eval++us) (by simp[e1,k2]) (fun j t0 ht0=>?_) ht hF hdF).mono ?_
   ·by_cases hj:j<ts.length
    ·rw[List.getElem?_append_left hj]at ht0
     obtain⟨x,hx,hxt⟩:=e2 j t0 ht0
     exact⟨a.eval x,by rw[Array.getElem?_append_left (by simp at e1⊢;omega),Array.getElem?_map];simp at hx;rw[hx];rfl,eH htm x t0 hxt⟩
    rw[List.getElem?_append_right (by omega)]at ht0
    obtain⟨v,v1,v2⟩:=k3 _ t0 ht0
    exact⟨v,by rw[Array.getElem?_append_right (by simp at e1⊢;omega)];simp at e1⊢;rw[<- e1];exact v1,v2⟩
   rintro e w1 ⟨v,rfl,hr⟩
   show K (a.put o.dst v) w1
   refine hK v w1 ?_
   rw[hdst]
   exact hr
  cases hA
 cases hA
end
end
section
theorem Ir {w w':World} {O X:Nat->Prop} {s2:AS} {ρ:Rho} {res:CallRes} {r:TV} {a0:Nat} {v:Value} (hinv:Inv w O X s2.H ρ w') (v2:r.rel ρ s2.H (Xo X ρ s2.H) w' v) (hself0:qA s2.H a0 r) (hfam:res.fam=(s2.H a0).map (renO 0)) (hr:res.r=bQ 0 r):
  ∃ρ':Rho,Inv w O X (famH 0 res.fam) ρ' w'/\res.r.rel ρ' (famH 0 res.fam) (Xo X ρ' (famH 0 res.fam)) w' v/\ ∀b,Xo X ρ' (famH 0 res.fam) b->Xo X ρ s2.H b:=by
 obtain⟨hself,h5⟩:=sS hself0
 have hF: ∀(k:Nat) o,(famH 0 res.fam 0)[k]?=some o-> ∃o',(s2.H a0)[k]?=some o'/\o=renO 0 o':=fun k o ho=>by
  simp only[famH,if_true,hfam,aH]at ho
  obtain⟨o',g1,g2⟩:=Option.map_eq_some_iff.1 ho
  exact⟨o',g1,g2.symm⟩
 have hz: ∀(x k:Nat) o,(famH 0 res.fam x)[k]?=some o->x=0:=fun x k o ho=>by
  by_cases hx:x=0
  ·exact hx
  simp[famH,hx]at ho
 have hXo: ∀b,Xo X (fun _ k=>ρ a0 k) (famH 0 res.fam) b->Xo X ρ s2.H b:=fun b hb=>by
  rcases hb with hb|⟨x,k,o,n,g1,g2⟩
  ·exact .inl hb
  have:=hz x k o g1
  subst this
  obtain⟨o',g3,_⟩:=hF k o g1
  exact .inr ⟨a0,k,o',n,g3,g2⟩
 have hmap: ∀x u,fP a0 x->AV.rel ρ s2.H (Xo X ρ s2.H) w' x u->AV.rel (fun _ k=>ρ a0 k) (famH 0 res.fam) (Xo X (fun _ k=>ρ a0 k) (famH 0 res.fam)) w' (bM 0 x) u:=fun x u hs hx=>by
  cases x with
  |p x=>exact ee.weaken (fun b _ hb=>hXo b hb) hx
  |sl x k off len=>
   have hs:x=a0:=hs
   subst hs
   obtain⟨o,g1,g2,g3⟩:=hx
   have h6:x<=4999:=h5.resolve_right fun h=>by rw[h]at g1;simp at g1
   exact⟨renO 0 o,by simp[famH,hfam,g1],by simpa[renO] using g2,me (ρ':=fun _ k=>ρ x k) (a':=0) (r':=k) h6 g3 rfl⟩
  |ptr x k i j=>
   have hs:x=a0:=hs
   subst hs
   obtain⟨o,b,c,g1,g2,g3,g4⟩:=hx
   exact⟨renO 0 o,b,c,by simp[famH,hfam,g1],g2,by simpa[renO] using g3,g4⟩
  |junk=>trivial
 have hfin: ∃ρ':Rho,Inv w O X (famH 0 res.fam) ρ' w'/\res.r.rel ρ' (famH 0 res.fam) (Xo X ρ' (famH 0 res.fam)) w' v/\ ∀b,Xo X ρ' (famH 0 res.fam) b->Xo X ρ s2.H b:=by
  refine⟨fun _ k=>ρ a0 k,⟨hinv.keep,fun x k o ho=>?_,fun x k x' k' o o' b c c' ho ho' hr1 hr2=>?_,fun x k o b c ho hr1=>?_,hinv.bar,fun x k o ho=>?_⟩,?_,hXo⟩
  ·have:=hz x k o ho
   subst this
   obtain⟨o',g1,rfl⟩:=hF k o ho
   obtain⟨z1,z2,z3⟩:=hinv.objs a0 k o' g1
   refine⟨fun e he=>?_,z2,?_⟩
   ·simp only[renO,au]at he
    obtain⟨e',he',rfl⟩:=he
    rw[List.length_map];exact z1 e' he'
   cases hr0:ρ a0 k with
   |none=>rw[hr0]at z3;simp only[hr0];simp[renO,z3]
   |some bc=>
    obtain⟨b,n⟩:=bc
    rw[hr0]at z3
    obtain⟨cells,p1,p2,p3,p4,p5⟩:=z3
    simp only[hr0]
    refine⟨cells,p1,p2,by simpa[renO] using p3,p4,fun i e j z he hz=>?_⟩
    simp only[renO,aH]at he
    obtain⟨e',he',rfl⟩:=Option.map_eq_some_iff.1 he
    rw[aH]at hz
    obtain⟨z',hz',rfl⟩:=Option.map_eq_some_iff.1 hz
    obtain⟨u,u1,u2,u3⟩:=p5 i e' j z' he' hz'
    exact⟨u,u1,u2,hmap z' u (hinv.self a0 k o' g1 e' (aE he') z' (aE hz')) u3⟩
  ·have e1:=hz x k o ho
   have e2:=hz x' k' o' ho'
   subst e1 e2
   obtain⟨o1,g1,_⟩:=hF k o ho
   obtain⟨o2,g2,_⟩:=hF k' o' ho'
   exact⟨rfl,(hinv.inj a0 k a0 k' o1 o2 b c c' g1 g2 hr1 hr2).2⟩
  ·have e1:=hz x k o ho
   subst e1
   obtain⟨o1,g1,_⟩:=hF k o ho
   exact hinv.old a0 k o1 b c g1 hr1
  ·have e1:=hz x k o ho
   subst e1
   obtain⟨o1,g1,rfl⟩:=hF k o ho
   intro e he z hzz
   simp only[renO,au]at he
   obtain⟨e',he',rfl⟩:=he
   simp only[au]at hzz
   obtain⟨z',hz',rfl⟩:=hzz
   cases z'<;>first|rfl|trivial
  rw[hr]
  have agg: ∀cs u,(∀x∈cs,fP a0 x)->dL ρ s2.H (Xo X ρ s2.H) w' cs u->dL (fun _ k=>ρ a0 k) (famH 0 res.fam) (Xo X (fun _ k=>ρ a0 k) (famH 0 res.fam)) w' (cs.map (bM 0)) u:=fun cs u hs h=>by
   obtain⟨us,h1,h2,h3⟩:=h
   refine⟨us,h1,by simpa using h2,fun j x hx=>?_⟩
   rw[aH]at hx
   obtain⟨y,hy,rfl⟩:=Option.map_eq_some_iff.1 hx
   obtain⟨u',u1,u2,u3⟩:=h3 j y hy
   exact⟨u',u1,u2,hmap _ _ (hs y (aE hy)) u3⟩
  cases r with
  |one x=>exact hmap x v hself v2
  |agg cs=>exact agg cs v hself v2
  |fn f cs=>obtain⟨u,h1,h2⟩:=v2;exact⟨u,agg cs u hself h1,h2⟩
  |tup ts=>
   obtain⟨us,h1,h2,h3⟩:=v2
   refine⟨us,h1,by simpa using h2,fun j b cs hx=>?_⟩
   rw[aH]at hx
   obtain⟨y,hy,hyy⟩:=Option.map_eq_some_iff.1 hx
   obtain⟨b',cs'⟩:=y
   simp at hyy
   obtain⟨rfl,rfl⟩:=hyy
   obtain⟨u,u1,u2⟩:=h3 j b' cs' hy
   have hs:=hself (b',cs') (aE hy)
   refine⟨u,u1,?_⟩
   rcases u2 with⟨u2,u3⟩|⟨u2,x,rfl,u4⟩
   ·exact .inl ⟨u2,agg _ _ hs u3⟩
   exact .inr ⟨u2,_,rfl,hmap _ _ (hs x (by simp)) u4⟩
 exact hfin
section
variable {P:Program} {b:Nat} {ty:TypeId} {cs cs':List PV} {Q:Exit->AS->List PV->Prop} {s:AS}
theorem w8 {f:FuncId} {fn:Func} {c:Code} {args:List TV} {res:CallRes} (hf:P.funcs[f]?=some fn) (hb:fn.body=some c) (hn:callable P f=true)
  (h:kX P b ty c (fun e s k=>(e= .normal\/e= .ret)/\k=cs'/\ ∃s',eg s s'/\nH P fn res s') ⟨args++aj (fn.ntmps-args.length) .undef,fun _=>[]⟩ cs):CallT P b ty f args cs res cs':=by
 refine⟨hn,fun X w vs hX hXb hbox hvs hargs=>?_⟩
 refine calls_of_wp hf hb ?_
 have hXo: ∀j,j<w.heap.size->Xo X (fun _ _=>none) (fun _=>[]) j->X j:=fun j _ h=>by
  rcases h with h|⟨a,r,o,c,h1,h2⟩
  ·exact h
  cases h2
 have hrel:iN b ty w (fun j=>j=b) X ⟨args++aj (fn.ntmps-args.length) .undef,fun _=>[]⟩ cs {tmps:=vs++Array.replicate (fn.ntmps-vs.size) undef,defers:=[]} w:=by
  refine⟨rfl,by simp[hvs],fun _ _=>none,⟨Keep.refl w,fun a r o ho=>by simp at ho,fun a r a' r' o o' b c c' ho=>by simp at ho,fun a r o b c ho=>by simp at ho,hX,fun a r o ho=>by simp at ho⟩,fun t x hx=>?_,rfl,hXb,hbox.weaken hXo⟩
  by_cases ht:t<args.length
  ·rw[List.getElem?_append_left ht]at hx
   obtain⟨v,v1,v2⟩:=hargs t x hx
   refine⟨v,by rw[Array.getElem?_append_left (by omega)];exact v1,TV.rel_map v2 (fun y u hy=>?_)⟩
   cases y with
   |p y=>exact ee.weaken hXo hy
   |sl a r off len=>obtain⟨o,h1,_⟩:=hy;simp at h1
   |ptr a r i j=>obtain⟨o,_,_,h1,_⟩:=hy;simp at h1
   |junk=>trivial
  rw[List.getElem?_append_right (by omega),List.getElem?_replicate]at hx
  split at hx
  ·rename_i hlt
   injection hx with hx
   subst hx
   refine⟨undef,?_,jb⟩
   rw[Array.getElem?_append_right (by omega),Array.getElem?_replicate,if_pos (by omega)]
  cases hx
 refine wp_mono (h _ _ _ _ _ hrel) fun e a' w' ⟨s1,k,⟨he,hk,s2,hw,r,a0,hres,hself,hfam,hr⟩,hrel1⟩=>?_
 subst hk
 obtain⟨h1,hsz,ρ,hinv,htm,_,_,hbox'⟩:=hrel1.weak hw
 have htm:dN X ρ s2 a' w':=htm
 obtain⟨v,v1,v2⟩:=l9 hinv htm hres
 obtain⟨ρ',g1,g2,g3⟩:=Ir hinv v2 hself hfam hr
 rcases he with rfl|rfl
 ·exact⟨h1,v,v1,v,rfl,ρ',g1,g2,hbox'.weaken fun j _ hj=>g3 j hj⟩
 exact⟨h1,v,v1,v,rfl,ρ',g1,g2,hbox'.weaken fun j _ hj=>g3 j hj⟩
/-! Regions. -/
theorem zd {items items':List (fh P)} {ow:List Nat} {i d:Nat} {ev:Operand->Option TV} {H:OH} {op:Op} (h:items.find? (·.i==i)=items'.find? (·.i==i)):bI P items ow i d ev H op=bI P items' ow i d ev H op:=by
 cases op<;>simp only[bI,h]
theorem tg {items items':List (fh P)} {ow:List Nat} {ops:Array Oper} {i:Nat} {o:Oper} {s:AS} (h:items.find? (·.i==i)=items'.find? (·.i==i)):dR P items ow ops i o s=dR P items' ow ops i o s:=by
 have e:gH P items ow i o s=gH P items' ow i o s:=by
  unfold gH
  simp only[zd h]
 unfold dR
 simp only[e]
def kL (ops:Array Oper) (m:Nat):Bool:=match ops[m]? with
 |some o=>o.guard.isNone&&(match o.op with
  | .call c=>(match c.callee with
   | .value (.func _)=>true
   | .value (.tmp _)=>true
   |_=>false)
  |_=>false)
 |none=>false
theorem xA {ops:Array Oper} {m:Nat} (h:kL ops m=true) {o:Oper} (ho:ops[m]?=some o):o.guard=none/\ ∃c y,o.op= .call c/\c.callee= .value y/\((∃f,y= .func f)\/ ∃k,y= .tmp k):=by
 unfold kL at h
 rw[ho]at h
 simp only[Bool.and_eq_true]at h
 obtain⟨h1,h2⟩:=h
 refine⟨by simpa using h1,?_⟩
 split at h2
 ·rename_i c hc
  split at h2
  ·rename_i f hf
   exact⟨c,_,hc,hf,.inl ⟨f,rfl⟩⟩
  ·rename_i k hk
   exact⟨c,_,hc,hk,.inr ⟨k,rfl⟩⟩
  cases h2
 cases h2
theorem zq {items:List (bj P)} {it:fh P} {i:Nat} (h:i≠it.i):(items.map bj.a++[it]).find? (·.i==i)=(items.map bj.a).find? (·.i==i):=by
 rw[List.find?_append]
 have:[it].find? (·.i==i)=none:=by simp[Ne.symm h]
 rw[this,Option.or_none]
theorem Cw {items:List (bj P)} {it:fh P} (h:items.all (fun c=>c.i !=it.i)=true):(items.map bj.a++[it]).find? (·.i==it.i)=some it:=by
 rw[List.find?_append]
 have:(items.map bj.a).find? (·.i==it.i)=none:=by
  rw[List.find?_eq_none]
  intro x hx
  obtain⟨c,hc,rfl⟩:=List.mem_map.1 hx
  rw[aq]at h
  have:=h c hc
  simpa[bj.a] using this
 rw[this]
 simp
theorem uP {w0 w:World} {O X:Nat->Prop} {a:Act} (items:List (bj P)) (it:fh P) {ow:List Nat} {ops:Array Oper} {i:Nat} {o:Oper} (ho:ops[i]?=some o) (hL:kL ops it.i=true) (hF:items.all (fun c=>c.i !=it.i)=true) (hraw:lentOk it.args it.res cs'=true) (hcon:CallT P b ty it.f it.args cs it.res cs')
  {x:List PV} (hx:i=it.i->x=cs) {s1:AS} (hrel:iN b ty w0 O X s x a w) (h:dR P (items.map bj.a++[it]) ow ops i o s=some s1) {K:Act->World->Prop} {Q:Exit->Act->World->Prop}
  (hK: ∀v w',iN b ty w0 O X s1 (if i=it.i then cs' else x) (a.put o.dst v) w'->K (a.put o.dst v) w'):if Region.wanted o (yielded ops a.tmps)then o.wp P a w K Q else K (a.put o.dst undef) w:=by
 by_cases hi:i=it.i
 ·have hxx:=hx hi
  subst hi hxx
  obtain⟨hg,c,f,h1,h2,h3⟩:=xA hL ho
  rw[if_pos (by simp[Region.wanted,hg])]
  unfold dR at h
  rw[hg]at h
  simp only[if_true]at hK
  exact Hz hrel h1 h2 h3 (Cw hF) hraw hcon h hK
 rw[tg (zq hi)]at h
 obtain⟨Own,r1,r2⟩:=hrel.rebase
 simp only[if_neg hi]at hK
 exact jT (bj.ok items) r1 h fun v w' hr=>hK v w' (r2 _ _ _ hr)
theorem uJ {w0:World} {O X:Nat->Prop} (items:List (bj P)) (it:fh P) {ow:List Nat} {ops:Array Oper} (hL:kL ops it.i=true) (hF:items.all (fun c=>c.i !=it.i)=true) (hraw:lentOk it.args it.res cs'=true) (hcon:CallT P b ty it.f it.args cs it.res cs') {Q:Exit->Act->World->Prop}:
  ∀(l:List Oper) (k:Nat) (s s':AS) (a:Act) (w:World),(∀(j:Nat) o,l[j]?=some o->ops[k+j]?=some o)->jG P (items.map bj.a++[it]) ow ops (l.zipIdx k) s=some s'->iN b ty w0 O X s (if k<=it.i then cs else cs') a w->
   (∀a' w',iN b ty w0 O X s' (if k+l.length<=it.i then cs else cs') a' w'->Q .normal a' w')->wpOps P ops Q (List.range' k l.length) a w
 |[],k,s,s',a,w,_,h,r,hQ=>by
  simp only[List.zipIdx_nil,jG]at h
  injection h with h
  subst h
  exact hQ a w r
 |o::l,k,s,s',a,w,hl,h,r,hQ=>by
  simp only[List.zipIdx_cons,jG]at h
  split at h
  ·rename_i s1 hs1
   simp only[List.length_cons,List.range'_succ,wpOps]
   have ho:ops[k]?=some o:=by have:=hl 0 o rfl;simpa using this
   rw[ho]
   simp only
   have:=uP (Q:=Q) items it ho hL hF hraw hcon (x:=if k<=it.i then cs else cs') (fun hk=>if_pos (by omega)) r hs1 (K:=wpOps P ops Q (List.range' (k+1) l.length)) (fun v w' hr=>uJ items it hL hF hraw hcon l (k+1) s1 s' _ _ (fun j o hj=>by have:=hl (j+1) o (by simpa using hj);rwa[show k+(j+1)=k+1+j by omega]at this) h (by
    have e:(if k=it.i then cs' else if k<=it.i then cs else cs')=if k+1<=it.i then cs else cs':=by
     by_cases h1:k=it.i
     ·rw[if_pos h1,if_neg (by omega)]
     rw[if_neg h1]
     by_cases h2:k<=it.i
     ·rw[if_pos h2,if_pos (by omega)]
     rw[if_neg h2,if_neg (by omega)]
    rw[e]at hr
    exact hr) (fun a' w' hr'=>hQ a' w' (by rw[List.length_cons,show k+(l.length+1)=k+1+l.length by omega];exact hr')))
   split at this
   ·rename_i hw;rw[if_pos hw];exact .inl this
   rename_i hw;rw[if_neg hw];exact this
  cases h
theorem Cb (m:Nat) {f:FuncId} {args:List TV} {res:CallRes} (hcon:CallT P b ty f args cs res cs') (items:List (bj P)) (ow:List Nat) {id:Nat} {ops:Array Oper} (hL:kL ops m=true) (hF:items.all (fun c=>c.i !=m)=true) (hraw:lentOk args res cs'=true) (hl:s.tmps.length<=1000000)
  (h:fd P (items.map bj.a++[⟨m,f,args,res⟩]) ow (dZ ops ops.toList 0) (some s) (fun s'=>Q .normal s' cs')):kX P b ty (.region id ops false) Q s cs:=fun w0 O X a w r=>by
 obtain⟨s',h1,h2⟩:=eA P _ ow ops ops.toList 0 s _ hl h
 refine wp_region ?_
 rw[List.range_eq_range']
 have hm:m<ops.size:=by
  unfold kL at hL
  split at hL
  ·rename_i o ho;exact(Array.getElem?_eq_some_iff.1 ho).1
  cases hL
 have:=uJ (w0:=w0) (O:=O) (X:=X) items ⟨m,f,args,res⟩ hL hF hraw hcon (Q:=fun e a' w'=> ∃s' k,Q e s' k/\iN b ty w0 O X s' k a' w') ops.toList 0 s s' a w (fun j o hj=>by simpa using hj) h1 (by simpa using r) (fun a' w' hr=>⟨s',cs',h2,by
  rw[if_neg (by simp;omega)]at hr
  exact hr⟩)
 simpa using this
theorem Ca (hmx:P.follows .mixedOrders=true) (m:Nat) {f:FuncId} {args:List TV} {res:CallRes} (hcon:CallT P b ty f args cs res cs') (items:List (bj P)) (ow:List Nat) {id:Nat} {ops:Array Oper} (hd:gJ [] ops=true) (hL:kL ops m=true) (hF:items.all (fun c=>c.i !=m)=true) (hraw:lentOk args res cs'=true) (hl:s.tmps.length<=1000000)
  (h:fd P (items.map bj.a++[⟨m,f,args,res⟩]) ow (dZ ops ops.toList 0) (some s) (fun s'=>Q .normal s' cs')):kX P b ty (.region id ops true) Q s cs:=fun w0 O X a w r=>by
 obtain⟨sF,h1,h2⟩:=eA P _ ow ops ops.toList 0 s _ hl h
 have hm:m<ops.size:=by
  unfold kL at hL
  split at hL
  ·rename_i o ho;exact(Array.getElem?_eq_some_iff.1 ho).1
  cases hL
 refine wp_region_any hmx ?_
 have hrun:iS P (items.map bj.a++[⟨m,f,args,res⟩]) ow ops (List.range ops.size) s=some sF:=by
  rw[List.range_eq_range']
  have:=nD (P:=P) (items:=items.map bj.a++[⟨m,f,args,res⟩]) (ow:=ow) ops.toList 0 s (fun j o hj=>by simpa using hj)
  rw[h1]at this
  simpa using this.symm
 have hr':iN b ty w0 O X s cs a {w with drawn:=w.drawn+1}:=by
  obtain⟨Own,g1,g2⟩:=r.rebase
  obtain⟨q1,q2,ρ,hinv,htm⟩:=g1
  have e:Ext w {w with drawn:=w.drawn+1}:=⟨rfl,rfl,rfl,ai _,fun _ _=>rfl⟩
  have htm:dN X ρ s a w:=htm
  exact g2 _ _ _ ⟨q1,q2,ρ,hinv.grow e,htm.grow e⟩
 refine nW (sep:=[]) (rF hd (by simp)) hd (Q:=fun e a' w'=> ∃s' k,Q e s' k/\iN b ty w0 O X s' k a' w') (fun p s a w=>iN b ty w0 O X s (if p m then cs' else cs) a w) ⟨mH r.rel,fun x hx=>by simp at hx⟩ hrun (fun p a w hall hr=>⟨sF,cs',h2,by
  rw[if_pos (hall m hm)]at hr
  exact hr⟩) (fun p i o s s1 a w K ho hpi hs hr hK=>?_) ops.size (Array.replicate ops.size false) s a _ (by simp) ?_ ?_ ?_ ?_
 ·refine uP items ⟨m,f,args,res⟩ ho hL hF hraw hcon (x:=if p m then cs' else cs) (fun hi=>?_) hr hs (fun v w' hr'=>hK v w' ?_)
  ·have hi:i=m:=hi
   subst hi
   rw[if_neg (by simp[hpi])]
  by_cases hi:i=m
  ·subst hi
   simpa[gL] using hr'
  have hmi:(m==i)=false:=by simpa using Ne.symm hi
  simpa[gL,hi,hmi] using hr'
 ·intro j o ho hp
  have hj:j<ops.size:=(Array.getElem?_eq_some_iff.1 ho).1
  simp[hj]at hp
 ·exact Nat.le_trans (List.length_filter_le _ _) (by simp)
 ·have:sQ ops.size (fun j=>(Array.replicate ops.size false).getD j true)=[]:=by
   unfold sQ
   rw[List.filter_eq_nil_iff]
   intro j hj
   have:=List.mem_range.1 hj
   simp[this]
  rw[this]
  rfl
 have:(Array.replicate ops.size false).getD m true=false:=by simp[hm]
 simp only[this]
 exact hr'
theorem Cc (m:Nat) {f:FuncId} {args:List TV} {res:CallRes} (hcon:CallT P b ty f args cs res cs') (items:List (bj P)) (ow:List Nat) {id:Nat} {ops:Array Oper} (hL:kL ops m=true) (hF:items.all (fun c=>c.i !=m)=true) (hraw:lentOk args res cs'=true) (hl:s.tmps.length<=1000000)
  (h: ∀K:AS->Prop,(∀s',Q .normal s' cs'->K s')->fd P (items.map bj.a++[⟨m,f,args,res⟩]) ow (dZ ops ops.toList 0) (some s) K):kX P b ty (.region id ops false) Q s cs:=
 Cb m hcon items ow hL hF hraw hl (h _ fun _ h=>h)
theorem yQ (hmx:P.follows .mixedOrders=true) (m:Nat) {f:FuncId} {args:List TV} {res:CallRes} (hcon:CallT P b ty f args cs res cs') (items:List (bj P)) (ow:List Nat) {id:Nat} {ops:Array Oper} (hd:gJ [] ops=true) (hL:kL ops m=true) (hF:items.all (fun c=>c.i !=m)=true) (hraw:lentOk args res cs'=true) (hl:s.tmps.length<=1000000)
  (h: ∀K:AS->Prop,(∀s',Q .normal s' cs'->K s')->fd P (items.map bj.a++[⟨m,f,args,res⟩]) ow (dZ ops ops.toList 0) (some s) K):kX P b ty (.region id ops true) Q s cs:=
 Ca hmx m hcon items ow hd hL hF hraw hl (h _ fun _ h=>h)
end
/-! A box of one's own is lent. -/
def pS (d b:Nat):AV->AV
 | .sl x r off len=>if x=d then .junk else .sl x r off len
 | .ptr x r i j=>if x=d then(if r=0/\i=0/\j=0 then .raw (.pointer (some ⟨b,0,none⟩))else .junk)else .ptr x r i j
 |x=>x
def xF (d b:Nat):TV->TV
 | .one x=> .one (pS d b x)
 | .agg cs=> .agg (cs.map (pS d b))
 | .fn f cs=> .fn f (cs.map (pS d b))
 | .tup ts=> .tup (ts.map fun t=>(t.1,t.2.map (pS d b)))
end
structure rc where
 key:Int
 vals:List Int
 at_:Option Addr
 cap:Nat
 deriving Inhabited
def rc.val (it:rc):Value:= .slice it.at_ it.vals.length it.cap
def rc.agg (it:rc):Value:= .agg #[.int .i64 it.key,.slice it.at_ it.vals.length it.cap]
structure pA (w:World) (g:Nat) (it:rc):Prop where
 rd:RdI .i64 w it.at_ it.vals
 ne: ∀p,it.at_=some p->p.block≠g
 le:it.vals.length<=9223372036854775807
theorem pA.ext {w w':World} {g:Nat} {it:rc} (h:pA w g it) (e:Ext w w'):pA w' g it:=⟨h.rd.ext e,h.ne,h.le⟩
theorem RdI.setOther {k:IntKind} {w:World} {A:Option Addr} {zs:List Int} {g:Nat} (h:RdI k w A zs) (hne: ∀p,A=some p->p.block≠g) (p:Addr) (hp:p.block=g) (v:Value):RdI k (w.setCell p v) A zs:=fun hn=>by
 obtain⟨b,off,rfl,hc⟩:=h hn
 refine⟨b,off,rfl,fun i x hx=>?_⟩
 rw[World.cell?_setCell_other _ _ _ _ (fun e=>by have:=hne _ rfl;have e2:=congrArg Addr.block e;simp at e2 this;omega)]
 exact hc i x hx
theorem pA.setCell {w:World} {g:Nat} {it:rc} (h:pA w g it) (p:Addr) (hp:p.block=g) (v:Value):pA (w.setCell p v) g it:=⟨h.rd.setOther h.ne p hp v,h.ne,h.le⟩
theorem Ho {w w':World} {g:Nat} (h:w.grownBy w' (some g)) {p:Addr} {v:Value} (hp:w.cell? p=some v) (hne:p.block≠g):w'.cell? p=some v:=
 h.cell hp (fun e=>hne (by injection e))
theorem RdI.gb {k:IntKind} {w w':World} {A:Option Addr} {zs:List Int} {g:Nat} (h:RdI k w A zs) (hne: ∀p,A=some p->p.block≠g) (hg:w.grownBy w' (some g)):RdI k w' A zs:=fun hn=>by
 obtain⟨b,off,rfl,hc⟩:=h hn
 exact⟨b,off,rfl,fun i x hx=>Ho hg (hc i x hx) (show b≠g from hne ⟨b,off,none⟩ rfl)⟩
abbrev Lo (b:Nat):TV:= .raw (.pointer (some ⟨b,0,none⟩))
def I8 (L:List Int):Prop:= ∀z∈L,-128<=z/\z<=127
theorem I8.getD {L:List Int} (h:I8 L) (a:Nat): -128<=L.getD a 0/\L.getD a 0<=127:=by
 rw[List.getD_eq_getElem?_getD]
 cases hx:L[a]? with
 |none=>simp
 |some z=>exact h z (aE hx)
def ke (r:List Int):OObj:=⟨2,1,lc fI r⟩
abbrev kI (d n c i:Nat) (f:Nat->Nat->Int):List OObj:=⟨27,1,iX d (aj i c)++aj (n-i) og⟩::(dC i c f).map ke
abbrev gG (d n c:Nat) (f:Nat->Nat->Int):List OObj:=⟨27,1,iX d (aj n c)⟩::(dC n c f).map ke
theorem vL (d n c:Nat) (f:Nat->Nat->Int):kI d n c n f=gG d n c f:=by simp[kI,gG]
theorem vM {i n:Nat} (d c:Nat) (h:i<=n):(iX d (aj i c)++aj (n-i) og).length=n:=by simp[dT];omega
theorem J3 {i k n:Nat} (d c:Nat) (h:k<i):(iX d (aj i c)++aj (n-i) og)[k]?=some [.sl d (k+1) 0 c]:=by
 rw[List.getElem?_append_left (by simp[dT];exact h),d5 d c h]
theorem zw {i n:Nat} (d c:Nat) (h:i<n):(iX d (aj i c)++aj (n-i) og)[i]?=some og:=by
 rw[List.getElem?_append_right (by simp[dT]),dT,aG,Nat.sub_self,List.getElem?_replicate,if_pos (by omega)]
theorem fo {n i:Nat} (c:Nat) (f:Nat->Nat->Int) (h:i<n):((dC n c f).map ke)[i]?=some ⟨2,1,lc fI (dz c (f i))⟩:=by
 rw[aH,dm _ _ h];rfl
theorem jq {n i j:Nat} (c:Nat) (f:Nat->Nat->Int) (v:Int):((dC n c f).map ke).set i ⟨2,1,(lc fI (dz c (f i))).set j [.p (.raw (.int .i64 v))]⟩=(dC n c (upd f i j v)).map ke:=by
 have e:(⟨2,1,(lc fI (dz c (f i))).set j [.p (.raw (.int .i64 v))]⟩:OObj)=ke (dz c fun b=>if b=j then v else f i b):=by
  rw[<- po,ke,<- vP];rfl
 rw[e,<- List.map_set,Bi];rfl
theorem fz {n c:Nat} {f g:Nat->Nat->Int} (h: ∀i j,i<n->j<c->f i j=g i j):(dC n c f).map ke=(dC n c g).map ke:=by rw[i7 h]
theorem vN {i n c:Nat} (d:Nat) (f:Nat->Nat->Int) (hi:i<n) (h0: ∀j,j<c->f i j=0):
  (⟨27,1,(iX d (aj i c)++aj (n-i) og).set i [.sl d (i+1) 0 c]⟩::((dC i c f).map ke++[⟨2,1,aj c [.raw (.int .i64 0)]⟩]):List OObj)=kI d n c (i+1) f:=by
 have e1:(iX d (aj i c)++aj (n-i) og).set i [.sl d (i+1) 0 c]=iX d (aj (i+1) c)++aj (n-(i+1)) og:=by
  rw[List.set_append_right _ _ (by simp[dT]),dT,aG,Nat.sub_self,List.replicate_succ' (n:=i),mW,aG,List.append_assoc]
  congr 1
  rw[show n-i=n-(i+1)+1 by omega,List.replicate_succ]
  rfl
 have e2:(⟨2,1,aj c [.raw (.int .i64 0)]⟩:OObj)=ke (dz c (f i)):=by
  rw[ke]
  congr 1
  apply List.ext_getElem?
  intro j
  rw[List.getElem?_replicate,dp]
  by_cases hj:j<c
  ·rw[if_pos hj,cu _ hj,h0 j hj];rfl
  rw[if_neg hj,List.getElem?_eq_none (by rw[dj];omega)];rfl
 rw[e1,e2,kI,r7,List.map_append];rfl
theorem je (d e n c:Nat) (f:Nat->Nat->Int):(gG d n c f).map (renO e)=gG e n c f:=by
 simp only[gG,List.map_cons,List.map_map]
 congr 1
 ·simp[renO,BB]
 exact List.map_congr_left fun r _=>by simp[renO,ke,pR]
theorem lh {H:OH} {d n c:Nat} {f:Nat->Nat->Int} (h:H d=gG d n c f):tn H d:=fun r o ho e he x hx=>by
 rw[h]at ho
 cases r with
 |succ r=>
  rw[List.getElem?_cons_succ,aH]at ho
  obtain⟨l,hl,rfl⟩:=Option.map_eq_some_iff.1 ho
  exact .inl (gu _ _ l e he x hx)
 |zero=>
  simp at ho
  subst ho
  simp only at he
  obtain⟨k,hk⟩:=List.mem_iff_getElem?.1 he
  have hkn:k<n:=by
   have:=(List.getElem?_eq_some_iff.1 hk).1
   rwa[dT,aG]at this
  rw[d5 d c hkn]at hk
  injection hk with hk
  subst hk
  simp at hx
  subst hx
  refine .inr ⟨k+1,0,c,ke (dz c (f k)),rfl,?_,gu _ _ _⟩
  rw[h,List.getElem?_cons_succ,aH,dm _ _ hkn];rfl
theorem Cx {H:OH} {d n c:Nat} {f:Nat->Nat->Int} (h:H d=gG d n c f):gT H d (.one (.sl d 0 0 n))=dx (dC n c f):=by
 have e:((iX d (aj n c)).map (List.map (kn H d)))=ls (fR fI) (dC n c f):=by
  apply List.ext_getElem?
  intro i
  rw[aH,ch]
  by_cases hi:i<n
  ·rw[d5 d c hi,dm _ _ hi]
   simp only[Option.map_some,List.map_cons,List.map_nil,kn,h,List.getElem?_cons_succ,fo _ _ hi,fR,eB,vO,kq]
   rw[List.drop_zero,List.take_of_length_le (by rw[dj];omega)]
  rw[List.getElem?_eq_none (by rw[dT,aG];omega),List.getElem?_eq_none (by rw[cT];omega)];rfl
 simp only[gT,gh,if_true,h,List.getElem?_cons_zero]
 rw[List.drop_zero,List.take_of_length_le (by rw[dT,aG];omega),e]
theorem Ag (f:Nat->Nat->Int) (i j:Nat) (v:Int):upd f i j v i j=v:=by simp[upd]
theorem Ah {f:Nat->Nat->Int} {i j a b:Nat} {v:Int} (h:a≠i\/b≠j):upd f i j v a b=f a b:=by
 unfold upd
 by_cases h1:a=i
 ·subst h1
  have h2:b≠j:=by rcases h with h|h;exact absurd rfl h;exact h
  simp[h2]
 simp[h1]
theorem Dn (f:Nat->Nat->Int) (i j:Nat) (v:Int) (a b:Nat):upd f i j v a b=v\/upd f i j v a b=f a b:=by
 by_cases h:a=i/\b=j
 ·obtain⟨rfl,rfl⟩:=h;exact .inl (Ag f a b v)
 exact .inr (Ah (by omega))
def KS (f:Nat->Nat->Int):Prop:= ∀a b,-9<=f a b/\f a b<=9
theorem KS.i64 {f:Nat->Nat->Int} (h:KS f) (a b:Nat):Jz (f a b):=by have:=h a b;exact⟨by omega,by omega⟩
theorem KS.upd {f:Nat->Nat->Int} (h:KS f) {i j:Nat} {v:Int} (h1: -9<=v) (h2:v<=9):KS (Go.Proofs.YtfgeomlagfomgaaGreatDoor.upd f i j v):=fun a b=>by
 rcases Dn f i j v a b with e|e
 ·rw[e];exact⟨h1,h2⟩
 rw[e];exact h a b
section
open Go.ChangeShapes Go.WideShapes Go.ChangeAt Go.RowKit
theorem K4 {w:World}: ∀{ts:List TV} {vs:List Value},ts.length=vs.length->(∀(j:Nat) t v,ts[j]?=some t->vs[j]?=some v->t.rel (fun _ _=>none) (fun _=>[]) (fun _=>False) w v)->
  ∀(j:Nat) t,ts[j]?=some t-> ∃v:Value,vs.toArray[j]?=some v/\t.rel (fun _ _=>none) (fun _=>[]) (fun _=>False) w v:=fun{ts vs} hl h j t hj=>by
 have hlt:=(List.getElem?_eq_some_iff.1 hj).1
 obtain⟨v,hv⟩: ∃v,vs[j]?=some v:=⟨_,List.getElem?_eq_getElem (by omega)⟩
 exact⟨v,by simpa using hv,h j t v hj hv⟩
end
end Go.Proofs.YtfgeomlagfomgaaGreatDoor
