/-
  Part 11 of a proof (walks and plain facts).
-/
import Derived.Test.YtfgeomlagfomgaaGreatDoorP09
import Derived.Shelf.Small.Bits
import Derived.Ground.NamesProg
import Derived.Test.YtfgeomlagfomgaaGreatDoorProg
set_option linter.all false
set_option maxRecDepth 100000
set_option maxHeartbeats 64000000
open Nat renaming reduceAdd → aa
open Nat renaming reduceEqDiff → ab
open List renaming replicate → ae
open List renaming mem_of_getElem? → au
open List renaming getElem?_map → ay
namespace Go.Proofs.YtfgeomlagfomgaaGreatDoor
open Go.RowKit
section
section
variable {P:Program} {k:Nat} {s s':AS} {Q:Exit->AS->Prop}
theorem Aa {items:List (dI P)} (hI:fL P items) {ow:List Nat} {ops:Array Oper} (hk:iD k ops=true) {v0:Value} {w0:World} {O X:Nat->Prop} {Q:Exit->Act->World->Prop} {suf:List Nat}: ∀(l:List Oper) (n:Nat) (s s':AS) (a:Act) (w:World),(∀(j:Nat) o,l[j]?=some o->ops[n+j]?=some o)->
  iF P items ow ops (l.zipIdx n) s=some s'->kK k v0 w0 O X s a w->(∀a' w',kK k v0 w0 O X s' a' w'->wpOps P ops Q suf a' w')->wpOps P ops Q (List.range' n l.length++suf) a w
 |[],n,s,s',a,w,_,h,r,hQ=>by
  simp only[List.zipIdx_nil,iF]at h;injection h with h
  subst h;exact hQ a w r
 |o::l,n,s,s',a,w,hl,h,r,hQ=>by
  simp only[List.zipIdx_cons,iF]at h;split at h
  ·rename_i s1 hs1;simp only[List.length_cons,List.range'_succ,List.cons_append,wpOps];have ho:ops[n]?=some o:=by have:=hl 0 o rfl;simpa using this
   rw[ho];simp only;have:=JD (Q:=Q) hI r (po hk ho) hs1 (K:=wpOps P ops Q (List.range' (n+1) l.length++suf)) (fun v w' hr=>Aa hI hk l (n+1) s1 s' _ _ (fun j o hj=>by have:=hl (j+1) o (by simpa using hj);rwa[show n+(j+1)=n+1+j by omega]at this) h hr hQ);split at this
   ·rename_i hw;rw[if_pos hw];exact .inl this
   rename_i hw;rw[if_neg hw];exact this
  cases h
structure Nr (ops:Array Oper) (m:Nat) (f:FuncId) (args:List TV) (k n fa:Nat) (F:List OObj) (s:AS):Prop where
 ts:cwTs ops m s=some (f,args.set k (.one (.sl fa 0 0 n)))
 fam:s.H fa=F.map (renO fa)
def NQ (ops:Array Oper) (m:Nat) (r:TV) (fa:Nat) (F':List OObj) (s:AS):AS:=AS.put ⟨s.tmps.map (bD (kM fa)),bj s.H fa (F'.map (renO fa))⟩ (cwD ops m) r
theorem vu (m:Nat) {f:FuncId} {args:List TV} {ka n:Nat} {F F':List OObj} {r:TV} (hcon:qW P f args ka n F F' r) (fa:Nat) (items:List (aY P)) (ow:List Nat) {id:Nat} {ops:Array Oper} (hkd:iD k ops=true) (hk:ka<args.length) (hlen:0<n) (hpure:iE ka 0 args=true) (hself: ∀o∈F,selfO 0 o) (hself': ∀o∈F',selfO 0 o) (hfa:fa<=4999) (hl:s.tmps.length<=1000000) (hm:m<ops.toList.length)
  (h:cz P (items.map aY.a) ow (bJ ops (ops.toList.take m) 0) (some s) (fun s1=>Nr ops m f args ka n fa F s1/\s1.tmps.length<=1000000/\cz P (items.map aY.a) ow (bJ ops (ops.toList.drop (m+1)) (m+1)) (some (NQ ops m r fa F' s1)) (Q .normal))):eF P k (.region id ops false) Q s:=fun v0 w0 O X a w r0=>by
 obtain⟨s1,h1,⟨q1,q2⟩,hl1,h2⟩:=ck P (items.map aY.a) ow ops _ 0 s _ h;obtain⟨s',h3,h4⟩:=ck P (items.map aY.a) ow ops _ (m+1) _ _ h2;obtain⟨o,ho⟩: ∃o,ops[m]?=some o:=⟨ops[m],by simp at hm;simp[hm]⟩;unfold cwTs at q1;rw[ho]at q1;simp only at q1;split at q1
 ·rename_i c hg hop1;split at q1
  ·rename_i f' hcal;split at q1
   ·rename_i ts hts;injection q1 with q1
    injection q1 with q1 q3
    subst q1 q3;refine wp_region ?_;have hsz:ops.size=(ops.toList.take m).length+(1+(ops.toList.drop (m+1)).length):=by simp at hm⊢;omega
    rw[hsz,List.range_eq_range',<- List.range'_append_1,Nat.zero_add];have hml:(ops.toList.take m).length=m:=by rw[List.length_take];omega
    refine Aa (aY.ok items) hkd (ops.toList.take m) 0 s s1 a w (fun j o hj=>?_) h1 r0 fun a' w' r'=>?_
    ·rw[List.getElem?_take]at hj;split at hj
     ·simpa using hj
     cases hj
    rw[hml,Nat.add_comm 1,List.range'_succ];simp only[wpOps,ho];rw[if_pos (by simp[Region.wanted,hg])];refine .inl (If r'.1 hop1 hcal hcon hfa hk hlen hts hpure q2 hself hself' fun v w1 hr1=>?_);refine oM (aY.ok items) hkd (Q:=fun e a' w'=> ∃s',Q e s'/\kK k v0 w0 O X s' a' w') (ops.toList.drop (m+1)) (m+1) _ s' _ _ (fun j o hj=>?_) h3 ⟨?_,?_⟩ (fun a' w' hr=>⟨s',h4,hr⟩)
    ·rw[List.getElem?_drop]at hj;simpa using hj
    ·have:cwD ops m=o.dst:=by unfold cwD;rw[ho];rfl
     unfold NQ;rw[this];exact hr1
    rw[sN v (po hkd ho)];exact r'.2
   cases q1
  cases q1
 cases q1
theorem AQ (m:Nat) {f:FuncId} {args:List TV} {ka n:Nat} {F F':List OObj} {r:TV} (hcon:qW P f args ka n F F' r) (fa:Nat) (items:List (aY P)) (ow:List Nat) {id:Nat} {ops:Array Oper} {y:Code} (hkd:iD k ops=true) (hk:ka<args.length) (hlen:0<n) (hpure:iE ka 0 args=true) (hself: ∀o∈F,selfO 0 o) (hself': ∀o∈F',selfO 0 o) (hfa:fa<=4999) (hl:s.tmps.length<=1000000) (hm:m<ops.toList.length)
  (h: ∀K:AS->Prop,(∀s1,(Nr ops m f args ka n fa F s1/\s1.tmps.length<=1000000/\ ∀K:AS->Prop,(∀s',eF P k y Q s'->K s')->cz P (items.map aY.a) ow (bJ ops (ops.toList.drop (m+1)) (m+1)) (some (NQ ops m r fa F' s1)) K)->K s1)->cz P (items.map aY.a) ow (bJ ops (ops.toList.take m) 0) (some s) K):eF P k (.seq (.region id ops false) y) Q s:=
 bT (vu m hcon fa items ow hkd hk hlen hpure hself hself' hfa hl hm (h _ fun s1 ⟨q1,q2,q3⟩=>⟨q1,q2,q3 _ fun _ h=>h⟩))
theorem sK (m:Nat) {f:FuncId} {args:List TV} {ka n:Nat} {F F':List OObj} {r:TV} (hcon:qW P f args ka n F F' r) (fa:Nat) (items:List (aY P)) (ow:List Nat) {id:Nat} {ops:Array Oper} (hkd:iD k ops=true) (hk:ka<args.length) (hlen:0<n) (hpure:iE ka 0 args=true) (hself: ∀o∈F,selfO 0 o) (hself': ∀o∈F',selfO 0 o) (hfa:fa<=4999) (hl:s.tmps.length<=1000000) (hm:m<ops.toList.length)
  (h: ∀K:AS->Prop,(∀s1,(Nr ops m f args ka n fa F s1/\s1.tmps.length<=1000000/\ ∀K:AS->Prop,(∀s',Q .normal s'->K s')->cz P (items.map aY.a) ow (bJ ops (ops.toList.drop (m+1)) (m+1)) (some (NQ ops m r fa F' s1)) K)->K s1)->cz P (items.map aY.a) ow (bJ ops (ops.toList.take m) 0) (some s) K):eF P k (.region id ops false) Q s:=
 vu m hcon fa items ow hkd hk hlen hpure hself hself' hfa hl hm (h _ fun s1 ⟨q1,q2,q3⟩=>⟨q1,q2,q3 _ fun _ h=>h⟩)
theorem Gu {c:Code} (hk:k<s.tmps.length) (h:eF P k c Q s):bo P c Q s:=fun w0 O X a w r=>by
 obtain⟨v0,hv⟩: ∃v0,a.tmps[k]?=some v0:=⟨a.tmps[k]'(by rw[r.2.1];exact hk),by simp⟩;exact wp_mono (h v0 w0 O X a w ⟨r,hv⟩) fun e a' w' ⟨s',h1,h2⟩=>⟨s',h1,h2.1⟩
end
def xc (m:Nat):AV->Prop
 | .sl _ r _ _=>r<m
 | .ptr _ r _ _=>r<m
 |_=>True
theorem Ej {s:AS} (a:Nat) {F:List OObj} {o:OObj} (hH:s.H a=F++[o]) (hself: ∀q∈F,∀e∈q.elems,∀x∈e,xc F.length x):
  ca s ⟨s.tmps.map (bD fun x y=>x==a&&y==F.length),bj s.H a F⟩:=by
 rintro w0 O X act w ⟨h1,hsz,ρ,hinv,htm⟩;have htm:bX X ρ s act w:=htm;generalize hH1:bj s.H a F=H1;have hHa:H1 a=F:=by rw[<- hH1];exact bE
 have hHn: ∀x,x≠a->H1 x=s.H x:=fun x h=>by rw[<- hH1];exact bi h
 have back: ∀(x y:Nat) q,(H1 x)[y]?=some q->(s.H x)[y]?=some q/\(x=a->y<F.length/\q∈F):=fun x y q h=>by
  by_cases hx:x=a
  ·subst hx;rw[hHa]at h;have hlt:=(List.getElem?_eq_some_iff.1 h).1;exact⟨by rw[hH,List.getElem?_append_left hlt];exact h,fun _=>⟨hlt,au h⟩⟩
  rw[hHn x hx]at h;exact⟨h,fun e=>absurd e hx⟩
 have fwd: ∀(x y:Nat) q,(s.H x)[y]?=some q-> ¬(x=a/\y=F.length)->(H1 x)[y]?=some q:=fun x y q h hne=>by
  by_cases hx:x=a
  ·subst hx;rw[hH]at h;rw[hHa];have hlt:=(List.getElem?_eq_some_iff.1 h).1;simp at hlt;rw[List.getElem?_append_left (by have:y≠F.length:=fun e=>hne ⟨rfl,e⟩;omega)]at h;exact h
  rw[hHn x hx];exact h
 have hXo: ∀c,Xo X ρ H1 c->Xo X ρ s.H c:=fun c hc=>by
  rcases hc with hc|⟨x,y,q,n,g1,g2⟩
  ·exact .inl hc
  exact .inr ⟨x,y,q,n,(back x y q g1).1,g2⟩
 have hav: ∀x v,AV.rel ρ s.H (Xo X ρ s.H) w x v->AV.rel ρ H1 (Xo X ρ H1) w (bC (fun x y=>x==a&&y==F.length) x) v:=fun x v h=>by
  cases x with
  |p x=>exact cq.weaken (fun c _ hc=>hXo c hc) h
  |junk=>trivial
  |sl x y off len=>
   simp only[bC];by_cases hc:x=a/\y=F.length
   ·rw[if_pos (by simp[hc])];trivial
   rw[if_neg (by simpa using hc)];obtain⟨q,g1,g2⟩:=h;exact⟨q,fwd x y q g1 hc,g2⟩
  |ptr x y i j=>
   simp only[bC];by_cases hc:x=a/\y=F.length
   ·rw[if_pos (by simp[hc])];trivial
   rw[if_neg (by simpa using hc)];obtain⟨q,b,c,g1,g2⟩:=h;exact⟨q,b,c,fwd x y q g1 hc,g2⟩
 refine⟨h1,by simpa using hsz,ρ,⟨hinv.keep,fun x y q hq=>?_,fun x y x' y' q q' c n n' hq hq'=>hinv.inj x y x' y' q q' c n n' (back x y q hq).1 (back x' y' q' hq').1,fun x y q c n hq=>hinv.old x y q c n (back x y q hq).1,hinv.bar,fun x y q hq=>hinv.self x y q (back x y q hq).1⟩,fun t x hx=>?_⟩
 ·obtain⟨hb1,hb2⟩:=back x y q hq;obtain⟨q1,q2,q3⟩:=hinv.objs x y q hb1;refine⟨q1,q2,?_⟩;cases hr:ρ x y with
  |none=>rw[hr]at q3;exact q3
  |some bc=>
   obtain⟨b',c⟩:=bc;rw[hr]at q3;obtain⟨cells,p1,p2,p3,p4,p5⟩:=q3;refine⟨cells,p1,p2,p3,p4,fun i e j z he hz=>?_⟩;obtain⟨u,u1,u2,u3⟩:=p5 i e j z he hz;refine⟨u,u1,u2,?_⟩;have hs:=hinv.self x y q hb1 e (au he) z (au hz);have hk:=hav z u u3;have hlt:x=a->xc F.length z:=fun hx=>hself q (hb2 hx).2 e (au he) z (au hz)
   cases z with
   |p z=>exact hk
   |junk=>trivial
   |sl z r off len=>
    have hs:z=x:=hs;subst hs;rw[show bC (fun x y=>x==a&&y==F.length) (.sl z r off len)= .sl z r off len from if_neg (by
     simp only[Bool.and_eq_true,beq_iff_eq];rintro⟨e1,e2⟩;have hl:r<F.length:=hlt e1;omega)]at hk
    exact hk
   |ptr z r i' j'=>
    have hs:z=x:=hs;subst hs;rw[show bC (fun x y=>x==a&&y==F.length) (.ptr z r i' j')= .ptr z r i' j' from if_neg (by
     simp only[Bool.and_eq_true,beq_iff_eq];rintro⟨e1,e2⟩;have hl:r<F.length:=hlt e1;omega)]at hk
    exact hk
 simp only[ay]at hx;obtain⟨y,hy,rfl⟩:=Option.map_eq_some_iff.1 hx;obtain⟨v,v1,v2⟩:=htm t y hy;exact⟨v,v1,oB v2 hav⟩
end
section
structure MZ (P:Program) (b:Nat) (ty:TypeId) (cs:List PV) where
 i:Nat
 f:FuncId
 args:List TV
 res:CallRes
 h:CallT P b ty f args cs res cs
 ok:lentOk args res cs=true
def MZ.a {P:Program} {b:Nat} {ty:TypeId} {cs:List PV} (it:MZ P b ty cs):dI P:=⟨it.i,it.f,it.args,it.res⟩
section
variable {P:Program} {b:Nat} {ty:TypeId} {cs:List PV} {Q:Exit->AS->List PV->Prop} {s:AS}
end
end
section
def wP (b:Nat) (_ty:TypeId) (cs:List PV) (w:World):Prop:=
 b<w.heap.size/\ ∀(j:Nat) x,cs[j]?=some x-> ∃v:Value,x= .raw v/\w.cell? ⟨b,j,none⟩=some v/\v.oneCell'=true
theorem wP.lt {b:Nat} {ty:TypeId} {cs:List PV} {w:World} (h:wP b ty cs w):b<w.heap.size:=h.1
def l8 (b:Nat) (ty:TypeId) (w0:World) (O X:Nat->Prop) (s:AS) (cs:List PV) (a:Act) (w:World):Prop:=gp w0 O X s a w/\wP b ty cs w0/\ ¬O b
theorem l8.box {b:Nat} {ty:TypeId} {w0 w:World} {O X:Nat->Prop} {s:AS} {cs:List PV} {a:Act} (h:l8 b ty w0 O X s cs a w):wP b ty cs w:=by
 obtain⟨⟨_,_,ρ,hinv,_⟩,hb,hO⟩:=h;have hlt:=hb.lt;refine⟨Nat.lt_of_lt_of_le hlt hinv.keep.size,fun j x hx=>?_⟩;obtain⟨v,h1,h2,h3⟩:=hb.2 j x hx;exact⟨v,h1,by rw[m9 (hinv.keep.block b hlt hO)];exact h2,h3⟩
section
variable {P:Program} {b:Nat} {ty:TypeId} {cs cs':List PV} {s s':AS} {w0 w:World} {O X:Nat->Prop} {a:Act}
def dJ (P:Program) (b:Nat) (ty:TypeId) (c:Code) (Q:Exit->AS->List PV->Prop) (s:AS) (cs:List PV):Prop:=
 ∀(w0:World) (O X:Nat->Prop) (a:Act) (w:World),l8 b ty w0 O X s cs a w->c.wp P (fun e a' w'=> ∃s' cs',Q e s' cs'/\l8 b ty w0 O X s' cs' a' w') a w
variable {Q:Exit->AS->List PV->Prop}
theorem og {c:Code} (h:bo P c (fun e s'=>Q e s' cs) s):dJ P b ty c Q s cs:=fun w0 O X a w r=>
 wp_mono (h _ _ _ _ _ r.1) fun e a' w' ⟨s',g1,g2⟩=>⟨s',cs,g1,g2,r.2⟩
theorem l8.weak (h:ca s s') (r:l8 b ty w0 O X s cs a w):l8 b ty w0 O X s' cs a w:=⟨h _ _ _ _ _ r.1,r.2⟩
theorem dJ.weak {c:Code} (h:ca s s') (k:dJ P b ty c Q s' cs):dJ P b ty c Q s cs:=fun _ _ _ _ _ r=>k _ _ _ _ _ (r.weak h)
theorem dJ.mono {c:Code} {Q':Exit->AS->List PV->Prop} (h:dJ P b ty c Q s cs) (k: ∀e s' cs',Q e s' cs'->Q' e s' cs'):dJ P b ty c Q' s cs:=fun _ _ _ _ _ r=>
 wp_mono (h _ _ _ _ _ r) fun _ _ _ ⟨s',cs',h1,h2⟩=>⟨s',cs',k _ _ _ h1,h2⟩
theorem eh (h:Q .normal s cs):dJ P b ty .skip Q s cs:=fun _ _ _ _ _ r=>wp_skip ⟨s,cs,h,r⟩
theorem yC {id:Nat} (h:Q (.exit id) s cs):dJ P b ty (.exit id) Q s cs:=fun _ _ _ _ _ r=>wp_exit ⟨s,cs,h,r⟩
theorem fc (h:Q .ret s cs):dJ P b ty .ret Q s cs:=fun _ _ _ _ _ r=>wp_ret ⟨s,cs,h,r⟩
theorem bI {x y:Code} (h:dJ P b ty x (rx (dJ P b ty y Q) Q) s cs):dJ P b ty (.seq x y) Q s cs:=fun _ _ _ _ _ r=>
 wp_seq (wp_mono (h _ _ _ _ _ r) fun e a w ⟨s',cs',h1,h2⟩=>by
  cases e with
  |normal=>exact h1 _ _ _ _ _ h2
  |_=>exact⟨s',cs',h1,h2⟩)
theorem cW {id:Nat} {x:Code} (h:dJ P b ty x (qk id Q) s cs):dJ P b ty (.block id x) Q s cs:=fun _ _ _ _ _ r=>
 wp_block (wp_mono (h _ _ _ _ _ r) fun e a w ⟨s',cs',h1,h2⟩=>by
  cases e with
  |exit id'=>
   simp only[qk]at h1;simp only[Exit.inBlock];split at h1
   ·rename_i hid;rw[if_pos hid];exact⟨s',cs',h1,h2⟩
   rename_i hid;rw[if_neg hid];exact⟨s',cs',h1,h2⟩
  |_=>exact⟨s',cs',h1,h2⟩)
theorem yB {c:Operand} {x y:Code} {v:Bool} (hc:s.ev c=some (.raw (.bool v))) (ht:v=true->dJ P b ty x Q s cs) (hf:v=false->dJ P b ty y Q s cs):dJ P b ty (.cond c x y) Q s cs:=fun _ _ _ _ _ r=>by
 obtain⟨⟨h1,hsz,ρ,hinv,htm⟩,_⟩:=id r;have hb:=(b9 (cY htm c _ hc)).1;exact wp_cond_split hb (fun h=>ht h _ _ _ _ _ r) (fun h=>hf h _ _ _ _ _ r)
theorem kQ {c:Operand} {x y:Code} (hc:s.ev c=some (.raw (.bool true))) (h:dJ P b ty x Q s cs):dJ P b ty (.cond c x y) Q s cs:=yB hc (fun _=>h) (fun h=>by cases h)
theorem gz {c:Operand} {x y:Code} (hc:s.ev c=some (.raw (.bool false))) (h:dJ P b ty y Q s cs):dJ P b ty (.cond c x y) Q s cs:=yB hc (fun h=>by cases h) (fun _=>h)
theorem gA {c:Operand} {y z:Code} (hc:s.ev c=some (.raw (.bool true))) (h:dJ P b ty z Q s cs):dJ P b ty (.seq (.cond c .skip y) z) Q s cs:=bI (kQ hc (eh h))
theorem jf {c:Operand} {x z:Code} {id:Nat} (hc:s.ev c=some (.raw (.bool false))) (h:Q (.exit id) s cs):dJ P b ty (.seq (.cond c x (.exit id)) z) Q s cs:=bI (gz hc (yC h))
theorem Gv {G:Type} (St:G->AS) (Sc:G->List PV) (μ:G->Nat) (g0:G) {c:Code} (h0:ca s (St g0)) (h0':Sc g0=cs)
  (round: ∀g,dJ P b ty c (rx (fun s' cs'=> ∃g',μ g'<μ g/\ca s' (St g')/\Sc g'=cs') Q) (St g) (Sc g)):dJ P b ty (.loop c) Q s cs:=fun w0 O X a w r=>by
 classical
 subst h0'
 let p:Act->World->Nat->Prop:=fun a w n=> ∃g,μ g=n/\l8 b ty w0 O X (St g) (Sc g) a w
 let m:Act->World->Nat:=fun a w=>if h: ∃n,p a w n then Classical.choose (bM h)else 0
 refine wp_loop (fun a w=> ∃n,p a w n) m ⟨_,g0,rfl,r.weak h0⟩ ?_;intro a w hI;have hm:m a w=Classical.choose (bM hI):=dif_pos hI;obtain⟨hp,hleast⟩:=Classical.choose_spec (bM hI);rw[<- hm]at hp;obtain⟨g,hg,hr⟩:=hp;refine wp_mono (round g _ _ _ _ _ hr) fun e a' w' ⟨s',cs',h1,h2⟩=>?_
 cases e with
 |normal=>
  obtain⟨g',hlt,hw,hcs⟩:=h1;subst hcs;have hr':=h2.weak hw;have hI': ∃n,p a' w' n:=⟨_,g',rfl,hr'⟩;refine⟨hI',?_⟩;have hm':m a' w'=Classical.choose (bM hI'):=dif_pos hI';obtain⟨_,hl'⟩:=Classical.choose_spec (bM hI');have:=hl' (μ g') ⟨g',rfl,hr'⟩;rw[hm'];omega
 |_=>exact⟨s',cs',h1,h2⟩
theorem eg {G:Type} (St:G->AS) (Sc:G->List PV) (μ:G->Nat) (g0:G) {id:Nat} {x:Code} (h0:ca s (St g0)) (h0':Sc g0=cs)
  (round: ∀g,dJ P b ty x (rx (fun s' cs'=> ∃g',μ g'<μ g/\ca s' (St g')/\Sc g'=cs') (qk id Q)) (St g) (Sc g)):dJ P b ty (.block id (.loop x)) Q s cs:=
 cW (Gv St Sc μ g0 h0 h0' round)
/-! Regions. -/
theorem fD {y:Code} (items:List (aY P)) (ow:List Nat) {id:Nat} {ops:Array Oper} (h: ∀K:AS->Prop,(∀s',dJ P b ty y Q s' cs->K s')->cz P (items.map aY.a) ow (bJ ops ops.toList 0) (some s) K):dJ P b ty (.seq (.region id ops false) y) Q s cs:=
 bI (og (mX items ow (h _ fun _ h=>h)))
theorem Gw (items:List (aY P)) (ow:List Nat) {id:Nat} {ops:Array Oper} (h: ∀K:AS->Prop,(∀s',Q .normal s' cs->K s')->cz P (items.map aY.a) ow (bJ ops ops.toList 0) (some s) K):dJ P b ty (.region id ops false) Q s cs:=
 og (mX items ow (h _ fun _ h=>h))
theorem mY (hm:P.follows .mixedOrders=true) (items:List (aY P)) (ow:List Nat) {id:Nat} {y:Code} {ops:Array Oper} (hd:di [] ops=true) (h: ∀K:AS->Prop,(∀s',dJ P b ty y Q s' cs->K s')->cz P (items.map aY.a) ow (bJ ops ops.toList 0) (some s) K):dJ P b ty (.seq (.region id ops true) y) Q s cs:=
 bI (og (iY hm items ow hd (by simp) (fun x hx=>by simp at hx) (h _ fun _ h=>h)))
theorem Eo (hm:P.follows .mixedOrders=true) (items:List (aY P)) (ow:List Nat) {id:Nat} {ops:Array Oper} (hd:di [] ops=true) (h: ∀K:AS->Prop,(∀s',Q .normal s' cs->K s')->cz P (items.map aY.a) ow (bJ ops ops.toList 0) (some s) K):dJ P b ty (.region id ops true) Q s cs:=
 og (iY hm items ow hd (by simp) (fun x hx=>by simp at hx) (h _ fun _ h=>h))
theorem aR {y:Code} {id:Nat} {ops:Array Oper} (h: ∀K:AS->Prop,(∀s',dJ P b ty y Q s' cs->K s')->cz P [] [] (bJ ops ops.toList 0) (some s) K):dJ P b ty (.seq (.region id ops false) y) Q s cs:=fD [] [] h
theorem cL {id:Nat} {ops:Array Oper} (h: ∀K:AS->Prop,(∀s',Q .normal s' cs->K s')->cz P [] [] (bJ ops ops.toList 0) (some s) K):dJ P b ty (.region id ops false) Q s cs:=Gw [] [] h
theorem fX (hm:P.follows .mixedOrders=true) {y:Code} {id:Nat} {ops:Array Oper} (hd:di [] ops=true) (h: ∀K:AS->Prop,(∀s',dJ P b ty y Q s' cs->K s')->cz P [] [] (bJ ops ops.toList 0) (some s) K):dJ P b ty (.seq (.region id ops true) y) Q s cs:=mY hm [] [] hd h
theorem kR (hm:P.follows .mixedOrders=true) {id:Nat} {ops:Array Oper} (hd:di [] ops=true) (h: ∀K:AS->Prop,(∀s',Q .normal s' cs->K s')->cz P [] [] (bJ ops ops.toList 0) (some s) K):dJ P b ty (.region id ops true) Q s cs:=Eo hm [] [] hd h
def CallG (P:Program) (b:Nat) (ty:TypeId) (f:FuncId) (args:List TV) (cs:List PV) (res:CallRes):Prop:=callable P f=true/\ ∀w,wP b ty cs w->wQ P f args res w
theorem fG {f:FuncId} {fn:Func} {c:Code} {args:List TV} {res:CallRes} (hf:P.funcs[f]?=some fn) (hb:fn.body=some c) (hn:callable P f=true)
  (h:dJ P b ty c (fun e s k=>(e= .normal\/e= .ret)/\k=cs/\ ∃s',ca s s'/\nX P fn res s') ⟨args++ae (fn.ntmps-args.length) .undef,fun _=>[]⟩ cs):CallG P b ty f args cs res:=
 ⟨hn,fun w hw=>sU (wP b ty cs) hf hb hn (fun w0 X a hG r=>wp_mono (h w0 _ X a w0 ⟨r,hG,fun h=>h⟩) fun e a' w' ⟨s',k,⟨g1,_,g2⟩,g3⟩=>⟨s',⟨g1,g2⟩,g3.1⟩) w hw⟩
end
structure dU (P:Program) (b:Nat) (ty:TypeId) (cs:List PV) where
 i:Nat
 f:FuncId
 args:List TV
 res:CallRes
 h:CallG P b ty f args cs res
 ok:cs=cs
def dU.a {P:Program} {b:Nat} {ty:TypeId} {cs:List PV} (it:dU P b ty cs):dI P:=⟨it.i,it.f,it.args,it.res⟩
section
variable {P:Program} {b:Nat} {ty:TypeId} {cs cs':List PV} {s s':AS} {w0 w:World} {O X:Nat->Prop} {a:Act} {Q:Exit->AS->List PV->Prop}
theorem E3 (items:List (aY P)) (lents:List (dU P b ty cs)) (hw:wP b ty cs w):kJ P (items.map aY.a++lents.map dU.a) w:=fun it hit=>by
 rcases List.mem_append.1 hit with h|h
 ·exact(aY.ok items).at w it h
 obtain⟨x,_,rfl⟩:=List.mem_map.1 h;exact x.h.2 w hw
theorem OJ (items:List (aY P)) (lents:List (dU P b ty cs)) {ow:List Nat} {ops:Array Oper} {i:Nat} {o:Oper} {s1:AS} (hrel:l8 b ty w0 O X s cs a w) (h:ce P (items.map aY.a++lents.map dU.a) ow ops i o s=some s1) {K:Act->World->Prop} {Q:Exit->Act->World->Prop}
  (hK: ∀v w',l8 b ty w0 O X s1 cs (a.put o.dst v) w'->K (a.put o.dst v) w'):if Region.wanted o (yielded ops a.tmps)then o.wp P a w K Q else K (a.put o.dst undef) w:=
 ra (E3 items lents hrel.box) hrel.1 h fun v w' hr=>hK v w' ⟨hr,hrel.2⟩
theorem Cd (items:List (aY P)) (lents:List (dU P b ty cs)) {ow:List Nat} {ops:Array Oper} {Q:Exit->Act->World->Prop}:
  ∀(l:List Oper) (k:Nat) (s s':AS) (a:Act) (w:World),(∀(j:Nat) o,l[j]?=some o->ops[k+j]?=some o)->iF P (items.map aY.a++lents.map dU.a) ow ops (l.zipIdx k) s=some s'->l8 b ty w0 O X s cs a w->
   (∀a' w',l8 b ty w0 O X s' cs a' w'->Q .normal a' w')->wpOps P ops Q (List.range' k l.length) a w
 |[],k,s,s',a,w,_,h,r,hQ=>by
  simp only[List.zipIdx_nil,iF]at h;injection h with h
  subst h;exact hQ a w r
 |o::l,k,s,s',a,w,hl,h,r,hQ=>by
  simp only[List.zipIdx_cons,iF]at h;split at h
  ·rename_i s1 hs1;simp only[List.length_cons,List.range'_succ,wpOps];have ho:ops[k]?=some o:=by have:=hl 0 o rfl;simpa using this
   rw[ho];simp only;have:=OJ (Q:=Q) items lents r hs1 (K:=wpOps P ops Q (List.range' (k+1) l.length)) (fun v w' hr=>Cd items lents l (k+1) s1 s' _ _ (fun j o hj=>by have:=hl (j+1) o (by simpa using hj);rwa[show k+(j+1)=k+1+j by omega]at this) h hr hQ);split at this
   ·rename_i hw;rw[if_pos hw];exact .inl this
   rename_i hw;rw[if_neg hw];exact this
  cases h
theorem Ep (lents:List (dU P b ty cs)) (items:List (aY P)) (ow:List Nat) {id:Nat} {ops:Array Oper}
  (h:cz P (items.map aY.a++lents.map dU.a) ow (bJ ops ops.toList 0) (some s) (fun s'=>Q .normal s' cs)):dJ P b ty (.region id ops false) Q s cs:=fun w0 O X a w r=>by
 obtain⟨s',h1,h2⟩:=ck P _ ow ops ops.toList 0 s _ h;refine wp_region ?_;rw[List.range_eq_range'];have:=Cd (w0:=w0) (O:=O) (X:=X) items lents (Q:=fun e a' w'=> ∃s' k,Q e s' k/\l8 b ty w0 O X s' k a' w') ops.toList 0 s s' a w (fun j o hj=>by simpa using hj) h1 r (fun a' w' hr=>⟨s',cs,h2,hr⟩);simpa using this
theorem dm (lents:List (dU P b ty cs)) (items:List (aY P)) (ow:List Nat) {id:Nat} {ops:Array Oper} {y:Code}
  (h: ∀K:AS->Prop,(∀s',dJ P b ty y Q s' cs->K s')->cz P (items.map aY.a++lents.map dU.a) ow (bJ ops ops.toList 0) (some s) K):dJ P b ty (.seq (.region id ops false) y) Q s cs:=
 bI (Ep lents items ow (h _ fun _ h=>h))
theorem Gx (m j d:Nat) (T:TV) (items:List (aY P)) (ow:List Nat) {id:Nat} {ops:Array Oper} (hl:s.tmps.length<=1000000) (hm:m<ops.toList.length)
  (h:cz P (items.map aY.a) ow (bJ ops (ops.toList.take m) 0) (some s) (fun s1=>Pf P b cs ops m j d T s1/\s1.tmps.length<=1000000/\cz P (items.map aY.a) ow (bJ ops (ops.toList.drop (m+1)) (m+1)) (some (s1.put (some d) T)) (fun s'=>Q .normal s' cs))):dJ P b ty (.region id ops false) Q s cs:=fun w0 O X a w r0=>by
 obtain⟨s1,h1,⟨⟨t,x,o,ho,hop,hdst,hg,hx,hT⟩⟩,hl1,h2⟩:=ck P (items.map aY.a) ow ops _ 0 s _ h;obtain⟨s',h3,h4⟩:=ck P (items.map aY.a) ow ops _ (m+1) _ _ h2;refine wp_region ?_;have hsz:ops.size=(ops.toList.take m).length+(1+(ops.toList.drop (m+1)).length):=by simp at hm⊢;omega
 rw[hsz,List.range_eq_range',<- List.range'_append_1,Nat.zero_add];have hml:(ops.toList.take m).length=m:=by rw[List.length_take];omega
 refine kA (aY.ok items) (ops.toList.take m) 0 s s1 a w (fun j o hj=>?_) h1 r0.1 fun a' w' r'=>?_
 ·rw[List.getElem?_take]at hj;split at hj
  ·simpa using hj
  cases hj
 rw[hml,Nat.add_comm 1,List.range'_succ];simp only[wpOps,ho];rw[if_pos (by simp[Region.wanted,hg])];refine .inl ?_;have rG:l8 b ty w0 O X s1 cs a' w':=⟨r',r0.2⟩;have p6:=rG.box.2;obtain⟨k1,k2,ρ,hinv,htm⟩:=r';have htm:bX X ρ s1 a' w':=htm;have hv:=(b9 (cY htm x _ hx)).1;have hcs:kZ ρ s1.H (Xo X ρ s1.H) w' b j ((cs.drop j).map AV.p):=fun i y hy=>by
  rw[ay]at hy;obtain⟨z,hz,rfl⟩:=Option.map_eq_some_iff.1 hy;rw[List.getElem?_drop]at hz;obtain⟨v,rfl,v1,v2⟩:=p6 _ z hz;exact⟨v,v1,v2,cq.raw _ v2⟩
 obtain⟨v,g1,g2⟩:=lA hT hcs;have hrun:(execOp a'.eval o).run P w'= .ok (.value v) w':=by
  unfold execOp;rw[hop];refine dN ?_;rw[hv];exact g1
 unfold Oper.wp;rw[hrun];simp only[Oper.upon];rw[hdst];refine gX (aY.ok items) (Q:=fun e a' w'=> ∃s' cs',Q e s' cs'/\l8 b ty w0 O X s' cs' a' w') (ops.toList.drop (m+1)) (m+1) _ s' _ _ (fun j o hj=>?_) h3 (gH k1 k2 hinv htm g2) (fun a' w' hr=>⟨s',cs,h4,hr,r0.2⟩);rw[List.getElem?_drop]at hj;simpa using hj
theorem Er (m j d:Nat) (T:TV) (items:List (aY P)) (ow:List Nat) {id:Nat} {ops:Array Oper} {y:Code} (hl:s.tmps.length<=1000000) (hm:m<ops.toList.length)
  (h: ∀K:AS->Prop,(∀s1,(Pf P b cs ops m j d T s1/\s1.tmps.length<=1000000/\ ∀K:AS->Prop,(∀s',dJ P b ty y Q s' cs->K s')->cz P (items.map aY.a) ow (bJ ops (ops.toList.drop (m+1)) (m+1)) (some (s1.put (some d) T)) K)->K s1)->cz P (items.map aY.a) ow (bJ ops (ops.toList.take m) 0) (some s) K):dJ P b ty (.seq (.region id ops false) y) Q s cs:=
 bI (Gx m j d T items ow hl hm (h _ fun s1 ⟨q1,q2,q3⟩=>⟨q1,q2,q3 _ fun _ h=>h⟩))
end
end
end Go.Proofs.YtfgeomlagfomgaaGreatDoor
namespace Go.Proofs
open Go.Shelf
def Tryz.lays133_ren:Go.Shelf.Ren:=⟨fun|133=>178|128=>182|n=>n,fun|51=>79|3=>3|4=>4|46=>80|5=>5|9=>9|n=>n,fun|n=>n⟩
theorem Tryz.lays133:Go.Proofs.Lays.n133 Tryz.prog Tryz.lays133_ren:={
 mixed:=by kernel_rfl
 f128:=Tryz.func182.trans (congrArg some (by kernel_rfl))
 f133:=Tryz.func178.trans (congrArg some (by kernel_rfl))
 t3:=Tryz.underlying3
 a3:=Tryz.isAgg3
 z3:=Tryz.sizeOf3
 v3:=Tryz.zeroValue3
 t4:=Tryz.underlying4
 a4:=Tryz.isAgg4
 z4:=Tryz.sizeOf4
 v4:=Tryz.zeroValue4
 t5:=Tryz.underlying5
 a5:=Tryz.isAgg5
 z5:=Tryz.sizeOf5
 v5:=Tryz.zeroValue5
 t9:=Tryz.underlying9
 a9:=Tryz.isAgg9
 z9:=Tryz.sizeOf9
 v9:=Tryz.zeroValue9
 t46:=Tryz.underlying80
 a46:=Tryz.isAgg80
 z46:=Tryz.sizeOf80
 v46:=Tryz.zeroValue80
 t51:=Tryz.underlying79
 a51:=Tryz.isAgg79
 z51:=Tryz.sizeOf79
 v51:=Tryz.zeroValue79}
end Go.Proofs
namespace Go.Proofs.YtfgeomlagfomgaaGreatDoor
open Go.RowKit
theorem ql: ∀x:List Int,ld x x=0
 |[]=>rfl
 |a::x=>by simp[ld,ql x]
theorem C2: ∀{x y:List Int},ld x y=0->x=y
 |[],[],_=>rfl
 |[],_::_,h=>by simp[ld]at h
 |_::_,[],h=>by simp[ld]at h
 |a::x,b::y,h=>by
  unfold ld at h;split at h
  ·omega
  split at h
  ·omega
  rw[C2 h,show a=b from by omega]
theorem Jh (A B:Option Addr) (c d:Nat) (a b:List (List Int)) (w:World) (ha:rJ .i64 w A a) (hb:rJ .i64 w B b) (la:a.length<=9223372036854775807) (lb:b.length<=9223372036854775807):
  Calls Tryz.prog 28 #[.slice A a.length c,.slice B b.length d] w fun e w'=>e= .returned (.bool (decide (a=b)))/\Ext w w':=by
 have HA:=Lib.hid ha;have HB:=Lib.hid hb;clear ha hb;by_cases hl:a.length=b.length
 ·have hlb:((a.length:Int) !=(b.length:Int))=false:=by simp[hl]
  have HL:=Lib.hid hl;have hle:a.length<=b.length:=by omega
  clear hl
  go_enter Tryz.func28,Tryz.ntmps28
  go_wp2_with fail
  clear hlb
  go_loopw [13,5] (fun i _ wr=> ∃k:Nat,k<=a.length/\i= .int .i64 k/\Hid (Ext w wr)/\Hid (∀j,j<k->a[j]?=b[j]?)) (fun i _ _=>a.length-(intOf i).toNat)
  case atStart=>exact⟨0,Nat.zero_le _,rfl,Lib.hid (Ext.refl _),Lib.hid (fun j h=>by omega)⟩
  case round=>
   obtain⟨k,hk,rfl,HE,HQ⟩:=hrel;by_cases hlt:k<a.length
   ·obtain⟨x,hx⟩:=getElem?_of_lt hlt;obtain⟨y,hy⟩:=getElem?_of_lt (l:=b) (k:=k) (by omega);obtain⟨b1,o1,B1,c1,rfl,hc1,hcl1,hlx,hr1⟩:=(HA.out.ext HE.out.drew).at_ hx;obtain⟨b2,o2,B2,c2,rfl,hc2,hcl2,hly,hr2⟩:=(HB.out.ext HE.out.drew).at_ hy;have HX:=Lib.hid hx;have HY:=Lib.hid hy;have HR1:=Lib.hid hr1;have HR2:=Lib.hid hr2;have HE1:=Lib.hid HE.out.drew;have hkb:(k:Int)<(b.length:Int):=by omega
    clear hx hy hr1 hr2 HE
    go_wp2_with fail
    refine pJ 8 (by kernel_rfl) (by kernel_rfl) ?_;simp only[List.take_succ_cons,List.take_zero,List.drop_succ_cons,List.drop_zero];generalize wr.drew=w3 at*
    iterate 8 still_step
    refine wpStill_nil ?_;have HC:=Lib.hid (mI B1 B2 c1 c2 x y w3 HR1.out HR2.out hlx hly);clear hc1 hc2;by_cases h0:ld x y=0
    ·have h0':(ld x y !=0)=false:=by simp[h0]
     have H0:=Lib.hid h0;clear h0
     go_wp2_with fail
     refine HC.out.mono ?_;rintro e w4 ⟨rfl,n,rfl⟩
     go_wp2_with fail
     go_roundw
     case rel=>
      refine⟨k+1,by omega,by go_num,Lib.hid (HE1.out.drewN n),Lib.hid (fun j hj=>?_)⟩;by_cases e:j=k
      ·subst e;rw[HX.out,HY.out,C2 H0.out]
      exact HQ.out j (by omega)
     case measure=>simp[intOf];omega
    have h0':(ld x y !=0)=true:=by simp[h0]
    go_wp2_with fail
    refine HC.out.mono ?_;rintro e w4 ⟨rfl,n,rfl⟩
    go_wp2_with fail
    go_ret
    refine⟨dY (fun h=>?_),HE1.out.drewN n⟩;subst h;have h1:=HX.out;rw[HY.out]at h1;cases h1;exact h0 (ql _)
   go_wp2_with fail
   go_ret
   refine⟨xS ?_,HE.out⟩;apply List.ext_getElem?;intro j;rcases Nat.lt_or_ge j a.length with h|h
   ·exact HQ.out j (by omega)
   rw[List.getElem?_eq_none h,List.getElem?_eq_none (by have:=HL.out;omega)]
 have hlb:((a.length:Int) !=(b.length:Int))=true:=by simp;omega
 go_enter Tryz.func28,Tryz.ntmps28
 go_wp2_with fail
 go_ret
 exact⟨dY (fun h=>hl (by rw[h])),Ext.refl _⟩
theorem N1 {s:AS} {w0 w:World} {O X:Nat->Prop} {ρ:Rho} {act:Act} (a:Nat) (hok:u5 s.H a) (hinv:Inv w0 O X s.H ρ w) (htm:bX X ρ s act w):Inv w0 O X (bj s.H a []) ρ w/\bX X ρ ⟨s.tmps.map (gC s.H a),bj s.H a []⟩ act w:=by
 have hna: ∀(x y:Nat) o,(bj s.H a [] x)[y]?=some o->x≠a/\(s.H x)[y]?=some o:=fun x y o ho=>by
  by_cases hx:x=a
  ·subst hx;rw[bE]at ho;simp at ho
  rw[bi hx]at ho;exact⟨hx,ho⟩
 have hXo: ∀b,Xo X ρ (bj s.H a []) b->Xo X ρ s.H b:=fun b hb=>by
  rcases hb with hb|⟨x,y,o,n,g1,g2⟩
  ·exact .inl hb
  exact .inr ⟨x,y,o,n,(hna x y o g1).2,g2⟩
 have hZb: ∀(r:Nat) o,(s.H a)[r]?=some o-> ∀b c,ρ a r=some (b,c)-> ¬Xo X ρ (bj s.H a []) b:=fun r o ho b c hr hX=>by
  rcases hX with hX|⟨x,y,o',n,g1,g2⟩
  ·exact(hinv.old a r o b c ho hr).2 hX
  obtain⟨hx,g1'⟩:=hna x y o' g1;exact hx (hinv.inj x y a r o' o b n c g1' ho g2 hr).1
 have hpure: ∀x u,isPure x=true->AV.rel ρ s.H (Xo X ρ s.H) w x u->cq (Xo X ρ (bj s.H a [])) w (yf x) u:=fun x u hp h=>by
  cases x<;>first|exact cq.weaken (fun b _ hb=>hXo b hb) h|cases hp
 have hcell: ∀(r:Nat) o,(s.H a)[r]?=some o-> ∀e∈o.elems,∀x∈e,∀u,AV.rel ρ s.H (Xo X ρ s.H) w x u->cq (Xo X ρ (bj s.H a [])) w (jE s.H a x) u:=fun r o ho e he x hx u hu=>by
  rcases hok r o ho e he x hx with hp|⟨r',off,len,o',rfl,ho',hpr⟩
  ·have:=hpure x u hp hu;cases x<;>first|exact this|cases hp
  simp only[jE,ho'];exact nJ (hinv.objs a r' o' ho') ho' (fun e he y hy u hu=>hpure y u (hpr e he y hy) hu) (hZb r' o' ho') hu
 have hmap: ∀x v,AV.rel ρ s.H (Xo X ρ s.H) w x v->AV.rel ρ (bj s.H a []) (Xo X ρ (bj s.H a [])) w (fb s.H a x) v:=fun x v h=>by
  cases x with
  |p x=>exact cq.weaken (fun b _ hb=>hXo b hb) h
  |sl b r off len=>
   simp only[fb];by_cases hb:b=a
   ·subst hb;rw[if_pos rfl];have h':=h;obtain⟨o,g1,g2,g3⟩:=h;rw[g1];exact nJ (hinv.objs b r o g1) g1 (hcell r o g1) (hZb r o g1) h'
   rw[if_neg hb];obtain⟨o,g1,g2⟩:=h;exact⟨o,by rw[bi hb];exact g1,g2⟩
  |ptr b r i j=>
   simp only[fb];by_cases hb:b=a
   ·subst hb;rw[if_pos rfl];trivial
   rw[if_neg hb];obtain⟨o,b',c,g1,g2⟩:=h;exact⟨o,b',c,by rw[bi hb];exact g1,g2⟩
  |junk=>trivial
 have hagg: ∀cs v,bV ρ s.H (Xo X ρ s.H) w cs v->bV ρ (bj s.H a []) (Xo X ρ (bj s.H a [])) w (cs.map (fb s.H a)) v:=fun cs v h=>by
  obtain⟨vs,g1,g2,g3⟩:=h;refine⟨vs,g1,by simpa using g2,fun j x hx=>?_⟩;rw[ay]at hx;obtain⟨y,hy,rfl⟩:=Option.map_eq_some_iff.1 hx;obtain⟨u,u1,u2,u3⟩:=g3 j y hy;exact⟨u,u1,u2,hmap y u u3⟩
 refine⟨⟨hinv.keep,fun x y o ho=>?_,fun x y x' y' o o' b c c' ho ho'=>hinv.inj x y x' y' o o' b c c' (hna x y o ho).2 (hna x' y' o' ho').2,fun x y o b c ho=>hinv.old x y o b c (hna x y o ho).2,hinv.bar,fun x y o ho=>hinv.self x y o (hna x y o ho).2⟩,fun t x hx=>?_⟩
 ·obtain⟨hx,ho'⟩:=hna x y o ho;obtain⟨q1,q2,q3⟩:=hinv.objs x y o ho';refine⟨q1,q2,?_⟩;cases hr:ρ x y with
  |none=>rw[hr]at q3;exact q3
  |some bc=>
   obtain⟨b,c⟩:=bc;rw[hr]at q3;obtain⟨cells,p1,p2,p3,p4,p5⟩:=q3;refine⟨cells,p1,p2,p3,p4,fun i e j z he hz=>?_⟩;obtain⟨u,u1,u2,u3⟩:=p5 i e j z he hz;have hs:=hinv.self x y o ho' e (au he) z (au hz);have:=hmap z u u3;refine⟨u,u1,u2,?_⟩;cases z with
   |sl z _ _ _=>have hs:z=x:=hs;subst hs;simpa[fb,hx] using this
   |ptr z _ _ _=>have hs:z=x:=hs;subst hs;simpa[fb,hx] using this
   |p z=>exact this
   |junk=>trivial
 simp only[ay]at hx;obtain⟨y,hy,rfl⟩:=Option.map_eq_some_iff.1 hx;obtain⟨v,v1,v2⟩:=htm t y hy;refine⟨v,v1,?_⟩;cases y with
 |one x=>exact hmap x v v2
 |agg cs=>exact hagg cs v v2
 |fn f cs=>obtain⟨u,h1,h2⟩:=v2;exact⟨u,hagg cs u h1,h2⟩
 |tup ts=>
  obtain⟨vs,g1,g2,g3⟩:=v2;refine⟨vs,g1,by simpa using g2,fun j b cs hj=>?_⟩;rw[ay]at hj;obtain⟨z,hz,hzz⟩:=Option.map_eq_some_iff.1 hj;obtain⟨b',cs'⟩:=z;simp at hzz;obtain⟨rfl,rfl⟩:=hzz;obtain⟨u,u1,u2⟩:=g3 j b' cs' hz;refine⟨u,u1,?_⟩;rcases u2 with⟨u2,u3⟩|⟨u2,q,rfl,u4⟩
  ·exact .inl ⟨u2,hagg _ _ u3⟩
  exact .inr ⟨u2,_,rfl,hmap q u u4⟩
theorem oV {s:AS} (a k:Nat) {ty:TypeId} {es:Nat} {cs:List PV} (hH:s.H a=[⟨ty,es,[cs.map AV.p]⟩]) (hk:s.tmps[k]?=some (.one (.ptr a 0 0 0))):ca s ⟨(s.tmps.map (gC s.H a)).set k (.one (.p (.ptr cs))),bj s.H a []⟩:=by
 rintro w0 O X act w ⟨h1,hsz,ρ,hinv,htm⟩;have htm:bX X ρ s act w:=htm;have hrow:(s.H a)[0]?=some ⟨ty,es,[cs.map AV.p]⟩:=by rw[hH];rfl
 have hok:u5 s.H a:=fun r o ho e he x hx=>by
  rw[hH]at ho;cases r with
  |succ r=>simp at ho
  |zero=>
   simp at ho;subst ho;simp at he;subst he;obtain⟨y,_,rfl⟩:=List.mem_map.1 hx;exact .inl rfl
 obtain⟨hinv',htm'⟩:=N1 a hok hinv htm;refine⟨h1,by simpa using hsz,ρ,hinv',fun t x hx=>?_⟩;by_cases e:t=k
 ·subst e;simp only at hx;have hlt:=(List.getElem?_eq_some_iff.1 hk).1;rw[List.getElem?_set_self (by simpa using hlt)]at hx;injection hx with hx
  subst hx;obtain⟨v,v1,o,b,c,g1,g2,g3,rfl⟩:=htm t _ hk;rw[hrow]at g1;injection g1 with g1
  subst g1;refine⟨_,v1,?_⟩;obtain⟨q1,q2,q3⟩:=hinv.objs a 0 _ hrow;rw[g2]at q3;obtain⟨cells,p1,p2,p3,p4,p5⟩:=q3;have hXo: ∀b,Xo X ρ (bj s.H a []) b->Xo X ρ s.H b:=fun b hb=>by
   rcases hb with hb|⟨x,y,o,n,g1,g2⟩
   ·exact .inl hb
   by_cases hx:x=a
   ·subst hx;rw[bE]at g1;simp at g1
   rw[bi hx]at g1;exact .inr ⟨x,y,o,n,g1,g2⟩
  have hnb: ¬Xo X ρ (bj s.H a []) b:=fun hX=>by
   rcases hX with hX|⟨x,y,o',n,g1,g3⟩
   ·exact(hinv.old a 0 _ b c hrow g2).2 hX
   by_cases hx:x=a
   ·subst hx;rw[bE]at g1;simp at g1
   rw[bi hx]at g1;exact hx (hinv.inj x y a 0 o' _ b n c g1 hrow g3 g2).1
  show cq _ w (.ptr cs) _;rw[show(0:Nat)*(⟨ty,es,[cs.map AV.p]⟩:OObj).es+0=0 by simp];have hkey: ∀(j:Nat) x,cs[j]?=some x-> ∃u:Value,cells[j]?=some u/\cq (Xo X ρ (bj s.H a [])) w x u:=fun j x hx=>by
   obtain⟨u,u1,u2,u3⟩:=p5 0 (cs.map AV.p) j (.p x) rfl (by rw[ay,hx];rfl);refine⟨u,by simpa using u1,cq.weaken (fun b _ hb=>hXo b hb) u3⟩
  refine cq.ptr b 0 cs (fun j=>(cells[j]?).getD undef) hnb (Array.getElem?_eq_some_iff.1 p1).1 (fun j x hx=>?_) (fun j x hx=>?_)
  ·obtain⟨u,u1,u2⟩:=hkey j x hx;rw[cell_of_row _ b _ cells _ _ p1,Nat.zero_add,u1];rfl
  obtain⟨u,u1,u2⟩:=hkey j x hx;simp only[u1,Option.getD_some];exact u2
 simp only at hx;rw[List.getElem?_set_ne (Ne.symm e)]at hx;exact htm' t x hx
section
def OX (k:Nat) (f:List Nat->Int):Prop:= ∀xs c d ys,xs.length+ys.length+2=k->f (xs++c::d::ys)= - f (xs++d::c::ys)
theorem OX.cons {k:Nat} {f:List Nat->Int} (h:OX (k+1) f) (c:Nat):OX k (fun l=>f (c::l)):=fun xs a b ys hl=>h (c::xs) a b ys (by simp;omega)
theorem Dz {r:Nat->Int}: ∀(cs:List Nat) {f g:List Nat->Int},(∀l,l.length+1=cs.length->f l= - g l)->dz r f cs= - dz r g cs
 |[],_,_,_=>rfl
 |c::cs,f,g,h=>by
  rw[dz,dz,h cs rfl,Dz cs (f:=fun l=>f (c::l)) (g:=fun l=>g (c::l)) (fun l hl=>h (c::l) (by simp;omega))];grind
theorem CV {r:Nat->Int}: ∀(xs:List Nat) (k:Nat) (f:List Nat->Int),OX k f-> ∀c d ys,xs.length+ys.length+2=k+1->dz r f (xs++c::d::ys)= - dz r f (xs++d::c::ys)
 |[],k,f,h,c,d,ys,hl=>by
  have e:=Dz (r:=r) ys (f:=fun l=>f (c::d::l)) (g:=fun l=>f (d::c::l)) (fun l hl'=>h [] c d l (by simp at hl⊢;omega));simp only[List.nil_append,dz];rw[e];grind
 |x::xs,k,f,h,c,d,ys,hl=>by
  obtain⟨k,rfl⟩: ∃k',k=k'+1:=⟨k-1,by simp at hl;omega⟩;simp only[List.cons_append,dz];rw[CV xs k _ (h.cons x) c d ys (by simp at hl;omega),h xs c d ys (by simp at hl;omega)];grind
theorem BU (R:FF): ∀k,OX k (om R k)
 |0=>fun xs c d ys h=>by omega
 |k+1=>fun xs c d ys h=>CV xs k _ (BU R k) c d ys h
theorem w7 {k:Nat} {f:List Nat->Int} (h:OX k f) (c:Nat) (ys:List Nat): ∀(xs zs:List Nat),zs.length+xs.length+ys.length+2=k->f (zs++c::(xs++c::ys))=0
 |[],zs,hl=>by
  have:=h zs c c ys (by simp at hl;omega);simp only[List.nil_append];omega
 |x::xs,zs,hl=>by
  have h1:=h zs c x (xs++c::ys) (by simp at hl⊢;omega);have h2:=w7 h c ys xs (zs++[x]) (by simp at hl⊢;omega);rw[List.append_assoc]at h2;simp only[List.cons_append,List.nil_append]at h1 h2⊢;rw[h1,h2];rfl
/-! Columns. -/
theorem lk {r s:Nat->Int}: ∀(cs:List Nat) {f g:List Nat->Int},cs.Nodup->(∀c∈cs,r c=s c)->(∀l,l.length+1=cs.length->(∀c∈l,c∈cs)->l.Nodup->f l=g l)->dz r f cs=dz s g cs
 |[],_,_,_,_,_=>rfl
 |c::cs,f,g,hn,h,hf=>by
  obtain⟨hc,hn'⟩:=List.nodup_cons.1 hn;rw[dz,dz,h c List.mem_cons_self,hf cs rfl (fun d hd=>List.mem_cons_of_mem _ hd) hn',lk cs hn' (fun d hd=>h d (List.mem_cons_of_mem _ hd)) (fun l hl hs hl2=>hf (c::l) (by simp;omega) (fun d hd=>by
   rcases List.mem_cons.1 hd with rfl|hd
   ·exact List.mem_cons_self
   exact List.mem_cons_of_mem _ (hs d hd)) (List.nodup_cons.2 ⟨fun h=>hc (hs c h),hl2⟩))]
def cT (R:FF) (a:Nat) (S:Nat->Int):Nat->Nat->Int:=fun i c=>if c=a then S i else R i c
theorem ng (R:FF) (a:Nat):cT R a (fun i=>R i a)=R:=by
 funext i c;unfold cT;split
 ·rename_i h;rw[h]
 rfl
theorem Dy {a:Nat} {u t s s':Int} {r:Nat->Int}: ∀(cs:List Nat) (f fS fT:List Nat->Int),cs.Nodup->a∈cs->
  (∀l,l.length+1=cs.length->(∀c∈l,c∈cs)->l.Nodup->(a∈l->f l=u*fS l+t*fT l)/\(a∉l->fS l=f l/\fT l=f l))->
  dz (fun c=>if c=a then u*s+t*s' else r c) f cs=u*dz (fun c=>if c=a then s else r c) fS cs+t*dz (fun c=>if c=a then s' else r c) fT cs
 |[],_,_,_,_,h,_=>by simp at h
 |c::cs,f,fS,fT,hn,ha,h=>by
  obtain⟨hc,hn'⟩:=List.nodup_cons.1 hn;have hsub: ∀l:List Nat,(∀c∈l,c∈cs)-> ∀d∈c::l,d∈c::cs:=fun l hs d hd=>by
   rcases List.mem_cons.1 hd with rfl|hd
   ·exact List.mem_cons_self
   exact List.mem_cons_of_mem _ (hs d hd)
  obtain⟨h1,h2⟩:=h cs rfl (fun d hd=>List.mem_cons_of_mem _ hd) hn';rw[dz,dz,dz];by_cases e:c=a
  ·subst e;obtain⟨h3,h4⟩:=h2 hc;have e0: ∀d∈cs,d≠c:=fun d hd e=>hc (e▸hd)
   have e1:dz (fun d=>if d=c then u*s+t*s' else r d) (fun l=>f (c::l)) cs=dz r (fun l=>u*fS (c::l)+t*fT (c::l)) cs:=
    lk cs hn' (fun d hd=>by simp[e0 d hd]) (fun l hl hs hl2=>(h (c::l) (by simp;omega) (hsub l hs) (List.nodup_cons.2 ⟨fun h=>hc (hs c h),hl2⟩)).1 List.mem_cons_self)
   have e2:dz (fun d=>if d=c then s else r d) (fun l=>fS (c::l)) cs=dz r (fun l=>fS (c::l)) cs:=lk cs hn' (fun d hd=>by simp[e0 d hd]) (fun _ _ _ _=>rfl);have e3:dz (fun d=>if d=c then s' else r d) (fun l=>fT (c::l)) cs=dz r (fun l=>fT (c::l)) cs:=lk cs hn' (fun d hd=>by simp[e0 d hd]) (fun _ _ _ _=>rfl);rw[e1,e2,e3,tB,h3,h4];simp only[if_pos];grind
  have ha':a∈cs:=by
   rcases List.mem_cons.1 ha with h|h
   ·exact absurd h.symm e
   exact h
  have ih:=Dy (u:=u) (t:=t) (s:=s) (s':=s') (r:=r) cs (fun l=>f (c::l)) (fun l=>fS (c::l)) (fun l=>fT (c::l)) hn' ha' (fun l hl hs hl2=>by
   obtain⟨q1,q2⟩:=h (c::l) (by simp;omega) (hsub l hs) (List.nodup_cons.2 ⟨fun h=>hc (hs c h),hl2⟩);exact⟨fun hal=>q1 (List.mem_cons_of_mem _ hal),fun hal=>q2 (fun h=>by
    rcases List.mem_cons.1 h with h|h
    ·exact e h.symm
    exact hal h)⟩)
  rw[ih,h1 ha'];simp only[if_neg e];grind
theorem Iz {R:FF} {a:Nat} {u t:Int} {S T:Nat->Int}: ∀(k:Nat) (cs:List Nat),cs.Nodup->cs.length=k->a∈cs->
  om (cT R a (fun i=>u*S i+t*T i)) k cs=u*om (cT R a S) k cs+t*om (cT R a T) k cs
 |0,cs,_,hl,ha=>by rw[List.length_eq_zero_iff.1 hl]at ha;simp at ha
 |k+1,cs,hn,hl,ha=>by
  refine Dy (r:=R k) (s:=S k) (s':=T k) cs _ _ _ hn ha (fun l hl' hs hl2=>⟨fun hal=>Iz k l hl2 (by omega) hal,fun hal=>?_⟩);have hne: ∀c∈l,c≠a:=fun c hc e=>hal (e▸hc)
  exact⟨nI fun i _ c hc=>by simp[cT,hne c hc],nI fun i _ c hc=>by simp[cT,hne c hc]⟩
theorem DA {r:Nat->Int} (p:Nat->Nat): ∀(cs:List Nat) (f:List Nat->Int),dz (fun c=>r (p c)) (fun l=>f (l.map p)) cs=dz r f (cs.map p)
 |[],_=>rfl
 |c::cs,f=>by
  rw[dz,List.map_cons,dz];have:=DA (r:=r) p cs (fun l=>f (p c::l));rw[<- this];rfl
theorem IA {R:FF} (p:Nat->Nat): ∀(k:Nat) (cs:List Nat),om (fun i c=>R i (p c)) k cs=om R k (cs.map p)
 |0,_=>rfl
 |k+1,cs=>by
  have e:om (fun i c=>R i (p c)) k=fun l=>om R k (l.map p):=funext (IA p k)
  show dz (fun c=>R k (p c)) (om (fun i c=>R i (p c)) k) cs=_;rw[e,DA p cs (om R k)];rfl
theorem IB {R:FF} {a b k:Nat} {cs:List Nat} (hn:cs.Nodup) (hl:cs.length=k) (ha:a∈cs) (hb:b∈cs) (hab:a≠b):om (cT R a (fun i=>R i b)) k cs=0:=by
 have e:cT R a (fun i=>R i b)=fun i c=>R i (if c=a then b else c):=by
  funext i c;unfold cT;split<;>rfl
 rw[e,IA (R:=R) (fun c=>if c=a then b else c)];obtain⟨s,t,rfl⟩:=List.append_of_mem ha;have hb':b∈s\/b∈t:=by
  rcases List.mem_append.1 hb with h|h
  ·exact .inl h
  rcases List.mem_cons.1 h with h|h
  ·exact absurd h.symm hab
  exact .inr h
 rcases hb' with h|h
 ·obtain⟨x,y,rfl⟩:=List.append_of_mem h;simp only[List.map_append,List.map_cons,if_pos,if_neg (Ne.symm hab),List.append_assoc,List.cons_append];exact w7 (BU R k) b _ _ _ (by simp at hl⊢;omega)
 obtain⟨x,y,rfl⟩:=List.append_of_mem h;simp only[List.map_append,List.map_cons,if_pos,if_neg (Ne.symm hab)];exact w7 (BU R k) b _ _ _ (by simp at hl⊢;omega)
theorem s5: ∀n,(l6 n).length=n
 |0=>rfl
 |n+1=>by rw[l6,List.length_cons,s5 n]
theorem qm: ∀n,(l6 n).Nodup
 |0=>List.nodup_nil
 |n+1=>List.nodup_cons.2 ⟨fun h=>by have:=jT h;omega,qm n⟩
theorem xm {n c:Nat} (h:c<n):c∈l6 n:=by
 induction n with
 |zero=>omega
 |succ n ih=>
  by_cases e:c=n
  ·rw[e];exact List.mem_cons_self
  exact List.mem_cons_of_mem _ (ih (by omega))
section
variable {R:FF} {n a b:Nat} (ha:a<n)
include ha
theorem qn (u t:Int) (S T:Nat->Int):dk (cT R a (fun i=>u*S i+t*T i)) n=u*dk (cT R a S) n+t*dk (cT R a T) n:=Iz n _ (qm n) (s5 n) (xm ha)
theorem s7 (hb:b<n) (hab:a≠b):dk (cT R a (fun i=>R i b)) n=0:=IB (qm n) (s5 n) (xm ha) (xm hb) hab
theorem Di {S:Nat->Int} (h: ∀i,i<n->S i=0):dk (cT R a S) n=0:=by
 have h1:=qn (R:=R) (n:=n) ha 0 0 S S;have h2:dk (cT R a S) n=dk (cT R a (fun i=>0*S i+0*S i)) n:=jj fun i j hi _=>by
  unfold cT;split
  ·show S i=0*S i+0*S i;rw[h i hi];rfl
  rfl
 rw[h2,h1];omega
theorem ni (hb:b<n) (hab:a≠b) (t:Int):dk (cT R a (fun i=>R i a+t*R i b)) n=dk R n:=by
 have h1:=qn (R:=R) (n:=n) ha 1 t (fun i=>R i a) (fun i=>R i b);rw[ng,s7 ha hb hab]at h1;simp only[Int.one_mul,Int.mul_zero,Int.add_zero]at h1;exact h1
theorem vN:dk (cT R a (fun i=> - R i a)) n= - dk R n:=by
 have h1:=qn (R:=R) (n:=n) ha (-1) 0 (fun i=>R i a) (fun i=>R i a);rw[ng]at h1;have e:(fun i=> -1*R i a+0*R i a)=fun i=> - R i a:=by funext i;omega
 rw[e]at h1;rw[h1];omega
end
theorem s6 {R:FF} {n a b:Nat} (ha:a<n) (hb:b<n) (hab:a≠b):dk (fun i c=>if c=a then R i b else if c=b then R i a else R i c) n= - dk R n:=by
 have h1:=ni (R:=R) ha hb hab 1;generalize hR1:cT R a (fun i=>R i a+1*R i b)=R1 at h1;have h2:=ni (R:=R1) hb ha (Ne.symm hab) (-1);generalize hR2:cT R1 b (fun i=>R1 i b+ -1*R1 i a)=R2 at h2;have h3:=ni (R:=R2) ha hb hab 1;generalize hR3:cT R2 a (fun i=>R2 i a+1*R2 i b)=R3 at h3;have h4:=vN (R:=R3) hb;rw[h3,h2,h1]at h4;rw[<- h4]
 congr 1
 funext i c;subst hR3 hR2 hR1;unfold cT;by_cases e1:c=a
 ·subst e1;simp[hab];omega
 by_cases e2:c=b
 ·subst e2;simp[Ne.symm hab];omega
 simp[e1,e2]
/-! Rows exchanged. -/
theorem Hc (n:Nat):dk (fun i j=>if i=j then 1 else 0) n=1:=by
 induction n with
 |zero=>rfl
 |succ n ih=>
  rw[bY,bk,dz,ns (l6 n) _ (fun c hc=>by have:=jT hc;simp;omega)];unfold dk at ih;rw[ih];simp
end
abbrev jk:TV:= .one .junk
def j4 (l:List TV):List TV:=jk::jk::jk::jk::l
def j16 (l:List TV):List TV:=j4 (j4 (j4 (j4 l)))
def rN (n:Nat):TV:= .raw (.int .i64 (n:Int))
def wk:=And.intro @O6.eq_1<|And.intro @O6.eq_2<|And.intro @O6.eq_3<|And.intro @LD.eq_def<|And.intro @xI.eq_def<|And.intro @j4.eq_1<|And.intro @j16.eq_1<|And.intro @rN.eq_1<|True.intro
def kd:=And.intro @AS.ev.eq_def<|And.intro @AS.put.eq_def<|And.intro @Bool.and_false<|And.intro @Bool.and_self<|And.intro @Bool.and_true<|And.intro @Bool.false_and<|And.intro @Bool.false_eq_true<|And.intro @Bool.not_false<|And.intro @Bool.not_true<|And.intro @Bool.or_false<|And.intro @Bool.or_true<|And.intro @Bool.true_and<|And.intro @aY.a.eq_1<|And.intro @CallRes.plain.eq_1<|And.intro @Hm.eq_1<|And.intro @Hm.eq_2<|And.intro @Int.natCast_nonneg<|And.intro @Int.toNat_natCast<|And.intro @List.all_cons.{0}<|And.intro @List.all_nil.{0}<|And.intro @List.append_nil.{0}<|And.intro @List.cons_append.{0}<|And.intro @List.contains_nil.{0}<|And.intro @List.drop_succ_cons.{0}<|And.intro @List.drop_zero.{0}<|And.intro @List.find?_cons.{0}<|And.intro @List.find?_nil.{0}<|And.intro @List.getElem?_cons_succ.{0}<|And.intro @List.getElem?_cons_zero.{0}<|And.intro @List.getElem?_toArray.{0}<|And.intro @List.isEmpty_cons.{0}<|And.intro @List.isEmpty_nil.{0}<|And.intro @List.isEmpty_toArray.{0}<|And.intro @List.length_cons.{0}<|And.intro @List.length_map.{0,0}<|And.intro @List.length_nil.{0}<|And.intro @List.map_cons.{0,0}<|And.intro @List.map_nil.{0,0}<|And.intro @List.nil_append.{0}<|And.intro @List.set_cons_succ.{0}<|And.intro @List.set_cons_zero.{0}<|And.intro @List.take_succ_cons.{0}<|And.intro @List.take_zero.{0}<|And.intro @Nat.add_zero<|And.intro @Nat.le_refl<|And.intro @Nat.zero_add<|And.intro @Option.bind_some.{0,0}<|And.intro @Option.map_none.{0,0}<|And.intro @Option.map_some.{0,0}<|And.intro @Tryz.underlying2<|And.intro @Tryz.underlying23<|And.intro @Tryz.underlying5<|And.intro @Tryz.underlying78<|And.intro @Tryz.underlying79<|And.intro @Value.oneCell'.eq_def<|And.intro @KC<|And.intro @NF<|And.intro @and_false<|And.intro @and_self<|And.intro @and_true<|And.intro @Pk.eq_def<|And.intro @beq_self_eq_true.{0}<|And.intro @dZ.eq_def<|And.intro @Ez.eq_def<|And.intro @jD.eq_1<|And.intro @jD.eq_2<|And.intro @jD.eq_3<|And.intro @jD.eq_4<|And.intro @cellsOf.eq_def<|And.intro @Qm<|And.intro @Qn<|And.intro @decide_false<|And.intro @decide_true<|And.intro @de.eq_def<|And.intro @fH.eq_def<|And.intro @jl.eq_def<|And.intro @bZ.eq_def<|And.intro @vP.eq_def<|And.intro @fv.eq_1<|And.intro @fv.eq_2<|And.intro @vQ.eq_def<|And.intro @EO.eq_def<|And.intro @fI.eq_1<|And.intro @fN.eq_1<|And.intro @fU.eq_1<|And.intro @false_and<|And.intro @iq.eq_1<|And.intro @iq.eq_2<|And.intro @fb.eq_def<|And.intro @gC.eq_def<|And.intro @QY<|And.intro @QZ<|And.intro @if_false.{1}<|And.intro @if_true.{1}<|And.intro @BA.eq_def<|And.intro @isPure.eq_def<|And.intro @bC.eq_def<|And.intro @gD.eq_1<|And.intro @bD.eq_def<|And.intro @Ll<|And.intro @gE<|And.intro @BE<|And.intro @xz<|And.intro @BG<|And.intro @rS<|And.intro @xA<|And.intro @fO<|And.intro @oE.eq_1<|And.intro @oE.eq_2<|And.intro @gF<|And.intro @eH<|And.intro @N9<|And.intro @Oa<|And.intro @Ln<|And.intro @Fl<|And.intro @ve.eq_def<|And.intro @f7.eq_def<|And.intro @wj.eq_def<|And.intro @tP.eq_def<|And.intro @fd.eq_def<|And.intro @noRefTV.eq_def<|And.intro @gf.eq_def<|And.intro @eu.eq_def<|And.intro @nH.eq_def<|And.intro @Fu<|And.intro @BW<|And.intro @BX<|And.intro @LG<|And.intro @LH<|And.intro @Fv<|And.intro @tX<|And.intro @IE<|And.intro @Fw<|And.intro @IF<|And.intro @zJ<|And.intro @Fx<|And.intro @vf<|And.intro @vg<|And.intro @LI<|And.intro @IG<|And.intro @xK<|And.intro @vh<|And.intro @IH<|And.intro @II<|And.intro @Fy<|And.intro @Fz<|And.intro @Ok<|And.intro @packT.eq_def<|And.intro @zP.eq_1<|And.intro @bJ.eq_1<|And.intro @bJ.eq_2<|And.intro @db.eq_1<|And.intro @pF.eq_def<|And.intro @mH.eq_def<|And.intro @dV.eq_def<|And.intro @renO.eq_1<|And.intro @fj.eq_def<|And.intro @rE.eq_def<|And.intro @ut.eq_1<|And.intro @ut.eq_2<|And.intro @qE.eq_def<|And.intro @wC<|And.intro @Jb<|And.intro @FQ<|And.intro @true_and<|And.intro @yd.eq_def<|And.intro @JP<|And.intro @FW<|And.intro @Mv<|And.intro @JQ<|And.intro @JR<|And.intro @Mw<|And.intro @JS<|And.intro @JT<|And.intro @sc<|And.intro @pX<|And.intro @pY<|And.intro @JU<|And.intro @Mx<|And.intro @JV<|And.intro @JW<|And.intro @JX<|And.intro @FX<|And.intro @JY<|And.intro @pZ<|And.intro @OQ<|And.intro @My<|And.intro @OR<|And.intro @Mz<|And.intro @MA<|And.intro @MB<|And.intro @MC<|And.intro @Au<|And.intro @Av<|And.intro @Cx<|And.intro @Cy<|And.intro @Cz<|And.intro @lQ<|And.intro @lR<|And.intro @MD<|And.intro @ME<|And.intro @MF<|And.intro @JZ<|And.intro @J0<|And.intro @FY<|And.intro @J1<|And.intro @FZ<|And.intro @p7<|And.intro @J2<|And.intro @J3<|And.intro @Aw<|And.intro @Ax<|And.intro @CA<|And.intro @CB<|And.intro @lS<|And.intro @CC<|And.intro @CD<|And.intro @J4<|And.intro @OS<|And.intro @MG<|And.intro @MH<|And.intro @OT<|And.intro @MJ<|And.intro @MK<|And.intro @ye<|And.intro @se<|And.intro @sf<|And.intro @ML<|And.intro @OU<|And.intro @MM<|And.intro @MN<|And.intro @MO<|And.intro @CE<|And.intro @J5<|And.intro @F0<|And.intro @J6<|And.intro @nW<|And.intro @F3<|And.intro @F4<|And.intro @F5<|And.intro @F6<|And.intro @F7<|And.intro @yf.eq_def<|And.intro @bj.eq_1<|And.intro @PW.eq_def<|And.intro @j4.eq_1<|And.intro @j16.eq_1<|And.intro @rN.eq_1<|True.intro
abbrev bz (l:List Nat):TV:= .one (.p (.sl (ls fU l)))
theorem iN (l:List Nat) (hb:l.length<=1073741824):CallC Tryz.prog 61 [bz l] ⟨[],bz (dL l)⟩:=by
 refine aI Tryz.func61 rfl (by kernel_rfl) ?_;rw[Tryz.ntmps61];refine aD fun _ K=>?_;simp only[kd,ae];apply K
 refine aD fun _ K=>?_;simp only[kd,aa];apply K
 refine Kz (G:={n:Nat//n<=l.length/\dL l=dL (l.take n)}) (fun n=>⟨(bz l::jk::.raw (.slice none 0 0)::.raw (.int .i64 n.1)::j16 (jk::jk::[])),Hm []⟩) (fun n=>n.1) ⟨l.length,Nat.le_refl _,by simp⟩ ?_ ?_
 ·refine aE trivial ?_;simp[wk]
 rintro⟨n,hn,hT⟩;simp only;by_cases h0:0<n
 ·obtain⟨a,ha⟩:=getElem?_of_lt (l:=l) (k:=n-1) (by omega);have e1:((n:Int)-1).toNat=n-1:=by omega
  refine aF (aD fun _ K=>?_);simp(disch:=omega) only[kd,aa,aO,e1,ha];apply K;have htk:l.take n=l.take (n-1)++[a]:=by
   have:=List.take_succ_eq_append_getElem (i:=n-1) (l:=l) (by omega);rw[show n-1+1=n by omega]at this;rw[this,(List.getElem?_eq_some_iff.1 ha).2]
  refine bQ rfl (fun hz=>aM ?_) (fun hz=>bN ?_)
  ·have hz':a=0:=by simpa using hz
   refine aK ?_;refine aL fun _ K=>?_;simp(disch:=omega) only[kd,aa,aO];apply K
   refine⟨⟨n-1,by omega,?_⟩,by simp only;omega,aE trivial ?_⟩
   ·rw[hT,htk,hz',mU]
   have e:((n-1:Nat):Int)=(n:Int)-1:=by omega
   simp[wk,e]
  have hz':a≠0:=by intro e;simp[e]at hz
  have hfin:dL l=l.take n:=by rw[hT,htk,wK hz']
  show bo _ _ _ _;have hlen:(l.take n).length=n:=by simp;omega
  refine aD fun _ K=>?_;simp(disch:=omega) only[kd,aa,Nat.zero_le,BJ xr,hlen,N8 xr];apply K
  refine aH ⟨.inr rfl,iM 21 (cw rfl) ?_ rfl⟩;simp(disch:=omega) only[kd,Tryz.results61,hfin];simp[List.take_take]
 have hn0:n=0:=by omega
 subst hn0;have hfin:dL l=[]:=by rw[hT];simp[dL]
 refine aF (aD fun _ K=>?_);simp(disch:=omega) only[kd,aa];apply K;refine bQ rfl (fun hz=>by cases hz) (fun hz=>bN ?_);show bo _ _ _ _;refine aD fun _ K=>?_;simp(disch:=omega) only[kd,aa,Nat.zero_le,BJ xr,Nat.reduceMul];apply K
 refine aH ⟨.inr rfl,iM 21 (cw (f:=fU) (l:=[]) rfl) ?_ rfl⟩;simp(disch:=omega) only[kd,Tryz.results61,hfin];simp[ls]
theorem nw {n:Nat} (h: ¬n=0):n/4294967296<n:=Nat.div_lt_self (by omega) (by omega)
def aP (n:Nat):List Nat:=if n=0 then[]else n%4294967296::aP (n/4294967296)
termination_by n
decreasing_by exact nw (by assumption)
theorem cy:aP 0=[]:=by rw[aP];simp
theorem ny {n:Nat} (h:n≠0):aP n=n%4294967296::aP (n/4294967296):=by rw[aP];simp[h]
theorem aN (n:Nat):natV (aP n)=n:=by
 induction n using Nat.strongRecOn with
 |_ n ih=>
  by_cases h:n=0
  ·subst h;rw[cy];rfl
  rw[ny h,natV,ih _ (nw h)];omega
theorem aW (n:Nat):Lmb (aP n):=by
 induction n using Nat.strongRecOn with
 |_ n ih=>
  by_cases h:n=0
  ·subst h;rw[cy];intro a ha;simp at ha
  rw[ny h];intro a ha;rcases List.mem_cons.1 ha with rfl|ha
  ·omega
  exact ih _ (nw h) a ha
theorem b7 (n:Nat):n9 (aP n):=by
 induction n using Nat.strongRecOn with
 |_ n ih=>
  by_cases h:n=0
  ·subst h;rw[cy];simp[n9]
  rw[ny h];by_cases h2:n/4294967296=0
  ·rw[h2,cy];simp[n9];omega
  have:=ih _ (nw h);rw[ny h2]at this⊢;unfold n9 at*
  rw[List.getLast?_cons_cons];exact this
theorem Hl {l:List Nat} (h1:Lmb l) (h2:n9 l):l=aP (natV l):=
 KK h1 (aW _) h2 (b7 _) (aN _).symm
theorem d8 {l:List Nat} (h1:Lmb l):dL l=aP (natV l):=by
 rw[Hl (JO h1) (JM l),Fp]
theorem gK (n:Nat):dL (aP n)=aP n:=ry (b7 n)
theorem xC {n:Nat}:aP n=[]↔n=0:=⟨fun h=>by rw[<- aN n,h];rfl,fun h=>by rw[h,cy]⟩
theorem i6 {n k:Nat} (h:n<4294967296^k):(aP n).length<=k:=A1 (b7 n) (by rw[aN];exact h)
theorem fh {n:Nat}:(aP n).length=0↔n=0:=by rw[List.length_eq_zero_iff,xC]
def Sz (z:Int) (k:Nat):Prop:=z.natAbs<4294967296^k
theorem Sz.len {z:Int} {k:Nat} (h:Sz z k):(aP z.natAbs).length<=k:=i6 h
theorem Sz.mono {z:Int} {k l:Nat} (h:Sz z k) (hl:k<=l):Sz z l:=Nat.lt_of_lt_of_le h (Nat.pow_le_pow_right (by omega) hl)
def fZ (z:Int):List PV:=[.raw (.bool (decide (z<0))),.sl (ls fU (aP z.natAbs))]
def cZ (z:Int):List AV:=[.p (.raw (.bool (decide (z<0)))),.p (.sl (ls fU (aP z.natAbs)))]
abbrev tZ (z:Int):TV:= .agg [.p (.raw (.bool (decide (z<0)))),.p (.sl (ls fU (aP z.natAbs)))]
theorem mN (neg:Bool) (n:Nat):(fB neg n).natAbs=n:=by unfold fB;split<;>simp
theorem x5 (neg:Bool) (n:Nat):decide (fB neg n<0)=(neg&&decide (0<n)):=by
 unfold fB;cases neg with
 |true=>simp
 |false=>simp
theorem jp (neg:Bool) (l:List Nat) (h:Lmb l) (hb:l.length<=1073741824):CallC Tryz.prog 53 [.raw (.bool neg),bz l] ⟨[],tZ (fB neg (natV l))⟩:=by
 have ht:=iN l hb;rw[d8 h]at ht;have hlen:(aP (natV l)).length<=1073741824:=by rw[<- d8 h];exact Nat.le_trans (JN l) hb
 refine aI Tryz.func53 rfl (by kernel_rfl) ?_;rw[Tryz.ntmps53];refine aD fun _ K=>?_;simp(disch:=omega) only[kd,bz,aa,ae];apply K
 refine aG [⟨1,_,_,_,ht⟩] [] fun _ K=>?_;simp only[kd,bz,aa];apply K
 cases neg with
 |false=>
  refine aD fun _ K=>?_;simp(disch:=omega) only[kd,aa,Nat.reduceLeDiff];apply K
  refine aH ⟨.inr rfl,aJ rfl ?_ rfl⟩;simp(disch:=omega) only[kd,Tryz.results53,aa,tZ];simp[tZ,mN,x5]
 |true=>
  refine aD fun _ K=>?_;simp(disch:=omega) only[kd,aa,Nat.reduceLeDiff];apply K
  refine aH ⟨.inr rfl,aJ rfl ?_ rfl⟩;simp(disch:=omega) only[kd,Tryz.results53,aa,tZ];have:(0<(aP (natV l)).length)↔0<natV l:=by
   have:=fh (n:=natV l);omega
  simp[tZ,mN,x5,this]
abbrev Bg (z:Int):Prop:=Sz z 1073741824
theorem Bg.len {z:Int} (h:Bg z):(aP z.natAbs).length<=1073741824:=i6 h
theorem Ij (z:Int):fB (!decide (z<0)) z.natAbs= -z:=by unfold fB;by_cases h:z<0<;>simp[h]<;>omega
theorem xF (z:Int):fB (decide (z<0)) z.natAbs=z:=by unfold fB;by_cases h:z<0<;>simp[h]<;>omega
theorem Is (z:Int) (h:Bg z):CallC Tryz.prog 58 [tZ z] ⟨[],tZ (-z)⟩:=by
 have ht:=jp (!decide (z<0)) (aP z.natAbs) (aW _) h.len;rw[aN,Ij]at ht;refine aI Tryz.func58 rfl (by kernel_rfl) ?_;rw[Tryz.ntmps58];refine aD fun _ K=>?_;simp(disch:=omega) only[kd,tZ,ae,aa,ab];apply K
 refine aG [⟨5,_,_,_,ht⟩] [] fun _ K=>?_;simp(disch:=omega) only[kd,bz,tZ,aa,ab];apply K
 (refine aH ⟨.inr rfl,aJ rfl ?_ rfl⟩;simp(disch:=omega) only[kd,Tryz.results58,ab,aa,tZ])
theorem GF (z:Int) (h:Bg z):CallC Tryz.prog 128 [tZ z] ⟨[],tZ z.natAbs⟩:=by
 have ht:=jp false (aP z.natAbs) (aW _) h.len;rw[aN,show fB false z.natAbs=z.natAbs from rfl]at ht;refine aI Tryz.func128 rfl (by kernel_rfl) ?_;rw[Tryz.ntmps128];refine aD fun _ K=>?_;simp(disch:=omega) only[kd,tZ,ae,aa,ab];apply K
 refine aG [⟨2,_,_,_,ht⟩] [] fun _ K=>?_;simp(disch:=omega) only[kd,bz,tZ,aa,ab];apply K
 (refine aH ⟨.inr rfl,aJ rfl ?_ rfl⟩;simp(disch:=omega) only[kd,Tryz.results128,ab,aa,tZ])
theorem Iu (z:Int) (h:Bg z):CallC Tryz.prog 99 [tZ z] ⟨[],tZ z⟩:=by
 have ht:=jp (decide (z<0)) (aP z.natAbs) (aW _) h.len;rw[aN,xF]at ht;refine aI Tryz.func99 rfl (by kernel_rfl) ?_;rw[Tryz.ntmps99];refine aD fun _ K=>?_;simp(disch:=omega) only[kd,tZ,ae,aa,ab];apply K
 refine aG [⟨4,_,_,_,ht⟩] [] fun _ K=>?_;simp(disch:=omega) only[kd,bz,tZ,aa,ab];apply K
 (refine aH ⟨.inr rfl,aJ rfl ?_ rfl⟩;simp(disch:=omega) only[kd,Tryz.results99,ab,aa,tZ])
theorem yh (neg:Bool) (u:Nat) (hu:u<18446744073709551616):CallC Tryz.prog 52 [.raw (.bool neg),.raw (.int .u64 u)] ⟨[],tZ (fB neg u)⟩:=by
 have ht:=jp neg [u%4294967296,u/4294967296] (by intro a ha;simp at ha;omega) (by simp);rw[wL]at ht;have e1:IntKind.u32.wrap (u:Int)=((u%4294967296:Nat):Int):=by rw[IntKind.wrap_u32];omega
 have e2:IntKind.u32.wrap ((u:Int).fdiv (2^(min (32:Int).toNat IntKind.u64.bits)))=((u/4294967296:Nat):Int):=by
  rw[IntKind.wrap_u32];show(Int.fdiv (u:Int) 4294967296)%4294967296=_;rw[Int.fdiv_eq_ediv_of_nonneg _ (by omega)];omega
 simp only[Int.reduceToNat]at e2;refine aI Tryz.func52 rfl (by kernel_rfl) ?_;rw[Tryz.ntmps52];refine aD fun _ K=>?_;simp(disch:=omega) only[kd,aa,ae];apply K
 refine aG [⟨7,_,_,_,ht⟩] [] fun _ K=>?_;simp(disch:=omega) only[kd,bz,DD,tZ,aa,e1,Int.reduceLE,Int.reduceToNat,e2,Nat.reduceMul,Nat.reduceLeDiff];apply K
 (refine aH ⟨.inr rfl,aJ rfl ?_ rfl⟩;simp(disch:=omega) only[kd,Tryz.results52,aa,tZ])
theorem fW (n:Int) (h1: -9223372036854775808<=n) (h2:n<=9223372036854775807):CallC Tryz.prog 20 [.raw (.int .i64 n)] ⟨[],tZ n⟩:=by
 by_cases hn:n<0
 ·have ht:=yh true n.natAbs (by omega);have e1:IntKind.u64.wrap (0-IntKind.u64.wrap n)=((n.natAbs:Nat):Int):=by rw[IntKind.wrap_u64,IntKind.wrap_u64];omega
  rw[show fB true n.natAbs=n by unfold fB;simp;omega]at ht;refine aI Tryz.func20 rfl (by kernel_rfl) ?_;rw[Tryz.ntmps20];refine aD fun _ K=>?_;simp(disch:=omega) only[kd,ae,aa];apply K
  refine aF (aD fun _ K=>?_);simp(disch:=omega) only[kd];apply K;refine aU rfl ?_;refine aG [⟨3,_,_,_,ht⟩] [] fun _ K=>?_;simp(disch:=omega) only[kd,tZ,aa,e1];apply K
  (refine aH ⟨.inr rfl,aJ rfl ?_ rfl⟩;simp(disch:=omega) only[kd,Tryz.results20,aa,tZ])
 have ht:=yh false n.natAbs (by omega);have e1:IntKind.u64.wrap n=((n.natAbs:Nat):Int):=by rw[IntKind.wrap_u64];omega
 rw[show fB false n.natAbs=n by unfold fB;simp;omega]at ht;refine aI Tryz.func20 rfl (by kernel_rfl) ?_;rw[Tryz.ntmps20];refine aD fun _ K=>?_;simp(disch:=omega) only[kd,ae,aa];apply K
 refine aF (aD fun _ K=>?_);simp(disch:=omega) only[kd];apply K;refine aQ rfl (aM ?_);show bo _ _ _ _;refine aG [⟨2,_,_,_,ht⟩] [] fun _ K=>?_;simp(disch:=omega) only[kd,tZ,aa,e1];apply K
 (refine aH ⟨.inr rfl,aJ rfl ?_ rfl⟩;simp(disch:=omega) only[kd,Tryz.results20,aa,tZ])
theorem mO (z:Int) (h:Bg z):CallC Tryz.prog 55 [tZ z] ⟨[],.raw (.int .i64 (sg z))⟩:=by
 have ht:=iN (aP z.natAbs) h.len;rw[gK]at ht;have hl:=fh (n:=z.natAbs);rcases Int.lt_trichotomy z 0 with hz|hz|hz
 ·have e:sg z= -1:=by simp[sg,hz]
  have hl':(aP z.natAbs).length≠0:=by omega
  rw[e];refine aI Tryz.func55 rfl (by kernel_rfl) ?_;rw[Tryz.ntmps55];refine aD fun _ K=>?_;simp(disch:=omega) only[kd,tZ,ae,aa];apply K
  refine aF (aK ?_);refine aG [⟨2,_,_,_,ht⟩] [] fun _ K=>?_;simp(disch:=omega) only[kd,bz,aa];apply K
  refine aQ rfl ?_;refine aD fun _ K=>?_;simp only[kd,aa];apply K
  refine aU rfl ?_;refine aD fun _ K=>?_;simp only[kd];apply K
  (refine aH ⟨.inr rfl,aJ rfl ?_ rfl⟩;simp(disch:=omega) only[kd,Tryz.results55])
 ·subst hz;rw[show sg 0=0 from rfl];rw[Int.natAbs_zero,cy]at ht;rw[show tZ 0= .agg [.p (.raw (.bool false)),.p (.sl (ls fU []))]from by simp[tZ,cy]];refine aI Tryz.func55 rfl (by kernel_rfl) ?_;rw[Tryz.ntmps55];refine aD fun _ K=>?_;simp(disch:=omega) only[kd,ae,aa];apply K
  refine aF (aK ?_);refine aG [⟨2,_,_,_,ht⟩] [] fun _ K=>?_;simp(disch:=omega) only[kd,bz,aa];apply K
  refine aU rfl ?_;refine aD fun _ K=>?_;simp only[kd];apply K
  (refine aH ⟨.inr rfl,aJ rfl ?_ rfl⟩;simp(disch:=omega) only[kd,Tryz.results55])
 have e:sg z=1:=by unfold sg;rw[if_neg (by omega),if_neg (by omega)]
 have hl':(aP z.natAbs).length≠0:=by omega
 rw[e];refine aI Tryz.func55 rfl (by kernel_rfl) ?_;rw[Tryz.ntmps55];refine aD fun _ K=>?_;simp(disch:=omega) only[kd,tZ,ae,aa];apply K
 refine aF (aK ?_);refine aG [⟨2,_,_,_,ht⟩] [] fun _ K=>?_;simp(disch:=omega) only[kd,bz,aa];apply K
 refine aQ rfl ?_;refine aD fun _ K=>?_;simp only[kd,aa];apply K
 refine aQ rfl (aM ?_);show bo _ _ _ _;refine aD fun _ K=>?_;simp only[kd];apply K
 (refine aH ⟨.inr rfl,aJ rfl ?_ rfl⟩;simp(disch:=omega) only[kd,Tryz.results55])
theorem C6 (l m:List Nat) (ll:Lmb l) (lm:Lmb m) (cl:n9 l) (cm:n9 m) (bl:l.length<=1073741824) (bm:m.length<=1073741824):
  CallC Tryz.prog 60 [bz l,bz m] ⟨[],.raw (.int .i64 (fz (natV l) (natV m)))⟩:=by
 rcases Nat.lt_trichotomy l.length m.length with hlt|heq|hgt
 ·rw[nf (iC ll cm hlt)];refine aI Tryz.func60 rfl (by kernel_rfl) ?_;rw[Tryz.ntmps60];refine aD fun _ K=>?_;simp only[kd,bz,aa,ae];apply K
  refine aF (aD fun _ K=>?_);simp(disch:=omega) only[kd,aa];apply K;refine aU rfl ?_;refine aF (aD fun _ K=>?_);simp(disch:=omega) only[kd,aa];apply K;refine aU rfl ?_;refine aD fun _ K=>?_;simp only[kd];apply K
  (refine aH ⟨.inr rfl,aJ rfl ?_ rfl⟩;simp(disch:=omega) only[kd,Tryz.results60])
 ·refine aI Tryz.func60 rfl (by kernel_rfl) ?_;rw[Tryz.ntmps60];refine aD fun _ K=>?_;simp only[kd,bz,aa,ae];apply K
  refine aF (aD fun _ K=>?_);simp(disch:=omega) only[kd,aa];apply K;refine aQ rfl (aM ?_);show bo _ _ _ _;refine aF (aD fun _ K=>?_);simp(disch:=omega) only[kd,aa,aO];apply K;refine aX (G:={k:Nat//k<=l.length/\l.drop k=m.drop k}) (fun k=>⟨(bz l::bz m::jk::jk::.raw (.int .i64 0)::.raw (.int .i64 ((k.1:Int)-1))::j16 (j16 (jk::jk::jk::[]))),Hm []⟩) (fun k=>k.1) ⟨l.length,Nat.le_refl _,by rw[List.drop_length,heq,List.drop_length]⟩ ?_ ?_
  ·refine aE trivial ?_;simp[wk]
  rintro⟨k,hk,hd⟩;simp only;by_cases h0:0<k
  ·obtain⟨a,ha⟩:=getElem?_of_lt (l:=l) (k:=k-1) (by omega);obtain⟨b,hb⟩:=getElem?_of_lt (l:=m) (k:=k-1) (by omega);have e1:((k:Int)-1).toNat=k-1:=by omega
   have hd':l.drop (k-1+1)=m.drop (k-1+1):=by rw[show k-1+1=k by omega];exact hd
   refine aF (aD fun _ K=>?_);simp(disch:=omega) only[kd,bz];apply K;refine aU rfl (aM ?_);refine aF (aK ?_);refine cx be (by kernel_rfl) fun _ K=>?_;simp(disch:=omega) only[kd,aa,e1,ha,hb];apply K
   rcases Nat.lt_trichotomy a b with hab|hab|hab
   ·rw[nf (lE ll ha hb hd' hab)];refine bQ rfl (fun _=>?_) (fun h=>by simp at h<;>omega);refine aF (cx be (by kernel_rfl) fun _ K=>?_);simp(disch:=omega) only[kd,aa,e1,ha,hb];apply K;refine aU rfl ?_;refine aD fun _ K=>?_;simp only[kd];apply K
    (refine aH ⟨.inr rfl,aJ rfl ?_ rfl⟩;simp(disch:=omega) only[kd,Tryz.results60])
   ·subst hab;refine bQ rfl (fun h=>by simp at h<;>omega) (fun _=>aM ?_);show bo _ _ _ _;refine aL fun _ K=>?_;simp(disch:=omega) only[kd,aa,aO];apply K
    refine⟨⟨k-1,by omega,vO ha hb hd'⟩,by simp only;omega,aE trivial ?_⟩;have e2:((k-1:Nat):Int)=(k:Int)-1:=by omega
    simp[wk,e2]
   rw[rL (lE lm hb ha hd'.symm hab)];refine bQ rfl (fun _=>?_) (fun h=>by simp at h<;>omega);refine aF (cx be (by kernel_rfl) fun _ K=>?_);simp(disch:=omega) only[kd,aa,e1,ha,hb];apply K;refine aQ rfl (aM ?_);show bo _ _ _ _;refine aD fun _ K=>?_;simp only[kd];apply K
   (refine aH ⟨.inr rfl,aJ rfl ?_ rfl⟩;simp(disch:=omega) only[kd,Tryz.results60])
  have hk0:k=0:=by omega
  subst hk0;have hlm:l=m:=by simpa using hd
  rw[show fz (natV l) (natV m)=0 by rw[hlm];simp[fz]];refine aF (aD fun _ K=>?_);simp(disch:=omega) only[kd,bz];apply K;refine aQ rfl (bN ?_);show bo _ _ _ _;refine aD fun _ K=>?_;simp only[kd];apply K
  (refine aH ⟨.inr rfl,aJ rfl ?_ rfl⟩;simp(disch:=omega) only[kd,Tryz.results60])
 rw[rL (iC lm cl hgt)];refine aI Tryz.func60 rfl (by kernel_rfl) ?_;rw[Tryz.ntmps60];refine aD fun _ K=>?_;simp only[kd,bz,aa,ae];apply K
 refine aF (aD fun _ K=>?_);simp(disch:=omega) only[kd,aa];apply K;refine aU rfl ?_;refine aF (aD fun _ K=>?_);simp(disch:=omega) only[kd,aa];apply K;refine aQ rfl (aM ?_);show bo _ _ _ _;refine aD fun _ K=>?_;simp only[kd];apply K
 (refine aH ⟨.inr rfl,aJ rfl ?_ rfl⟩;simp(disch:=omega) only[kd,Tryz.results60])
def pa (a b:Int):Int:=if a<b then -1 else if a=b then 0 else 1
theorem pQ (z:Int): -1<=sg z/\sg z<=1:=by unfold sg;split<;>(try split)<;>omega
theorem sZ (a b:Nat): -1<=fz a b/\fz a b<=1:=by unfold fz;split<;>(try split)<;>omega
theorem C5 {a b:Int} (h:sg a≠sg b):pa a b=if sg a<sg b then -1 else 1:=by
 unfold sg pa at*
 (repeat' split at*)<;>omega
theorem C4 {a b:Int} (h:sg a=sg b):pa a b=sg a*fz a.natAbs b.natAbs:=by
 unfold sg pa fz at*
 (repeat' split at*)<;>omega
theorem ym (a b:Int) (ha:Bg a) (hb:Bg b):CallC Tryz.prog 24 [tZ a,tZ b] ⟨[],.raw (.int .i64 (pa a b))⟩:=by
 have h1:=mO a ha;have h2:=mO b hb;have t1:=iN (aP a.natAbs) ha.len;have t2:=iN (aP b.natAbs) hb.len;rw[gK]at t1 t2;have h3:=C6 (aP a.natAbs) (aP b.natAbs) (aW _) (aW _) (b7 _) (b7 _) ha.len hb.len;rw[aN,aN]at h3;have r1:=pQ a;have r2:=pQ b;have r3:=sZ a.natAbs b.natAbs;have r4: -1<=sg a*fz a.natAbs b.natAbs/\sg a*fz a.natAbs b.natAbs<=1:=by
  have:sg a= -1\/sg a=0\/sg a=1:=by omega
  rcases this with h|h|h<;>rw[h]<;>omega
 by_cases hs:sg a=sg b
 ·rw[C4 hs];refine aI Tryz.func24 rfl (by kernel_rfl) ?_;rw[Tryz.ntmps24];refine aD fun _ K=>?_;simp(disch:=omega) only[kd,aa,tZ,ae,ab];apply K
  refine bu be [⟨1,_,_,_,h1⟩,⟨3,_,_,_,h2⟩] [] (by kernel_rfl) fun _ K=>?_;simp only[kd,tZ,aa,ab,Nat.reduceBEq];apply K
  refine aF (aD fun _ K=>?_);simp(disch:=omega) only[kd,aa];apply K;refine aQ rfl (aM ?_);show bo _ _ _ _;refine bu be [⟨3,_,_,_,t1⟩,⟨6,_,_,_,t2⟩,⟨7,_,_,_,h3⟩] [] (by kernel_rfl) fun _ K=>?_;simp(disch:=omega) only[kd,bz,aa,ab,Nat.reduceBEq,aO];apply K
  (refine aH ⟨.inr rfl,aJ rfl ?_ rfl⟩;simp(disch:=omega) only[kd,Tryz.results24])
 rw[C5 hs];refine aI Tryz.func24 rfl (by kernel_rfl) ?_;rw[Tryz.ntmps24];refine aD fun _ K=>?_;simp(disch:=omega) only[kd,aa,tZ,ae,ab];apply K
 refine bu be [⟨1,_,_,_,h1⟩,⟨3,_,_,_,h2⟩] [] (by kernel_rfl) fun _ K=>?_;simp only[kd,tZ,aa,ab,Nat.reduceBEq];apply K
 refine aF (aD fun _ K=>?_);simp(disch:=omega) only[kd,aa];apply K;refine aU rfl ?_;refine aF (aD fun _ K=>?_);simp only[kd,aa];apply K;by_cases hlt:sg a<sg b
 ·rw[if_pos hlt];refine bQ rfl (fun _=>?_) (fun h=>by simp at h<;>omega);refine aD fun _ K=>?_;simp(disch:=omega) only[kd];apply K
  (refine aH ⟨.inr rfl,aJ rfl ?_ rfl⟩;simp(disch:=omega) only[kd,Tryz.results24])
 rw[if_neg hlt];refine bQ rfl (fun h=>by simp at h<;>omega) (fun _=>aM ?_);show bo _ _ _ _;refine aD fun _ K=>?_;simp(disch:=omega) only[kd];apply K
 (refine aH ⟨.inr rfl,aJ rfl ?_ rfl⟩;simp(disch:=omega) only[kd,Tryz.results24])
end Go.Proofs.YtfgeomlagfomgaaGreatDoor
