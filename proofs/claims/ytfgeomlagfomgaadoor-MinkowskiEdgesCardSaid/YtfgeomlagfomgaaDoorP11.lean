/-
  Part 12 of a proof (walks and plain facts).
-/
import Derived.Test.YtfgeomlagfomgaaDoorP10
import Derived.Lib.BitFns
import Derived.Shelf.Small.Bits
import Derived.Ground.NamesProg
import Derived.Test.YtfgeomlagfomgaaDoorProg
set_option linter.all false
set_option maxRecDepth 100000
set_option maxHeartbeats 64000000
open Nat renaming le_refl → ac
open List renaming replicate → ae
open List renaming getElem?_eq_none → aq
open List renaming mem_of_getElem? → au
open List renaming getElem?_map → ax
open Nat renaming le_trans → ay
namespace Go.Proofs.YtfgeomlagfomgaaDoor
open Go.RowKit
section
section
variable {P:Program} {k:Nat} {s s':AS} {Q:Exit->AS->Prop}
theorem u6 {items:List (cH P)} (hI:eF P items) {ow:List Nat} {ops:Array Oper} (hk:fE k ops=true) {v0:Value} {w0:World} {O X:Nat->Prop} {Q:Exit->Act->World->Prop} {suf:List Nat}: ∀(l:List Oper) (n:Nat) (s s':AS) (a:Act) (w:World),(∀(j:Nat) o,l[j]?=some o->ops[n+j]?=some o)->
  fY P items ow ops (l.zipIdx n) s=some s'->iR k v0 w0 O X s a w->(∀a' w',iR k v0 w0 O X s' a' w'->wpOps P ops Q suf a' w')->wpOps P ops Q (List.range' n l.length++suf) a w
 |[],n,s,s',a,w,_,h,r,hQ=>by
  simp only[List.zipIdx_nil,fY]at h;injection h with h
  subst h;exact hQ a w r
 |o::l,n,s,s',a,w,hl,h,r,hQ=>by
  simp only[List.zipIdx_cons,fY]at h;split at h
  ·rename_i s1 hs1;simp only[List.length_cons,List.range'_succ,List.cons_append,wpOps];have ho:ops[n]?=some o:=by have:=hl 0 o rfl;simpa using this
   rw[ho];simp only;have:=Dc (Q:=Q) hI r (lQ hk ho) hs1 (K:=wpOps P ops Q (List.range' (n+1) l.length++suf)) (fun v w' hr=>u6 hI hk l (n+1) s1 s' _ _ (fun j o hj=>by have:=hl (j+1) o (by simpa using hj);rwa[show n+(j+1)=n+1+j by omega]at this) h hr hQ);split at this
   ·rename_i hw;rw[if_pos hw];exact .inl this
   rename_i hw;rw[if_neg hw];exact this
  cases h
structure Gy (ops:Array Oper) (m:Nat) (f:FuncId) (args:List TV) (k n fa:Nat) (F:List OObj) (s:AS):Prop where
 ts:cwTs ops m s=some (f,args.set k (.one (.sl fa 0 0 n)))
 fam:s.H fa=F.map (renO fa)
def GX (ops:Array Oper) (m:Nat) (r:TV) (fa:Nat) (F':List OObj) (s:AS):AS:=AS.put ⟨s.tmps.map (aW (kM fa)),aO s.H fa (F'.map (renO fa))⟩ (cwD ops m) r
theorem qz (m:Nat) {f:FuncId} {args:List TV} {ka n:Nat} {F F':List OObj} {r:TV} (hcon:ng P f args ka n F F' r) (fa:Nat) (items:List (aJ P)) (ow:List Nat) {id:Nat} {ops:Array Oper} (hkd:fE k ops=true) (hk:ka<args.length) (hlen:0<n) (hpure:fF ka 0 args=true) (hself: ∀o∈F,selfO 0 o) (hself': ∀o∈F',selfO 0 o) (hfa:fa<=4999) (hl:s.tmps.length<=1000000) (hm:m<ops.toList.length)
  (h:bW P (items.map aJ.a) ow (bo ops (ops.toList.take m) 0) (some s) (fun s1=>Gy ops m f args ka n fa F s1/\s1.tmps.length<=1000000/\bW P (items.map aJ.a) ow (bo ops (ops.toList.drop (m+1)) (m+1)) (some (GX ops m r fa F' s1)) (Q .normal))):dF P k (.region id ops false) Q s:=fun v0 w0 O X a w r0=>by
 obtain⟨s1,h1,⟨q1,q2⟩,hl1,h2⟩:=bU P (items.map aJ.a) ow ops _ 0 s _ h;obtain⟨s',h3,h4⟩:=bU P (items.map aJ.a) ow ops _ (m+1) _ _ h2;obtain⟨o,ho⟩: ∃o,ops[m]?=some o:=⟨ops[m],by simp at hm;simp[hm]⟩;unfold cwTs at q1;rw[ho]at q1;simp only at q1;split at q1
 ·rename_i c hg hop1;split at q1
  ·rename_i f' hcal;split at q1
   ·rename_i ts hts;injection q1 with q1
    injection q1 with q1 q3
    subst q1 q3;refine wp_region ?_;have hsz:ops.size=(ops.toList.take m).length+(1+(ops.toList.drop (m+1)).length):=by simp at hm⊢;omega
    rw[hsz,List.range_eq_range',<- List.range'_append_1,Nat.zero_add];have hml:(ops.toList.take m).length=m:=by rw[List.length_take];omega
    refine u6 (aJ.ok items) hkd (ops.toList.take m) 0 s s1 a w (fun j o hj=>?_) h1 r0 fun a' w' r'=>?_
    ·rw[List.getElem?_take]at hj;split at hj
     ·simpa using hj
     cases hj
    rw[hml,Nat.add_comm 1,List.range'_succ];simp only[wpOps,ho];rw[if_pos (by simp[Region.wanted,hg])];refine .inl (B7 r'.1 hop1 hcal hcon hfa hk hlen hts hpure q2 hself hself' fun v w1 hr1=>?_);refine kW (aJ.ok items) hkd (Q:=fun e a' w'=> ∃s',Q e s'/\iR k v0 w0 O X s' a' w') (ops.toList.drop (m+1)) (m+1) _ s' _ _ (fun j o hj=>?_) h3 ⟨?_,?_⟩ (fun a' w' hr=>⟨s',h4,hr⟩)
    ·rw[List.getElem?_drop]at hj;simpa using hj
    ·have:cwD ops m=o.dst:=by unfold cwD;rw[ho];rfl
     unfold GX;rw[this];exact hr1
    rw[oy v (lQ hkd ho)];exact r'.2
   cases q1
  cases q1
 cases q1
theorem vM (m:Nat) {f:FuncId} {args:List TV} {ka n:Nat} {F F':List OObj} {r:TV} (hcon:ng P f args ka n F F' r) (fa:Nat) (items:List (aJ P)) (ow:List Nat) {id:Nat} {ops:Array Oper} {y:Code} (hkd:fE k ops=true) (hk:ka<args.length) (hlen:0<n) (hpure:fF ka 0 args=true) (hself: ∀o∈F,selfO 0 o) (hself': ∀o∈F',selfO 0 o) (hfa:fa<=4999) (hl:s.tmps.length<=1000000) (hm:m<ops.toList.length)
  (h: ∀K:AS->Prop,(∀s1,(Gy ops m f args ka n fa F s1/\s1.tmps.length<=1000000/\ ∀K:AS->Prop,(∀s',dF P k y Q s'->K s')->bW P (items.map aJ.a) ow (bo ops (ops.toList.drop (m+1)) (m+1)) (some (GX ops m r fa F' s1)) K)->K s1)->bW P (items.map aJ.a) ow (bo ops (ops.toList.take m) 0) (some s) K):dF P k (.seq (.region id ops false) y) Q s:=
 bI (qz m hcon fa items ow hkd hk hlen hpure hself hself' hfa hl hm (h _ fun s1 ⟨q1,q2,q3⟩=>⟨q1,q2,q3 _ fun _ h=>h⟩))
theorem ov (m:Nat) {f:FuncId} {args:List TV} {ka n:Nat} {F F':List OObj} {r:TV} (hcon:ng P f args ka n F F' r) (fa:Nat) (items:List (aJ P)) (ow:List Nat) {id:Nat} {ops:Array Oper} (hkd:fE k ops=true) (hk:ka<args.length) (hlen:0<n) (hpure:fF ka 0 args=true) (hself: ∀o∈F,selfO 0 o) (hself': ∀o∈F',selfO 0 o) (hfa:fa<=4999) (hl:s.tmps.length<=1000000) (hm:m<ops.toList.length)
  (h: ∀K:AS->Prop,(∀s1,(Gy ops m f args ka n fa F s1/\s1.tmps.length<=1000000/\ ∀K:AS->Prop,(∀s',Q .normal s'->K s')->bW P (items.map aJ.a) ow (bo ops (ops.toList.drop (m+1)) (m+1)) (some (GX ops m r fa F' s1)) K)->K s1)->bW P (items.map aJ.a) ow (bo ops (ops.toList.take m) 0) (some s) K):dF P k (.region id ops false) Q s:=
 qz m hcon fa items ow hkd hk hlen hpure hself hself' hfa hl hm (h _ fun s1 ⟨q1,q2,q3⟩=>⟨q1,q2,q3 _ fun _ h=>h⟩)
theorem AT {c:Code} (hk:k<s.tmps.length) (h:dF P k c Q s):bH P c Q s:=fun w0 O X a w r=>by
 obtain⟨v0,hv⟩: ∃v0,a.tmps[k]?=some v0:=⟨a.tmps[k]'(by rw[r.2.1];exact hk),by simp⟩;exact wp_mono (h v0 w0 O X a w ⟨r,hv⟩) fun e a' w' ⟨s',h1,h2⟩=>⟨s',h1,h2.1⟩
end
def rT (m:Nat):AV->Prop
 | .sl _ r _ _=>r<m
 | .ptr _ r _ _=>r<m
 |_=>True
theorem yM {s:AS} (a:Nat) {F:List OObj} {o:OObj} (hH:s.H a=F++[o]) (hself: ∀q∈F,∀e∈q.elems,∀x∈e,rT F.length x):
  bX s ⟨s.tmps.map (aW fun x y=>x==a&&y==F.length),aO s.H a F⟩:=by
 rintro w0 O X act w ⟨h1,hsz,ρ,hinv,htm⟩;have htm:bC X ρ s act w:=htm;generalize hH1:aO s.H a F=H1;have hHa:H1 a=F:=by rw[<- hH1];exact aY
 have hHn: ∀x,x≠a->H1 x=s.H x:=fun x h=>by rw[<- hH1];exact aL h
 have back: ∀(x y:Nat) q,(H1 x)[y]?=some q->(s.H x)[y]?=some q/\(x=a->y<F.length/\q∈F):=fun x y q h=>by
  by_cases hx:x=a
  ·subst hx;rw[hHa]at h;have hlt:=(List.getElem?_eq_some_iff.1 h).1;exact⟨by rw[hH,List.getElem?_append_left hlt];exact h,fun _=>⟨hlt,au h⟩⟩
  rw[hHn x hx]at h;exact⟨h,fun e=>absurd e hx⟩
 have fwd: ∀(x y:Nat) q,(s.H x)[y]?=some q-> ¬(x=a/\y=F.length)->(H1 x)[y]?=some q:=fun x y q h hne=>by
  by_cases hx:x=a
  ·subst hx;rw[hH]at h;rw[hHa];have hlt:=(List.getElem?_eq_some_iff.1 h).1;simp at hlt;rw[List.getElem?_append_left (by have:y≠F.length:=fun e=>hne ⟨rfl,e⟩;omega)]at h;exact h
  rw[hHn x hx];exact h
 have hXo: ∀c,Xo X ρ H1 c->Xo X ρ s.H c:=fun c hc=>by
  rcases hc with hc|⟨x,y,q,n,g1,g2⟩
  ·exact .inl hc
  exact .inr ⟨x,y,q,n,(back x y q g1).1,g2⟩
 have hav: ∀x v,AV.rel ρ s.H (Xo X ρ s.H) w x v->AV.rel ρ H1 (Xo X ρ H1) w (aV (fun x y=>x==a&&y==F.length) x) v:=fun x v h=>by
  cases x with
  |p x=>exact bS.weaken (fun c _ hc=>hXo c hc) h
  |junk=>trivial
  |sl x y off len=>
   simp only[aV];by_cases hc:x=a/\y=F.length
   ·rw[if_pos (by simp[hc])];trivial
   rw[if_neg (by simpa using hc)];obtain⟨q,g1,g2⟩:=h;exact⟨q,fwd x y q g1 hc,g2⟩
  |ptr x y i j=>
   simp only[aV];by_cases hc:x=a/\y=F.length
   ·rw[if_pos (by simp[hc])];trivial
   rw[if_neg (by simpa using hc)];obtain⟨q,b,c,g1,g2⟩:=h;exact⟨q,b,c,fwd x y q g1 hc,g2⟩
 refine⟨h1,by simpa using hsz,ρ,⟨hinv.keep,fun x y q hq=>?_,fun x y x' y' q q' c n n' hq hq'=>hinv.inj x y x' y' q q' c n n' (back x y q hq).1 (back x' y' q' hq').1,fun x y q c n hq=>hinv.old x y q c n (back x y q hq).1,hinv.bar,fun x y q hq=>hinv.self x y q (back x y q hq).1⟩,fun t x hx=>?_⟩
 ·obtain⟨hb1,hb2⟩:=back x y q hq;obtain⟨q1,q2,q3⟩:=hinv.objs x y q hb1;refine⟨q1,q2,?_⟩;cases hr:ρ x y with
  |none=>rw[hr]at q3;exact q3
  |some bc=>
   obtain⟨b',c⟩:=bc;rw[hr]at q3;obtain⟨cells,p1,p2,p3,p4,p5⟩:=q3;refine⟨cells,p1,p2,p3,p4,fun i e j z he hz=>?_⟩;obtain⟨u,u1,u2,u3⟩:=p5 i e j z he hz;refine⟨u,u1,u2,?_⟩;have hs:=hinv.self x y q hb1 e (au he) z (au hz);have hk:=hav z u u3;have hlt:x=a->rT F.length z:=fun hx=>hself q (hb2 hx).2 e (au he) z (au hz)
   cases z with
   |p z=>exact hk
   |junk=>trivial
   |sl z r off len=>
    have hs:z=x:=hs;subst hs;rw[show aV (fun x y=>x==a&&y==F.length) (.sl z r off len)= .sl z r off len from if_neg (by
     simp only[Bool.and_eq_true,beq_iff_eq];rintro⟨e1,e2⟩;have hl:r<F.length:=hlt e1;omega)]at hk
    exact hk
   |ptr z r i' j'=>
    have hs:z=x:=hs;subst hs;rw[show aV (fun x y=>x==a&&y==F.length) (.ptr z r i' j')= .ptr z r i' j' from if_neg (by
     simp only[Bool.and_eq_true,beq_iff_eq];rintro⟨e1,e2⟩;have hl:r<F.length:=hlt e1;omega)]at hk
    exact hk
 simp only[ax]at hx;obtain⟨y,hy,rfl⟩:=Option.map_eq_some_iff.1 hx;obtain⟨v,v1,v2⟩:=htm t y hy;exact⟨v,v1,kO v2 hav⟩
end
section
structure Gh (P:Program) (b:Nat) (ty:TypeId) (cs:List PV) where
 i:Nat
 f:FuncId
 args:List TV
 res:CallRes
 h:CallT P b ty f args cs res cs
 ok:lentOk args res cs=true
def Gh.a {P:Program} {b:Nat} {ty:TypeId} {cs:List PV} (it:Gh P b ty cs):cH P:=⟨it.i,it.f,it.args,it.res⟩
section
variable {P:Program} {b:Nat} {ty:TypeId} {cs:List PV} {Q:Exit->AS->List PV->Prop} {s:AS}
end
end
section
def rD (b:Nat) (_ty:TypeId) (cs:List PV) (w:World):Prop:=
 b<w.heap.size/\ ∀(j:Nat) x,cs[j]?=some x-> ∃v:Value,x= .raw v/\w.cell? ⟨b,j,none⟩=some v/\v.oneCell'=true
theorem rD.lt {b:Nat} {ty:TypeId} {cs:List PV} {w:World} (h:rD b ty cs w):b<w.heap.size:=h.1
def kA (b:Nat) (ty:TypeId) (w0:World) (O X:Nat->Prop) (s:AS) (cs:List PV) (a:Act) (w:World):Prop:=eW w0 O X s a w/\rD b ty cs w0/\ ¬O b
theorem kA.box {b:Nat} {ty:TypeId} {w0 w:World} {O X:Nat->Prop} {s:AS} {cs:List PV} {a:Act} (h:kA b ty w0 O X s cs a w):rD b ty cs w:=by
 obtain⟨⟨_,_,ρ,hinv,_⟩,hb,hO⟩:=h;have hlt:=hb.lt;refine⟨Nat.lt_of_lt_of_le hlt hinv.keep.size,fun j x hx=>?_⟩;obtain⟨v,h1,h2,h3⟩:=hb.2 j x hx;exact⟨v,h1,by rw[mz (hinv.keep.block b hlt hO)];exact h2,h3⟩
section
variable {P:Program} {b:Nat} {ty:TypeId} {cs cs':List PV} {s s':AS} {w0 w:World} {O X:Nat->Prop} {a:Act}
def db (P:Program) (b:Nat) (ty:TypeId) (c:Code) (Q:Exit->AS->List PV->Prop) (s:AS) (cs:List PV):Prop:=
 ∀(w0:World) (O X:Nat->Prop) (a:Act) (w:World),kA b ty w0 O X s cs a w->c.wp P (fun e a' w'=> ∃s' cs',Q e s' cs'/\kA b ty w0 O X s' cs' a' w') a w
variable {Q:Exit->AS->List PV->Prop}
theorem kC {c:Code} (h:bH P c (fun e s'=>Q e s' cs) s):db P b ty c Q s cs:=fun w0 O X a w r=>
 wp_mono (h _ _ _ _ _ r.1) fun e a' w' ⟨s',g1,g2⟩=>⟨s',cs,g1,g2,r.2⟩
theorem kA.weak (h:bX s s') (r:kA b ty w0 O X s cs a w):kA b ty w0 O X s' cs a w:=⟨h _ _ _ _ _ r.1,r.2⟩
theorem db.weak {c:Code} (h:bX s s') (k:db P b ty c Q s' cs):db P b ty c Q s cs:=fun _ _ _ _ _ r=>k _ _ _ _ _ (r.weak h)
theorem db.mono {c:Code} {Q':Exit->AS->List PV->Prop} (h:db P b ty c Q s cs) (k: ∀e s' cs',Q e s' cs'->Q' e s' cs'):db P b ty c Q' s cs:=fun _ _ _ _ _ r=>
 wp_mono (h _ _ _ _ _ r) fun _ _ _ ⟨s',cs',h1,h2⟩=>⟨s',cs',k _ _ _ h1,h2⟩
theorem d5 (h:Q .normal s cs):db P b ty .skip Q s cs:=fun _ _ _ _ _ r=>wp_skip ⟨s,cs,h,r⟩
theorem tw {id:Nat} (h:Q (.exit id) s cs):db P b ty (.exit id) Q s cs:=fun _ _ _ _ _ r=>wp_exit ⟨s,cs,h,r⟩
theorem dQ (h:Q .ret s cs):db P b ty .ret Q s cs:=fun _ _ _ _ _ r=>wp_ret ⟨s,cs,h,r⟩
theorem bj {x y:Code} (h:db P b ty x (rA (db P b ty y Q) Q) s cs):db P b ty (.seq x y) Q s cs:=fun _ _ _ _ _ r=>
 wp_seq (wp_mono (h _ _ _ _ _ r) fun e a w ⟨s',cs',h1,h2⟩=>by
  cases e with
  |normal=>exact h1 _ _ _ _ _ h2
  |_=>exact⟨s',cs',h1,h2⟩)
theorem b9 {id:Nat} {x:Code} (h:db P b ty x (my id Q) s cs):db P b ty (.block id x) Q s cs:=fun _ _ _ _ _ r=>
 wp_block (wp_mono (h _ _ _ _ _ r) fun e a w ⟨s',cs',h1,h2⟩=>by
  cases e with
  |exit id'=>
   simp only[my]at h1;simp only[Exit.inBlock];split at h1
   ·rename_i hid;rw[if_pos hid];exact⟨s',cs',h1,h2⟩
   rename_i hid;rw[if_neg hid];exact⟨s',cs',h1,h2⟩
  |_=>exact⟨s',cs',h1,h2⟩)
theorem tu {c:Operand} {x y:Code} {v:Bool} (hc:s.ev c=some (.raw (.bool v))) (ht:v=true->db P b ty x Q s cs) (hf:v=false->db P b ty y Q s cs):db P b ty (.cond c x y) Q s cs:=fun _ _ _ _ _ r=>by
 obtain⟨⟨h1,hsz,ρ,hinv,htm⟩,_⟩:=id r;have hb:=(bF (b7 htm c _ hc)).1;exact wp_cond_split hb (fun h=>ht h _ _ _ _ _ r) (fun h=>hf h _ _ _ _ _ r)
theorem ib {c:Operand} {x y:Code} (hc:s.ev c=some (.raw (.bool true))) (h:db P b ty x Q s cs):db P b ty (.cond c x y) Q s cs:=tu hc (fun _=>h) (fun h=>by cases h)
theorem f8 {c:Operand} {x y:Code} (hc:s.ev c=some (.raw (.bool false))) (h:db P b ty y Q s cs):db P b ty (.cond c x y) Q s cs:=tu hc (fun h=>by cases h) (fun _=>h)
theorem fH {c:Operand} {y z:Code} (hc:s.ev c=some (.raw (.bool true))) (h:db P b ty z Q s cs):db P b ty (.seq (.cond c .skip y) z) Q s cs:=bj (ib hc (d5 h))
theorem iV {c:Operand} {x z:Code} {id:Nat} (hc:s.ev c=some (.raw (.bool false))) (h:Q (.exit id) s cs):db P b ty (.seq (.cond c x (.exit id)) z) Q s cs:=bj (f8 hc (tw h))
theorem AU {G:Type} (St:G->AS) (Sc:G->List PV) (μ:G->Nat) (g0:G) {c:Code} (h0:bX s (St g0)) (h0':Sc g0=cs)
  (round: ∀g,db P b ty c (rA (fun s' cs'=> ∃g',μ g'<μ g/\bX s' (St g')/\Sc g'=cs') Q) (St g) (Sc g)):db P b ty (.loop c) Q s cs:=fun w0 O X a w r=>by
 classical
 subst h0'
 let p:Act->World->Nat->Prop:=fun a w n=> ∃g,μ g=n/\kA b ty w0 O X (St g) (Sc g) a w
 let m:Act->World->Nat:=fun a w=>if h: ∃n,p a w n then Classical.choose (a8 h)else 0
 refine wp_loop (fun a w=> ∃n,p a w n) m ⟨_,g0,rfl,r.weak h0⟩ ?_;intro a w hI;have hm:m a w=Classical.choose (a8 hI):=dif_pos hI;obtain⟨hp,hleast⟩:=Classical.choose_spec (a8 hI);rw[<- hm]at hp;obtain⟨g,hg,hr⟩:=hp;refine wp_mono (round g _ _ _ _ _ hr) fun e a' w' ⟨s',cs',h1,h2⟩=>?_
 cases e with
 |normal=>
  obtain⟨g',hlt,hw,hcs⟩:=h1;subst hcs;have hr':=h2.weak hw;have hI': ∃n,p a' w' n:=⟨_,g',rfl,hr'⟩;refine⟨hI',?_⟩;have hm':m a' w'=Classical.choose (a8 hI'):=dif_pos hI';obtain⟨_,hl'⟩:=Classical.choose_spec (a8 hI');have:=hl' (μ g') ⟨g',rfl,hr'⟩;rw[hm'];omega
 |_=>exact⟨s',cs',h1,h2⟩
theorem dL {G:Type} (St:G->AS) (Sc:G->List PV) (μ:G->Nat) (g0:G) {id:Nat} {x:Code} (h0:bX s (St g0)) (h0':Sc g0=cs)
  (round: ∀g,db P b ty x (rA (fun s' cs'=> ∃g',μ g'<μ g/\bX s' (St g')/\Sc g'=cs') (my id Q)) (St g) (Sc g)):db P b ty (.block id (.loop x)) Q s cs:=
 b9 (AU St Sc μ g0 h0 h0' round)
/-! Regions. -/
theorem ju {y:Code} (items:List (aJ P)) (ow:List Nat) {id:Nat} {ops:Array Oper} (h: ∀K:AS->Prop,(∀s',db P b ty y Q s' cs->K s')->bW P (items.map aJ.a) ow (bo ops ops.toList 0) (some s) K):db P b ty (.seq (.region id ops false) y) Q s cs:=
 bj (kC (jX items ow (h _ fun _ h=>h)))
theorem AW (items:List (aJ P)) (ow:List Nat) {id:Nat} {ops:Array Oper} (h: ∀K:AS->Prop,(∀s',Q .normal s' cs->K s')->bW P (items.map aJ.a) ow (bo ops ops.toList 0) (some s) K):db P b ty (.region id ops false) Q s cs:=
 kC (jX items ow (h _ fun _ h=>h))
theorem jY (hm:P.follows .mixedOrders=true) (items:List (aJ P)) (ow:List Nat) {id:Nat} {y:Code} {ops:Array Oper} (hd:cy [] ops=true) (h: ∀K:AS->Prop,(∀s',db P b ty y Q s' cs->K s')->bW P (items.map aJ.a) ow (bo ops ops.toList 0) (some s) K):db P b ty (.seq (.region id ops true) y) Q s cs:=
 bj (kC (jW hm items ow hd (by simp) (fun x hx=>by simp at hx) (h _ fun _ h=>h)))
theorem yQ (hm:P.follows .mixedOrders=true) (items:List (aJ P)) (ow:List Nat) {id:Nat} {ops:Array Oper} (hd:cy [] ops=true) (h: ∀K:AS->Prop,(∀s',Q .normal s' cs->K s')->bW P (items.map aJ.a) ow (bo ops ops.toList 0) (some s) K):db P b ty (.region id ops true) Q s cs:=
 kC (jW hm items ow hd (by simp) (fun x hx=>by simp at hx) (h _ fun _ h=>h))
theorem aE {y:Code} {id:Nat} {ops:Array Oper} (h: ∀K:AS->Prop,(∀s',db P b ty y Q s' cs->K s')->bW P [] [] (bo ops ops.toList 0) (some s) K):db P b ty (.seq (.region id ops false) y) Q s cs:=ju [] [] h
theorem bY {id:Nat} {ops:Array Oper} (h: ∀K:AS->Prop,(∀s',Q .normal s' cs->K s')->bW P [] [] (bo ops ops.toList 0) (some s) K):db P b ty (.region id ops false) Q s cs:=AW [] [] h
theorem iX (hm:P.follows .mixedOrders=true) {y:Code} {id:Nat} {ops:Array Oper} (hd:cy [] ops=true) (h: ∀K:AS->Prop,(∀s',db P b ty y Q s' cs->K s')->bW P [] [] (bo ops ops.toList 0) (some s) K):db P b ty (.seq (.region id ops true) y) Q s cs:=jY hm [] [] hd h
theorem iW (hm:P.follows .mixedOrders=true) {id:Nat} {ops:Array Oper} (hd:cy [] ops=true) (h: ∀K:AS->Prop,(∀s',Q .normal s' cs->K s')->bW P [] [] (bo ops ops.toList 0) (some s) K):db P b ty (.region id ops true) Q s cs:=yQ hm [] [] hd h
def CallG (P:Program) (b:Nat) (ty:TypeId) (f:FuncId) (args:List TV) (cs:List PV) (res:CallRes):Prop:=callable P f=true/\ ∀w,rD b ty cs w->vE P f args res w
theorem eJ {f:FuncId} {fn:Func} {c:Code} {args:List TV} {res:CallRes} (hf:P.funcs[f]?=some fn) (hb:fn.body=some c) (hn:callable P f=true)
  (h:db P b ty c (fun e s k=>(e= .normal\/e= .ret)/\k=cs/\ ∃s',bX s s'/\kq P fn res s') ⟨args++ae (fn.ntmps-args.length) .undef,fun _=>[]⟩ cs):CallG P b ty f args cs res:=
 ⟨hn,fun w hw=>oE (rD b ty cs) hf hb hn (fun w0 X a hG r=>wp_mono (h w0 _ X a w0 ⟨r,hG,fun h=>h⟩) fun e a' w' ⟨s',k,⟨g1,_,g2⟩,g3⟩=>⟨s',⟨g1,g2⟩,g3.1⟩) w hw⟩
end
structure dW (P:Program) (b:Nat) (ty:TypeId) (cs:List PV) where
 i:Nat
 f:FuncId
 args:List TV
 res:CallRes
 h:CallG P b ty f args cs res
 ok:cs=cs
def dW.a {P:Program} {b:Nat} {ty:TypeId} {cs:List PV} (it:dW P b ty cs):cH P:=⟨it.i,it.f,it.args,it.res⟩
section
variable {P:Program} {b:Nat} {ty:TypeId} {cs cs':List PV} {s s':AS} {w0 w:World} {O X:Nat->Prop} {a:Act} {Q:Exit->AS->List PV->Prop}
theorem zy (items:List (aJ P)) (lents:List (dW P b ty cs)) (hw:rD b ty cs w):iQ P (items.map aJ.a++lents.map dW.a) w:=fun it hit=>by
 rcases List.mem_append.1 hit with h|h
 ·exact(aJ.ok items).at w it h
 obtain⟨x,_,rfl⟩:=List.mem_map.1 h;exact x.h.2 w hw
theorem Id (items:List (aJ P)) (lents:List (dW P b ty cs)) {ow:List Nat} {ops:Array Oper} {i:Nat} {o:Oper} {s1:AS} (hrel:kA b ty w0 O X s cs a w) (h:bJ P (items.map aJ.a++lents.map dW.a) ow ops i o s=some s1) {K:Act->World->Prop} {Q:Exit->Act->World->Prop}
  (hK: ∀v w',kA b ty w0 O X s1 cs (a.put o.dst v) w'->K (a.put o.dst v) w'):if Region.wanted o (yielded ops a.tmps)then o.wp P a w K Q else K (a.put o.dst undef) w:=
 nk (zy items lents hrel.box) hrel.1 h fun v w' hr=>hK v w' ⟨hr,hrel.2⟩
theorem CM (items:List (aJ P)) (lents:List (dW P b ty cs)) {ow:List Nat} {ops:Array Oper} {Q:Exit->Act->World->Prop}:
  ∀(l:List Oper) (k:Nat) (s s':AS) (a:Act) (w:World),(∀(j:Nat) o,l[j]?=some o->ops[k+j]?=some o)->fY P (items.map aJ.a++lents.map dW.a) ow ops (l.zipIdx k) s=some s'->kA b ty w0 O X s cs a w->
   (∀a' w',kA b ty w0 O X s' cs a' w'->Q .normal a' w')->wpOps P ops Q (List.range' k l.length) a w
 |[],k,s,s',a,w,_,h,r,hQ=>by
  simp only[List.zipIdx_nil,fY]at h;injection h with h
  subst h;exact hQ a w r
 |o::l,k,s,s',a,w,hl,h,r,hQ=>by
  simp only[List.zipIdx_cons,fY]at h;split at h
  ·rename_i s1 hs1;simp only[List.length_cons,List.range'_succ,wpOps];have ho:ops[k]?=some o:=by have:=hl 0 o rfl;simpa using this
   rw[ho];simp only;have:=Id (Q:=Q) items lents r hs1 (K:=wpOps P ops Q (List.range' (k+1) l.length)) (fun v w' hr=>CM items lents l (k+1) s1 s' _ _ (fun j o hj=>by have:=hl (j+1) o (by simpa using hj);rwa[show k+(j+1)=k+1+j by omega]at this) h hr hQ);split at this
   ·rename_i hw;rw[if_pos hw];exact .inl this
   rename_i hw;rw[if_neg hw];exact this
  cases h
theorem yR (lents:List (dW P b ty cs)) (items:List (aJ P)) (ow:List Nat) {id:Nat} {ops:Array Oper}
  (h:bW P (items.map aJ.a++lents.map dW.a) ow (bo ops ops.toList 0) (some s) (fun s'=>Q .normal s' cs)):db P b ty (.region id ops false) Q s cs:=fun w0 O X a w r=>by
 obtain⟨s',h1,h2⟩:=bU P _ ow ops ops.toList 0 s _ h;refine wp_region ?_;rw[List.range_eq_range'];have:=CM (w0:=w0) (O:=O) (X:=X) items lents (Q:=fun e a' w'=> ∃s' k,Q e s' k/\kA b ty w0 O X s' k a' w') ops.toList 0 s s' a w (fun j o hj=>by simpa using hj) h1 r (fun a' w' hr=>⟨s',cs,h2,hr⟩);simpa using this
theorem dc (lents:List (dW P b ty cs)) (items:List (aJ P)) (ow:List Nat) {id:Nat} {ops:Array Oper} {y:Code}
  (h: ∀K:AS->Prop,(∀s',db P b ty y Q s' cs->K s')->bW P (items.map aJ.a++lents.map dW.a) ow (bo ops ops.toList 0) (some s) K):db P b ty (.seq (.region id ops false) y) Q s cs:=
 bj (yR lents items ow (h _ fun _ h=>h))
theorem AX (m j d:Nat) (T:TV) (items:List (aJ P)) (ow:List Nat) {id:Nat} {ops:Array Oper} (hl:s.tmps.length<=1000000) (hm:m<ops.toList.length)
  (h:bW P (items.map aJ.a) ow (bo ops (ops.toList.take m) 0) (some s) (fun s1=>Iz P b cs ops m j d T s1/\s1.tmps.length<=1000000/\bW P (items.map aJ.a) ow (bo ops (ops.toList.drop (m+1)) (m+1)) (some (s1.put (some d) T)) (fun s'=>Q .normal s' cs))):db P b ty (.region id ops false) Q s cs:=fun w0 O X a w r0=>by
 obtain⟨s1,h1,⟨⟨t,x,o,ho,hop,hdst,hg,hx,hT⟩⟩,hl1,h2⟩:=bU P (items.map aJ.a) ow ops _ 0 s _ h;obtain⟨s',h3,h4⟩:=bU P (items.map aJ.a) ow ops _ (m+1) _ _ h2;refine wp_region ?_;have hsz:ops.size=(ops.toList.take m).length+(1+(ops.toList.drop (m+1)).length):=by simp at hm⊢;omega
 rw[hsz,List.range_eq_range',<- List.range'_append_1,Nat.zero_add];have hml:(ops.toList.take m).length=m:=by rw[List.length_take];omega
 refine ma (aJ.ok items) (ops.toList.take m) 0 s s1 a w (fun j o hj=>?_) h1 r0.1 fun a' w' r'=>?_
 ·rw[List.getElem?_take]at hj;split at hj
  ·simpa using hj
  cases hj
 rw[hml,Nat.add_comm 1,List.range'_succ];simp only[wpOps,ho];rw[if_pos (by simp[Region.wanted,hg])];refine .inl ?_;have rG:kA b ty w0 O X s1 cs a' w':=⟨r',r0.2⟩;have p6:=rG.box.2;obtain⟨k1,k2,ρ,hinv,htm⟩:=r';have htm:bC X ρ s1 a' w':=htm;have hv:=(bF (b7 htm x _ hx)).1;have hcs:i5 ρ s1.H (Xo X ρ s1.H) w' b j ((cs.drop j).map AV.p):=fun i y hy=>by
  rw[ax]at hy;obtain⟨z,hz,rfl⟩:=Option.map_eq_some_iff.1 hy;rw[List.getElem?_drop]at hz;obtain⟨v,rfl,v1,v2⟩:=p6 _ z hz;exact⟨v,v1,v2,bS.raw _ v2⟩
 obtain⟨v,g1,g2⟩:=jc hT hcs;have hrun:(execOp a'.eval o).run P w'= .ok (.value v) w':=by
  unfold execOp;rw[hop];refine cz ?_;rw[hv];exact g1
 unfold Oper.wp;rw[hrun];simp only[Oper.upon];rw[hdst];refine gD (aJ.ok items) (Q:=fun e a' w'=> ∃s' cs',Q e s' cs'/\kA b ty w0 O X s' cs' a' w') (ops.toList.drop (m+1)) (m+1) _ s' _ _ (fun j o hj=>?_) h3 (eP k1 k2 hinv htm g2) (fun a' w' hr=>⟨s',cs,h4,hr,r0.2⟩);rw[List.getElem?_drop]at hj;simpa using hj
theorem yS (m j d:Nat) (T:TV) (items:List (aJ P)) (ow:List Nat) {id:Nat} {ops:Array Oper} {y:Code} (hl:s.tmps.length<=1000000) (hm:m<ops.toList.length)
  (h: ∀K:AS->Prop,(∀s1,(Iz P b cs ops m j d T s1/\s1.tmps.length<=1000000/\ ∀K:AS->Prop,(∀s',db P b ty y Q s' cs->K s')->bW P (items.map aJ.a) ow (bo ops (ops.toList.drop (m+1)) (m+1)) (some (s1.put (some d) T)) K)->K s1)->bW P (items.map aJ.a) ow (bo ops (ops.toList.take m) 0) (some s) K):db P b ty (.seq (.region id ops false) y) Q s cs:=
 bj (AX m j d T items ow hl hm (h _ fun s1 ⟨q1,q2,q3⟩=>⟨q1,q2,q3 _ fun _ h=>h⟩))
end
end
def fl (c:Nat) (g:FF):Nat->Int:=fun k=>g (k/c) (k%c)
theorem IM {c:Nat} (g:FF) {i j:Nat} (hj:j<c):fl c g (i*c+j)=g i j:=by
 unfold fl;have h:=sc (i:=i) (j:=j) (sz:=c) hj;rw[h.1,h.2]
theorem lG {n c:Nat} {g g':FF} (h: ∀a b,a<n->b<c->g a b=g' a b):bz (n*c) (fl c g)=bz (n*c) (fl c g'):=gC fun k hk=>by
 have hc:0<c:=by
  rcases Nat.eq_zero_or_pos c with h|h
  ·subst h;simp at hk
  exact h
 exact h _ _ (Nat.div_lt_of_lt_mul (by rw[Nat.mul_comm];exact hk)) (Nat.mod_lt _ hc)
theorem BK {n c i j:Nat} (g:FF) {v:Int} (hi:i<n) (hj:j<c):(bz (n*c) (fl c g)).set (i*c+j) v=bz (n*c) (fl c (upd g i j v)):=by
 rw[l9];refine gC fun k hk=>?_
 have hc:0<c:=by omega
 unfold fl upd;by_cases h:k=i*c+j
 ·subst h;have h:=sc (i:=i) (j:=j) (sz:=c) hj;rw[h.1,h.2];simp
 rw[if_neg h];by_cases h1:k/c=i
 ·have h2:k%c≠j:=fun hh=>h (by
   have:=Nat.div_add_mod k c;rw[h1,hh,Nat.mul_comm]at this;exact this.symm)
  rw[if_pos h1];show _=if k%c=j then v else g i (k%c)
  rw[if_neg h2,h1]
 rw[if_neg h1]
theorem yb (l:List Int) (k:Nat) (v:Int):(lc fZ l).set k [.p (.raw (.bool (decide (v<0)))),.p (.sl (ls fU (aP v.natAbs)))]=lc fZ (l.set k v):=by
 rw[<- ss];rfl
def xe (d n c i:Nat):List (List AV):=(List.range n).map fun k=>if k<i then[.sl d 1 (k*c) c]else[.p (.sl [])]
def s7 (d n c i:Nat) (g:FF):List OObj:=[⟨58,1,xe d n c i⟩,⟨52,2,lc fZ (bz (n*c) (fl c g))⟩]
theorem mo (d n c i:Nat):(xe d n c i).length=n:=by simp[xe]
theorem gX {d n c i k:Nat} (h:k<n):(xe d n c i)[k]?=some (if k<i then[.sl d 1 (k*c) c]else[.p (.sl [])]):=by
 unfold xe;rw[ax,List.getElem?_range h];rfl
theorem yC {d n c i:Nat}:(xe d n c i).set i [.sl d 1 (i*c) c]=xe d n c (i+1):=by
 apply List.ext_getElem?;intro k;by_cases hk:k<n
 ·by_cases h:k=i
  ·subst h;rw[List.getElem?_set_self (by rw[mo];exact hk),gX hk,if_pos (Nat.lt_succ_self k)]
  rw[List.getElem?_set_ne (Ne.symm h),gX hk,gX hk];by_cases h2:k<i
  ·rw[if_pos h2,if_pos (by omega)]
  rw[if_neg h2,if_neg (by omega)]
 rw[aq (by rw[List.length_set,mo];omega),aq (by rw[mo];omega)]
theorem vt (d n c:Nat):([⟨58,1,ae n [.raw (.slice none 0 0)]⟩]:List OObj).map zO=[⟨58,1,xe d n c 0⟩]:=by
 simp[zO,xe,DK,DR,List.map_const']
theorem yE (n c:Nat) (g:FF):([⟨52,2,ae (n*c) [.raw (.bool false),.raw (.slice none 0 0)]⟩]:List OObj).map zO=[⟨52,2,lc fZ (bz (n*c) (fl c (part g 0 0)))⟩]:=by
 have e2:bz (n*c) (fl c (part g 0 0))=ae (n*c) 0:=by
  apply List.ext_getElem?;intro b;by_cases hb:b<n*c
  ·rw[aX _ hb,List.getElem?_replicate,if_pos hb];simp[fl,part]
  rw[aq (by rw[bA];omega),aq (by simp;omega)]
 simp[e2,zO,lc,fZ,DK,DR,cq,ls]
theorem vr (ty d n c:Nat):lW ⟨ty,1,xe d n c 0⟩:=fun e he x hx=>by
 simp only[xe,List.mem_map]at he;obtain⟨k,_,rfl⟩:=he;simp at hx;subst hx;rfl
theorem yD {H:OH} {d n c i:Nat} {g:FF} (h:H d=s7 d n c i g):qk H d:=fun r o ho e he x hx=>by
 rw[h]at ho
 match r,ho with
 |0,ho=>
  simp[s7]at ho;subst ho;simp only[xe,List.mem_map]at he;obtain⟨k,_,rfl⟩:=he;split at hx
  ·simp at hx;subst hx;exact .inr ⟨1,_,_,⟨52,2,lc fZ (bz (n*c) (fl c g))⟩,rfl,by rw[h];rfl,df _ _ _⟩
  simp at hx;subst hx;exact .inl rfl
 |1,ho=>
  simp[s7]at ho;subst ho;exact .inl (df _ _ _ e he x hx)
 |r+2,ho=>simp[s7]at ho
theorem Af {n c i:Nat} (g:FF) (hi:i<n):((bz (n*c) (fl c g)).take (i*c+c)).drop (i*c)=bz c (g i):=by
 have hk:i*c+c<=n*c:=by
  have:=Nat.mul_le_mul_right c hi;rw[Nat.succ_mul]at this;exact this
 apply List.ext_getElem?;intro j;rw[List.getElem?_drop,List.getElem?_take];by_cases hj:j<c
 ·rw[if_pos (by omega),aX _ (by omega),IM g hj,aX _ hj]
 rw[if_neg (by omega),aq (by rw[bA];omega)]
theorem Df {H:OH} {n c:Nat} {g:FF} (_hc:1<=c) (h:H 5016=s7 5016 n c n g):fV H 5016 (.one (.sl 5016 0 0 n))= .one (.p (.sl (ls (fR fZ) (bL n c g)))):=by
 have h0:(H 5016)[0]?=some ⟨58,1,xe 5016 n c n⟩:=by rw[h];rfl
 have h1:(H 5016)[1]?=some ⟨52,2,lc fZ (bz (n*c) (fl c g))⟩:=by rw[h];rfl
 simp only[fV,eo,if_true,h0]
 congr 3
 rw[Nat.zero_add,List.drop_zero,List.take_of_length_le (by rw[mo];exact ac _)];apply List.ext_getElem?;intro k;rw[ax,gp];by_cases hk:k<n
 ·rw[gX hk,if_pos hk,bq c g hk];simp only[Option.map_some,List.map_cons,List.map_nil,gO,h1,fi,sn,Af g hk,nR];rfl
 rw[aq (by rw[mo];omega),aq (by rw[aU];omega)];rfl
theorem oD {P:Program} {f:FuncId} {args:List TV} {r:TV} (hc:callable P f=true) (h: ∀(X:Nat->Prop) (w:World) (vs:Array Value),(∀b,X b->b<w.heap.size)->vs.size=args.length->
  (∀(j:Nat) t,args[j]?=some t-> ∃v:Value,vs[j]?=some v/\t.rel (fun _ _=>none) (fun _=>[]) X w v)->Calls P f vs w fun e w'=> ∃v,e= .returned v/\(∀ρ H Y,(∀b,Y b->b<w.heap.size)->r.rel ρ H Y w' v)/\Ext w w'):CallC P f args ⟨[],r⟩:=
 ⟨hc,fun X w vs hX hvs ha=>(h X w vs hX hvs ha).mono fun e w' ⟨v,h1,h2,h3⟩=>⟨v,h1,fun _ _=>none,x3 h3 hX,h2 _ _ _ (fun b hb=>by
  rcases hb with hb|⟨a,r,o,c,ho,hr⟩
  ·exact hX b hb
  cases hr)⟩⟩
theorem IR {U V L v1 high q : Nat} (hV : v1 * 4294967296 * L <= V) (hU : U < (high + 1) * 4294967296 * L) (hq : q * V <= U) (hL : 0 < L) : q * v1 <= high := by
  have h1 : q * (v1 * 4294967296 * L) <= q * V := Nat.mul_le_mul_left _ hV;have h2 : (q * v1) * (4294967296 * L) < (high + 1) * (4294967296 * L) := by
    calc (q * v1) * (4294967296 * L) = q * (v1 * 4294967296 * L) := by grind
      _ <= q * V := h1
      _ <= U := hq
      _ < (high + 1) * 4294967296 * L := hU
      _ = (high + 1) * (4294967296 * L) := by grind
  have := Nat.lt_of_mul_lt_mul_right h2;omega
theorem IQ {U V L v1 v2 u0 high g r q : Nat} (hV : (v1 * 4294967296 + v2) * L <= V) (hU : U < (high * 4294967296 + u0 + 1) * L) (hq : q * V <= U) (hg : g * v1 + r = high) (h : r * 4294967296 + u0 < g * v2) : q < g := by
  by_cases hc : q < g
  · exact hc
  · exfalso
    have h1 : g * ((v1 * 4294967296 + v2) * L) <= U := ay (Nat.mul_le_mul (Nat.le_of_not_lt hc) hV) hq;have h2 : (g * (v1 * 4294967296 + v2)) * L < (high * 4294967296 + u0 + 1) * L := by
      calc (g * (v1 * 4294967296 + v2)) * L = g * ((v1 * 4294967296 + v2) * L) := by grind
        _ <= U := h1
        _ < _ := hU
    have h3 := Nat.lt_of_mul_lt_mul_right h2;have h4 : g * (v1 * 4294967296 + v2) = g * v1 * 4294967296 + g * v2 := by grind
    have h5 : high * 4294967296 = g * v1 * 4294967296 + r * 4294967296 := by rw [<- hg]; grind
    omega
theorem EH {U V L vl v1 v2 t3 g q : Nat} (hV : V = (v1 * 4294967296 + v2) * L + vl) (hvl : vl < L) (hU : t3 * L <= U) (hq : U < (q + 1) * V) (hg : g * (v1 * 4294967296 + v2) <= t3) (hB : g <= 4294967296) (hv1 : 1 <= v1) : g <= q + 1 := by
  have h1 : g * V <= U + g * vl := by
    calc g * V = (g * (v1 * 4294967296 + v2)) * L + g * vl := by rw [hV]; grind
      _ <= t3 * L + g * vl := Nat.add_le_add_right (Nat.mul_le_mul_right _ hg) _
      _ <= _ := Nat.add_le_add_right hU _
  have h2 : g * vl <= 4294967296 * L := Nat.mul_le_mul hB (Nat.le_of_lt hvl);have h3 : 4294967296 * L <= V := by
    rw [hV];have : 4294967296 * L <= (v1 * 4294967296 + v2) * L := Nat.mul_le_mul_right _ (by omega);omega
  have h4 : g * V < (q + 2) * V := by
    calc g * V <= U + V := by omega
      _ < (q + 1) * V + V := by omega
      _ = (q + 2) * V := by grind
  have := Nat.lt_of_mul_lt_mul_right h4;omega
structure DN (u v:List Nat) (g:Nat) where
 i:Nat
 us:List Nat
 c:Nat
 b:Nat
 hi:i<=v.length
 len:us.length=i
 lmb:Lmb us
 hc:c<4294967296
 hb:b<=1
 val:natV us+g*natV (v.take i)=natV (u.take i)+(c+b)*4294967296^i
def DN.start (u v:List Nat) (g:Nat):DN u v g:=⟨0,[],0,0,Nat.zero_le _,rfl,fun a h=>by simp at h,by omega,by omega,by simp[natV]⟩
theorem j9 (l:List Nat) (a:Nat):natV (l++[a])=natV l+a*4294967296^l.length:=by
 rw[fD];simp[natV];grind
theorem jI {l:List Nat} {a:Nat} (h:Lmb l) (ha:a<4294967296):Lmb (l++[a]):=fun x hx=>by
 rcases List.mem_append.1 hx with h1|h1
 ·exact h x h1
 simp at h1;omega
theorem uH {g x c:Nat} (hg:g<=4294967296) (hx:x<4294967296) (hc:c<4294967296):c+g*x<18446744073709551616/\(c+g*x)/4294967296<4294967296:=by
 have:g*x<=4294967296*4294967295:=Nat.mul_le_mul hg (by omega);omega
theorem ER {u v:List Nat} {g:Nat} (m:DN u v g) {x y l b':Nat} (hg:g<=4294967296) (hx:v[m.i]?=some x) (hy:u[m.i]?=some y) (lv:Lmb v) (hl:l<4294967296) (hb':b'<=1)
  (ht:l+(m.c+g*x)%4294967296+m.b=y+b'*4294967296): ∃m':DN u v g,m'.i=m.i+1/\m'.us=m.us++[l]/\m'.c=(m.c+g*x)/4294967296/\m'.b=b':=by
 have hx':=cd lv hx;refine⟨⟨m.i+1,m.us++[l],(m.c+g*x)/4294967296,b',?_,by rw[List.length_append,m.len];rfl,jI m.lmb hl,(uH hg hx' m.hc).2,hb',?_⟩,rfl,rfl,rfl,rfl⟩
 ·have:=(List.getElem?_eq_some_iff.1 hx).1;omega
 have hv:=m.val;rw[j9,m.len,aZ hx,aZ hy,Nat.pow_succ];have hs:m.c+g*x=(m.c+g*x)%4294967296+4294967296*((m.c+g*x)/4294967296):=by omega
 generalize(m.c+g*x)%4294967296=lo at*
 generalize(m.c+g*x)/4294967296=hi' at*
 generalize 4294967296^m.i=p at*
 have h1:g*(natV (v.take m.i)+x*p)=g*natV (v.take m.i)+g*x*p:=by grind
 have h2:g*x=lo+4294967296*hi'-m.c:=by omega
 have h3:(l+lo+m.b)*p=(y+b'*4294967296)*p:=by rw[ht]
 have h4:(m.c+g*x)*p=(lo+4294967296*hi')*p:=by rw[hs]
 grind
structure DS (u v:List Nat) where
 i:Nat
 us:List Nat
 c:Nat
 hi:i<=v.length
 len:us.length=i
 lmb:Lmb us
 hc:c<=1
 val:natV us+c*4294967296^i=natV (u.take i)+natV (v.take i)
def DS.start (u v:List Nat):DS u v:=⟨0,[],0,Nat.zero_le _,rfl,fun a h=>by simp at h,by omega,by simp[natV]⟩
theorem D6 {u v:List Nat} (m:DS u v) {x y:Nat} (hx:v[m.i]?=some x) (hy:u[m.i]?=some y) (lv:Lmb v) (lu:Lmb u):
  ∃m':DS u v,m'.i=m.i+1/\m'.us=m.us++[(m.c+(y+x))%4294967296]/\m'.c=(m.c+(y+x))/4294967296:=by
 have hx':=cd lv hx;have hy':=cd lu hy;have hc:=m.hc;refine⟨⟨m.i+1,m.us++[(m.c+(y+x))%4294967296],(m.c+(y+x))/4294967296,?_,by rw[List.length_append,m.len];rfl,jI m.lmb (Nat.mod_lt _ (by omega)),by omega,?_⟩,rfl,rfl,rfl⟩
 ·have:=(List.getElem?_eq_some_iff.1 hx).1;omega
 have hv:=m.val;rw[j9,m.len,aZ hx,aZ hy,Nat.pow_succ];have hs:m.c+(y+x)=(m.c+(y+x))%4294967296+4294967296*((m.c+(y+x))/4294967296):=by omega
 generalize(m.c+(y+x))%4294967296=lo at*
 generalize(m.c+(y+x))/4294967296=hi' at*
 generalize 4294967296^m.i=p at*
 have h4:(m.c+(y+x))*p=(lo+4294967296*hi')*p:=by rw[hs]
 grind
theorem BW {U V g q R:Nat} (hq:q=U/V) (hg:q<=g) (h:R+g*V=U) (hV:0<V):g=q/\R=U%V:=by
 have h1:g<=U/V:=(Nat.le_div_iff_mul_le hV).2 (by omega);have h2:g=q:=by omega
 refine⟨h2,?_⟩;have:=Nat.div_add_mod U V;rw[<- hq,<- h2,Nat.mul_comm]at this;omega
theorem EG {U V g q R T Bn c t W:Nat} (hq:q=U/V) (hg:g<=q+1) (h:R+g*V=U+4294967296*Bn) (hlt:U<g*V) (hV:0<V) (hVB:V<=Bn) (hW:W<Bn)
  (hR:R=T+t*Bn) (ht:W+c*Bn=T+V) (hc:c<=1) (htt:t<4294967296):g=q+1/\(t+c)%4294967296=0/\W=U%V:=by
 have h1:g=q+1:=by
  by_cases hh:g=q+1
  ·exact hh
  exfalso;have:g*V<=(U/V)*V:=Nat.mul_le_mul_right _ (by omega);have:=Nat.div_mul_le_self U V;omega
 have h2:=Nat.div_add_mod U V;have h3:=Nat.mod_lt U hV;rw[<- hq]at h2;subst h1;have h4:(q+1)*V=V*q+V:=by grind
 have h5:W+(t+c)*Bn=U%V+4294967296*Bn:=by
  have:(t+c)*Bn=t*Bn+c*Bn:=by grind
  omega
 have h6:t+c=4294967296:=by
  rcases Nat.lt_trichotomy (t+c) 4294967296 with hh|hh|hh
  ·exfalso;have:(t+c)*Bn+Bn<=4294967296*Bn:=by
    have:=Nat.mul_le_mul_right Bn (show t+c+1<=4294967296 by omega);have e:(t+c+1)*Bn=(t+c)*Bn+Bn:=by grind
    omega
   omega
  ·exact hh
  omega
 refine⟨rfl,by rw[h6],?_⟩;rw[h6]at h5;omega
def bf:Nat->Nat->List Nat
 |0,_=>[]
 |n+1,x=>x%4294967296::bf n (x/4294967296)
theorem a7: ∀n x,(bf n x).length=n
 |0,_=>rfl
 |n+1,x=>by simp[bf,a7 n]
theorem jH: ∀n x,Lmb (bf n x)
 |0,_=>fun a h=>by simp[bf]at h
 |n+1,x=>by rw[bf,dz];exact⟨Nat.mod_lt _ (by omega),jH n _⟩
theorem ra: ∀n x,natV (bf n x)=x%4294967296^n
 |0,x=>by simp[bf,natV,Nat.mod_one]
 |n+1,x=>by
  rw[bf,natV,ra n,Nat.pow_succ,Nat.mul_comm (4294967296^n),Nat.mod_mul]
theorem dU {n x:Nat} (h:x<4294967296^n):natV (bf n x)=x:=by rw[ra,Nat.mod_eq_of_lt h]
theorem xV: ∀{l:List Nat},Lmb l->l=bf l.length (natV l)
 |[],_=>rfl
 |a::l,h=>by
  rw[dz]at h;have h1:(a+4294967296*natV l)%4294967296=a:=by omega
  have h2:(a+4294967296*natV l)/4294967296=natV l:=by omega
  show a::l=bf (l.length+1) (natV (a::l));rw[bf,natV,h1,h2,<- xV h.2]
theorem tT {l:List Nat} {n x:Nat} (h:Lmb l) (hn:l.length=n) (hx:natV l=x):l=bf n x:=by
 subst hn hx;exact xV h
theorem dO: ∀{n x i:Nat},i<n->(bf n x)[i]?=some (x/4294967296^i%4294967296)
 |0,_,_,h=>by omega
 |n+1,x,0,_=>by simp[bf]
 |n+1,x,i+1,h=>by
  rw[bf,List.getElem?_cons_succ,dO (by omega),Nat.div_div_eq_div_mul,Nat.pow_succ,Nat.mul_comm 4294967296]
theorem m6 {n x:Nat} (h:x<4294967296^n):dJ (bf n x)=aP x:=by
 rw[gH (jH _ _),dU h]
theorem lP {l:List Nat} {i a:Nat} (h:l[i]?=some a):natV (l.drop i)=a+4294967296*natV (l.drop (i+1)):=by rw[i9 h,natV]
/-! Short division. -/
theorem CT {a b Y:Nat} (hb:0<b) (ha:a<4294967296):(a+4294967296*Y)/b%4294967296=(Y%b*4294967296+a)/b/\(a+4294967296*Y)/b/4294967296=Y/b/\(a+4294967296*Y)%b=(Y%b*4294967296+a)%b:=by
 have h1:=Nat.div_add_mod Y b;have h2:=Nat.mod_lt Y hb;generalize hq:Y/b=q at*
 generalize hr:Y%b=r at*
 have e:a+4294967296*Y=b*(4294967296*q)+(r*4294967296+a):=by rw[<- h1];grind
 have hlt:(r*4294967296+a)/b<4294967296:=by
  rw[Nat.div_lt_iff_lt_mul hb];have:(r+1)*4294967296<=b*4294967296:=Nat.mul_le_mul_right _ (by omega);omega
 rw[e,Nat.mul_add_div hb,Nat.mul_add_mod];generalize(r*4294967296+a)/b=t at*
 refine⟨by omega,by omega,Nat.mul_add_mod _ _ _⟩
theorem Fu {l:List Nat} {i a b n:Nat} (hn:l.length=n) (hi:i<n) (ha:l[i]?=some a) (ha':a<4294967296) (hb:0<b):
  (l.take (i+1)++bf (n-(i+1)) (natV (l.drop (i+1))/b)).set i ((natV (l.drop (i+1))%b*4294967296+a)/b)=l.take i++bf (n-i) (natV (l.drop i)/b)/\
  (natV (l.drop (i+1))%b*4294967296+a)%b=natV (l.drop i)%b:=by
 obtain⟨h1,h2,h3⟩:=CT (Y:=natV (l.drop (i+1))) hb ha';rw[lP ha];refine⟨?_,h3.symm⟩;rw[show n-i=n-(i+1)+1 by omega,bf,h1,h2,List.take_add_one,ha];simp only[Option.toList_some,List.append_assoc,List.singleton_append];rw[List.set_append_right _ _ (by simp;omega)];have e:i-(l.take i).length=0:=by simp;omega
 rw[e,List.set_cons_zero]
/-! Shifts. -/
theorem uQ {s:Nat} (hs:s<32):2^s<=2147483648/\1<=2^s:=⟨by have:=Nat.pow_le_pow_right (n:=2) (by omega) (show s<=31 by omega);simpa using this,Nat.one_le_two_pow⟩
theorem C9 {X Y s:Nat} (hs:s<=32):(X+18446744073709551616*Y)/2^s%4294967296=X/2^s%4294967296:=by
 have e:18446744073709551616*Y=2^s*(2^(32-s)*(4294967296*Y)):=by
  rw[<- Nat.mul_assoc,<- Nat.pow_add,show s+(32-s)=32 by omega];grind
 rw[e,Nat.add_mul_div_left _ _ (Nat.two_pow_pos s)];have e2:2^(32-s)*(4294967296*Y)=4294967296*(2^(32-s)*Y):=by grind
 rw[e2,Nat.add_mul_mod_self_left]
theorem IY {l:List Nat} (hl:Lmb l) {i s:Nat} (hs:s<=32):natV l/2^s/4294967296^i%4294967296=(l.getD i 0+4294967296*l.getD (i+1) 0)/2^s%4294967296:=by
 have e:natV l/2^s/4294967296^i=natV (l.drop i)/2^s:=by
  rw[Nat.div_div_eq_div_mul,Nat.mul_comm,<- Nat.div_div_eq_div_mul]
  congr 1
  by_cases hi:i<=l.length
  ·have h1:natV l=natV (l.take i)+4294967296^i*natV (l.drop i):=by
    conv=>lhs;rw[<- List.take_append_drop i l]
    rw[fD,List.length_take,Nat.min_eq_left hi]
   have h2:=dT hl i;rw[h1,Nat.add_mul_div_left _ _ (Nat.pow_pos (by omega)),Nat.div_eq_of_lt h2,Nat.zero_add]
  rw[List.drop_eq_nil_iff.2 (by omega)];have h2:=eL hl;have h3:4294967296^l.length<=4294967296^i:=Nat.pow_le_pow_right (by omega) (by omega);rw[Nat.div_eq_of_lt (by omega)];rfl
 rw[e];have g: ∀j,natV (l.drop j)=l.getD j 0+4294967296*natV (l.drop (j+1)):=fun j=>by
  rw[List.getD_eq_getElem?_getD];cases h:l[j]? with
  |none=>
   rw[List.getElem?_eq_none_iff]at h;rw[List.drop_eq_nil_iff.2 h,List.drop_eq_nil_iff.2 (by omega)];rfl
  |some a=>exact lP h
 rw[g i,g (i+1)];have e2:l.getD i 0+4294967296*(l.getD (i+1) 0+4294967296*natV (l.drop (i+1+1)))=(l.getD i 0+4294967296*l.getD (i+1) 0)+18446744073709551616*natV (l.drop (i+1+1)):=by grind
 rw[e2,C9 hs]
theorem yz {l:List Nat} (hl:Lmb l) {i s n v:Nat} (hs:s<=32) (hn:l.length=n) (hi:i<n) (hv:v=(l.getD i 0+4294967296*l.getD (i+1) 0)/2^s%4294967296):
  ((bf n (natV l/2^s)).take i++l.drop i).set i v=(bf n (natV l/2^s)).take (i+1)++l.drop (i+1):=by
 have hg:=dO (n:=n) (x:=natV l/2^s) hi;rw[IY hl hs,<- hv]at hg;have hd:l.drop i=l[i]'(by omega)::l.drop (i+1):=List.drop_eq_getElem_cons (by omega);rw[List.set_append_right _ _ (by simp[a7];omega),List.take_add_one,hg,hd];have e:i-((bf n (natV l/2^s)).take i).length=0:=by simp[a7];omega
 rw[e,List.set_cons_zero]
 simp
def pX (m:List Nat) (s i:Nat):Nat:=natV (m.take i)*2^s/4294967296^i
theorem H9 {m:List Nat} (hm:Lmb m) (s i:Nat):pX m s i<2^s:=by
 unfold pX;rw[Nat.div_lt_iff_lt_mul (Nat.pow_pos (by omega)),Nat.mul_comm];exact Nat.mul_lt_mul_of_pos_left (dT hm i) (Nat.two_pow_pos s)
theorem FH {m:List Nat} {s i a:Nat} (ha:m[i]?=some a):pX m s i+a*2^s=natV (m.take (i+1))*2^s/4294967296^i/\(pX m s i+a*2^s)/4294967296=pX m s (i+1):=by
 have h1:=aZ ha;have e:natV (m.take (i+1))*2^s=natV (m.take i)*2^s+4294967296^i*(a*2^s):=by rw[h1];grind
 have h2:pX m s i+a*2^s=natV (m.take (i+1))*2^s/4294967296^i:=by
  unfold pX;rw[e,Nat.add_mul_div_left _ _ (Nat.pow_pos (by omega))]
 refine⟨h2,?_⟩;rw[h2];unfold pX;rw[Nat.div_div_eq_div_mul,Nat.pow_succ]
theorem Ia {m:List Nat} {s i j:Nat} (hj:j<i) (hi:i<=m.length):natV (m.take i)*2^s/4294967296^j%4294967296=natV m*2^s/4294967296^j%4294967296:=by
 have h1:natV m=natV (m.take i)+4294967296^i*natV (m.drop i):=by
  conv=>lhs;rw[<- List.take_append_drop i m]
  rw[fD,List.length_take,Nat.min_eq_left hi]
 obtain⟨d,rfl⟩: ∃d,i=j+1+d:=⟨i-(j+1),by omega⟩;have e:natV m*2^s=natV (m.take (j+1+d))*2^s+4294967296^j*(4294967296*(4294967296^d*natV (m.drop (j+1+d))*2^s)):=by
  rw[h1,Nat.pow_add,Nat.pow_add];grind
 rw[e,Nat.add_mul_div_left _ _ (Nat.pow_pos (by omega)),Nat.add_mul_mod_self_left]
theorem ri {n x:Nat}:bf (n+1) x=bf n x++[x/4294967296^n%4294967296]:=by
 apply List.ext_getElem?;intro i;rcases Nat.lt_trichotomy i n with h|h|h
 ·rw[dO (by omega),List.getElem?_append_left (by rw[a7];exact h),dO h]
 ·subst h;rw[dO (by omega),List.getElem?_append_right (by rw[a7];exact ac _),a7,Nat.sub_self];rfl
 rw[aq (by rw[a7];omega),aq (by simp[a7];omega)]
section
theorem zQ {l:List Nat} {n x y:Nat} (hn:l.length=n+2) (hx:l[n+1]?=some x) (hy:l[n]?=some y):natV l=(x*4294967296+y)*4294967296^n+natV (l.take n):=by
 have h1:=aZ hx;have h2:=aZ hy;rw[List.take_of_length_le (by omega)]at h1;rw[h1,h2,Nat.pow_succ];grind
theorem zR {l:List Nat} {n x y z:Nat} (hn:l.length=n+3) (hx:l[n+2]?=some x) (hy:l[n+1]?=some y) (hz:l[n]?=some z):natV l=((x*4294967296+y)*4294967296+z)*4294967296^n+natV (l.take n):=by
 have h1:=aZ hx;have h2:=aZ hy;have h3:=aZ hz;rw[List.take_of_length_le (by omega)]at h1;rw[h1,h2,h3,Nat.pow_succ,Nat.pow_succ];grind
structure qg (u v:List Nat) (n v1 v2 u2 u1 u0:Nat):Prop where
 lu:Lmb u
 lv:Lmb v
 nu:u.length=n+3
 nv:v.length=n+2
 hv1:v[n+1]?=some v1
 hv2:v[n]?=some v2
 hu2:u[n+2]?=some u2
 hu1:u[n+1]?=some u1
 hu0:u[n]?=some u0
 top:2147483648<=v1
 lt:natV u<natV v*4294967296
section
variable {u v:List Nat} {n v1 v2 u2 u1 u0:Nat} (h:qg u v n v1 v2 u2 u1 u0)
include h
theorem qg.vpos:0<natV v:=by
 have:=h.lt;by_cases hv:natV v=0
 ·rw[hv]at this;omega
 omega
theorem qg.bv1:v1<4294967296:=cd h.lv h.hv1
theorem qg.bv2:v2<4294967296:=cd h.lv h.hv2
theorem qg.bu2:u2<4294967296:=cd h.lu h.hu2
theorem qg.bu1:u1<4294967296:=cd h.lu h.hu1
theorem qg.bu0:u0<4294967296:=cd h.lu h.hu0
theorem qg.eV:natV v=(v1*4294967296+v2)*4294967296^n+natV (v.take n):=zQ h.nv h.hv1 h.hv2
theorem qg.eU:natV u=((u2*4294967296+u1)*4294967296+u0)*4294967296^n+natV (u.take n):=zR h.nu h.hu2 h.hu1 h.hu0
theorem qg.vl:natV (v.take n)<4294967296^n:=dT h.lv n
theorem qg.ul:natV (u.take n)<4294967296^n:=dT h.lu n
theorem qg.q_lt:natV u/natV v<4294967296:=by
 rw[Nat.div_lt_iff_lt_mul h.vpos,Nat.mul_comm];exact h.lt
theorem qg.u2_le : u2 <= v1 := by
  have e1 := h.eV;have e2 := h.eU;have h1 := h.lt;have h2 := h.vl;have h3 := h.bv2;have hL : 0 < 4294967296 ^ n := Nat.pow_pos (by omega);generalize 4294967296 ^ n = L at *
  by_cases hc : u2 <= v1
  · exact hc
  · exfalso
    have h4 : (v1 + 1) * 4294967296 * 4294967296 * L <= natV u := by
      rw [e2];have : (v1 + 1) * 4294967296 * 4294967296 * L <= ((u2 * 4294967296 + u1) * 4294967296 + u0) * L := Nat.mul_le_mul_right _ (ay (Nat.mul_le_mul_right _ (ay (Nat.mul_le_mul_right _ (show v1 + 1 <= u2 by omega)) (Nat.le_add_right _ _))) (Nat.le_add_right _ _));exact ay this (Nat.le_add_right _ _)
    have h5 : natV v * 4294967296 <= (v1 + 1) * 4294967296 * 4294967296 * L := by
      have h6 : natV v <= (v1 + 1) * 4294967296 * L := by
        rw [e1];have : (v1 * 4294967296 + v2) * L + L <= (v1 + 1) * 4294967296 * L := by
          have := Nat.mul_le_mul_right L (show v1 * 4294967296 + v2 + 1 <= (v1 + 1) * 4294967296 by omega);rw [Nat.add_mul (v1 * 4294967296 + v2) 1 L, Nat.one_mul] at this;exact this
        omega
      calc natV v * 4294967296 <= (v1 + 1) * 4294967296 * L * 4294967296 := Nat.mul_le_mul_right _ h6
        _ = _ := by grind
    omega
structure Iy (u v:List Nat) (v1 high:Nat) where
 g:Nat
 r:Nat
 eq:g*v1+r=high
 ge:natV u/natV v<=g
 le:g<=4294967297
 hr:r<4294967296
omit h in
theorem zd {a b c:Nat} (hb:0<b) (h:a<(c+1)*b):a/b<=c:=by
 have:=(Nat.div_lt_iff_lt_mul hb).2 h;omega
theorem qg.first: ∃k:Iy u v v1 (u2*4294967296+u1),k.g=(u2*4294967296+u1)/v1/\k.r=(u2*4294967296+u1)%v1:=by
 have ht:=h.top;have hb1:=h.bv1;have hm:=Nat.mod_lt (u2*4294967296+u1) (show 0<v1 by omega);have hd:=Nat.div_add_mod (u2*4294967296+u1) v1;have hle:=h.u2_le;have hu1:=h.bu1;have hL:0<4294967296^n:=Nat.pow_pos (by omega);refine⟨⟨(u2*4294967296+u1)/v1,(u2*4294967296+u1)%v1,by rw[Nat.mul_comm];exact hd,?_,?_,by omega⟩,rfl,rfl⟩
 ·rw[Nat.le_div_iff_mul_le (by omega)];have e1:=h.eV;have e2:=h.eU;have h1:=h.ul;have h2:=h.bu0;refine IR (U:=natV u) (V:=natV v) (L:=4294967296^n) ?_ ?_ (Nat.div_mul_le_self _ _) hL
  ·rw[e1];have:v1*4294967296*4294967296^n<=(v1*4294967296+v2)*4294967296^n:=Nat.mul_le_mul_right _ (by omega);omega
  rw[e2];have:((u2*4294967296+u1)*4294967296+u0)*4294967296^n+4294967296^n<=(u2*4294967296+u1+1)*4294967296*4294967296^n:=by
   have:=Nat.mul_le_mul_right (4294967296^n) (show(u2*4294967296+u1)*4294967296+u0+1<=(u2*4294967296+u1+1)*4294967296 by omega);rw[Nat.add_mul ((u2*4294967296+u1)*4294967296+u0) 1,Nat.one_mul]at this;exact this
  omega
 refine zd (by omega) ?_;have:u2*4294967296<=v1*4294967296:=Nat.mul_le_mul_right _ hle;have e:(4294967297+1)*v1=v1*4294967296+2*v1:=by omega
 omega
theorem qg.down (k:Iy u v v1 (u2*4294967296+u1)) (hc:4294967296<=k.g\/k.r*4294967296+u0<k.g*v2):natV u/natV v<k.g:=by
 rcases hc with hc|hc
 ·have:=h.q_lt;omega
 have e1:=h.eV;have e2:=h.eU;have h1:=h.ul;refine IQ (U:=natV u) (V:=natV v) (L:=4294967296^n) (high:=u2*4294967296+u1) ?_ ?_ (Nat.div_mul_le_self _ _) k.eq hc
 ·rw[e1];omega
 rw[e2,Nat.add_mul ((u2*4294967296+u1)*4294967296+u0) 1,Nat.one_mul];omega
theorem qg.near {g r:Nat} (heq:g*v1+r=u2*4294967296+u1) (hB:g<=4294967296) (hc:g*v2<=r*4294967296+u0):g<=natV u/natV v+1:=by
 have e1:=h.eV;have e2:=h.eU;have ht:=h.top;refine EH (U:=natV u) (t3:=(u2*4294967296+u1)*4294967296+u0) e1 h.vl ?_ ?_ ?_ hB (by omega)
 ·rw[e2];omega
 ·have:=Nat.lt_div_mul_add (a:=natV u) h.vpos;rw[Nat.add_mul,Nat.one_mul];omega
 rw[<- heq];have e:g*(v1*4294967296+v2)=g*v1*4294967296+g*v2:=by grind
 have e':(g*v1+r)*4294967296=g*v1*4294967296+r*4294967296:=by grind
 omega
theorem qg.vlt:natV v<=4294967296^(n+2):=Nat.le_of_lt (by have:=eL h.lv;rw[h.nv]at this;exact this)
theorem qg.right {g:Nat} (m:DN u v g) (hi:m.i=n+2) (hge:natV u/natV v<=g) (hno:m.c+m.b<=u2):g=natV u/natV v/\m.us++[u2-(m.c+m.b)]=bf (n+3) (natV u%natV v):=by
 have hv:=m.val;rw[hi,List.take_of_length_le (by rw[h.nv];exact ac _)]at hv;have hU:=aZ h.hu2;rw[List.take_of_length_le (by rw[h.nu];exact ac _)]at hU;have hml:m.us.length=n+2:=by rw[m.len,hi]
 have e:natV (m.us++[u2-(m.c+m.b)])+g*natV v=natV u:=by
  rw[j9,hml,hU];have:(u2-(m.c+m.b))*4294967296^(n+2)+(m.c+m.b)*4294967296^(n+2)=u2*4294967296^(n+2):=by
   rw[<- Nat.add_mul,Nat.sub_add_cancel hno]
  omega
 obtain⟨q1,q2⟩:=BW rfl hge e h.vpos;refine⟨q1,tT (jI m.lmb ?_) (by simp[hml]) q2⟩;have:=h.bu2;omega
theorem qg.left {g t:Nat} (m:DN u v g) (hi:m.i=n+2) (hle:g<=natV u/natV v+1) (hyes:u2<m.c+m.b) (ht:t=u2+4294967296-(m.c+m.b)) (a:DS (m.us++[t]) v) (hai:a.i=n+2):
  g=natV u/natV v+1/\a.us++[(t+a.c)%4294967296]=bf (n+3) (natV u%natV v):=by
 have hv:=m.val;rw[hi,List.take_of_length_le (by rw[h.nv];exact ac _)]at hv;have hU:=aZ h.hu2;rw[List.take_of_length_le (by rw[h.nu];exact ac _)]at hU;have hml:m.us.length=n+2:=by rw[m.len,hi]
 have hbu:=h.bu2;have hmc:=m.hc;have hmb:=m.hb;have hav:=a.val;have e0:(m.us++[t]).take (n+2)=m.us:=by rw[List.take_append_of_le_length (by omega),List.take_of_length_le (by omega)]
 rw[hai,e0,List.take_of_length_le (by rw[h.nv];exact ac _)]at hav;have hW:=eL a.lmb;rw[a.len,hai]at hW;have e:natV m.us+t*4294967296^(n+2)+g*natV v=natV u+4294967296*4294967296^(n+2):=by
  rw[hU];have:t*4294967296^(n+2)+(m.c+m.b)*4294967296^(n+2)=(u2+4294967296)*4294967296^(n+2):=by
   rw[<- Nat.add_mul,ht,Nat.sub_add_cancel (by omega)]
  rw[Nat.add_mul u2]at this;omega
 have hlt:natV u<g*natV v:=by
  have h1:=eL m.lmb;rw[hml]at h1;have h2:(u2+1)*4294967296^(n+2)<=(m.c+m.b)*4294967296^(n+2):=Nat.mul_le_mul_right _ (by omega);rw[Nat.add_mul u2 1,Nat.one_mul]at h2;omega
 obtain⟨q1,q2,q3⟩:=EG (T:=natV m.us) (t:=t) (c:=a.c) (W:=natV a.us) (Bn:=4294967296^(n+2)) rfl hle e hlt h.vpos h.vlt hW rfl hav a.hc (by omega);refine⟨q1,tT (jI a.lmb (Nat.mod_lt _ (by omega))) (by simp[a.len,hai]) ?_⟩;rw[j9,q2,q3];simp
end
end
section
theorem jO: ∀(k n x:Nat),bf (k+n) x=bf k x++bf n (x/4294967296^k)
 |0,n,x=>by simp[bf]
 |k+1,n,x=>by
  rw[show k+1+n=(k+n)+1 by omega,bf,jO k n,bf,Nat.div_div_eq_div_mul,Nat.pow_succ,Nat.mul_comm 4294967296];rfl
theorem pr: ∀(k x:Nat),bf k (x%4294967296^k)=bf k x
 |0,x=>rfl
 |k+1,x=>by
  rw[bf,bf,Nat.pow_succ,Nat.mul_comm (4294967296^k),Nat.mod_mul_right_mod,Nat.mod_mul_right_div_self,pr k]
theorem lU (k n x y:Nat) (hx:x<4294967296^k):bf (k+n) (y*4294967296^k+x)=bf k x++bf n y:=by
 have hp:0<4294967296^k:=Nat.pow_pos (by omega);rw[jO,<- pr k (y*4294967296^k+x),Nat.mul_comm y,Nat.mul_add_mod,Nat.mod_eq_of_lt hx,Nat.mul_add_div hp,Nat.div_eq_of_lt hx,Nat.add_zero]
theorem rj: ∀n,bf n 0=ae n 0
 |0=>rfl
 |n+1=>by rw[bf,Nat.zero_mod,Nat.zero_div,rj n];rfl
def dr (A V k:Nat):Nat:=A%(V*4294967296^k)
def iI (A V k:Nat):Nat:=A/(V*4294967296^k)*4294967296^k
section
variable {A V k:Nat} (hV:0<V)
include hV
theorem CH : dr A V (k + 1) / 4294967296 ^ k < V * 4294967296 := by
  have hp : 0 < 4294967296 ^ k := Nat.pow_pos (by omega);rw [Nat.div_lt_iff_lt_mul hp];have := Nat.mod_lt A (show 0 < V * 4294967296 ^ (k + 1) from Nat.mul_pos hV (Nat.pow_pos (by omega)));rw [Nat.pow_succ] at this;unfold dr;rw [Nat.pow_succ]
  calc _ < V * (4294967296 ^ k * 4294967296) := this
    _ = _ := by grind
omit hV in
theorem CJ:dr A V k=dr A V (k+1)/4294967296^k%V*4294967296^k+dr A V (k+1)%4294967296^k:=by
 unfold dr;have e:V*4294967296^(k+1)=V*4294967296^k*4294967296:=by rw[Nat.pow_succ];grind
 have h1:A%(V*4294967296^k)=A%(V*4294967296^(k+1))%(V*4294967296^k):=by rw[e,Nat.mod_mul_right_mod]
 rw[h1];generalize A%(V*4294967296^(k+1))=x;rw[Nat.mul_comm V,Nat.mod_mul];generalize 4294967296^k=p;rw[Nat.add_comm,Nat.mul_comm p]
theorem CC:iI A V k=iI A V (k+1)+dr A V (k+1)/4294967296^k/V*4294967296^k:=by
 unfold iI dr;have hp:0<4294967296^k:=Nat.pow_pos (by omega);have e:V*4294967296^(k+1)=V*4294967296^k*4294967296:=by rw[Nat.pow_succ];grind
 have h1:=Nat.div_add_mod A (V*4294967296^(k+1));generalize hq:A/(V*4294967296^(k+1))=q at*
 generalize hr:A%(V*4294967296^(k+1))=r at*
 have h2:A/(V*4294967296^k)=q*4294967296+r/4294967296^k/V:=by
  rw[<- h1,e,Nat.mul_assoc (V*4294967296^k),Nat.mul_add_div (Nat.mul_pos hV hp),Nat.div_div_eq_div_mul,Nat.mul_comm (4294967296^k) V,Nat.mul_comm 4294967296]
 rw[h2,Nat.pow_succ];grind
theorem lY:dr A V (k+1)/4294967296^k/V<4294967296:=by
 rw[Nat.div_lt_iff_lt_mul hV,Nat.mul_comm];exact CH hV
end
theorem Ff {A V k m:Nat} (hV:0<V) (hk:k<m) (hb:iI A V (k+1)<4294967296^m):(bf m (iI A V (k+1))).set k (dr A V (k+1)/4294967296^k/V)=bf m (iI A V k):=by
 have hd:=lY (A:=A) (k:=k) hV;rw[CC (A:=A) (k:=k) hV];generalize dr A V (k+1)/4294967296^k/V=d at*
 obtain⟨q,hq⟩: ∃q,iI A V (k+1)=q*4294967296^(k+1):=⟨_,rfl⟩;rw[hq];obtain⟨r,rfl⟩: ∃r,m=k+(1+r):=⟨m-(k+1),by omega⟩;have e1:q*4294967296^(k+1)=(q*4294967296)*4294967296^k+0:=by rw[Nat.pow_succ];grind
 have e2:q*4294967296^(k+1)+d*4294967296^k=(q*4294967296+d)*4294967296^k+0:=by rw[Nat.pow_succ];grind
 have hp:0<4294967296^k:=Nat.pow_pos (by omega);rw[e2,lU _ _ _ _ hp,e1,lU _ _ _ _ hp,List.set_append_right _ _ (by rw[a7];exact ac _),a7,Nat.sub_self,Nat.add_comm 1 r,bf,bf,List.set_cons_zero];have a1:(q*4294967296+d)%4294967296=d:=by omega
 have a2:(q*4294967296+d)/4294967296=q*4294967296/4294967296:=by omega
 rw[a1,a2]
theorem Fm {A V k nb na:Nat} (hk:k+nb<=na):bf (na+1) (dr A V (k+1))=bf k (dr A V (k+1))++(bf (nb+1) (dr A V (k+1)/4294967296^k)++bf (na-(k+nb)) (dr A V (k+1)/4294967296^(k+nb+1))):=by
 conv=>lhs;rw[show na+1=k+((nb+1)+(na-(k+nb))) by omega]
 rw[jO,jO,Nat.div_div_eq_div_mul,<- Nat.pow_add,show k+(nb+1)=k+nb+1 by omega]
theorem CI {A V k nb na:Nat} (hV:0<V) (hVB:V<=4294967296^nb) (hk:k+nb<=na):bf k (dr A V (k+1))++(bf (nb+1) (dr A V (k+1)/4294967296^k%V)++bf (na-(k+nb)) (dr A V (k+1)/4294967296^(k+nb+1)))=bf (na+1) (dr A V k):=by
 have hp:0<4294967296^k:=Nat.pow_pos (by omega);have hz:dr A V (k+1)/4294967296^(k+nb+1)=0:=by
  apply Nat.div_eq_of_lt;have:=Nat.mod_lt A (show 0<V*4294967296^(k+1)from Nat.mul_pos hV (Nat.pow_pos (by omega)));unfold dr;refine Nat.lt_of_lt_of_le this ?_;have e:4294967296^(k+nb+1)=4294967296^nb*4294967296^(k+1):=by rw[<- Nat.pow_add];congr 1;omega
  rw[e];exact Nat.mul_le_mul_right _ hVB
 have hm:=Nat.mod_lt (dr A V (k+1)/4294967296^k) hV;rw[CJ (A:=A) (V:=V) (k:=k),hz];generalize dr A V (k+1)/4294967296^k%V=u at*
 rw[<- pr k (dr A V (k+1))];have hx:=Nat.mod_lt (dr A V (k+1)) hp;generalize dr A V (k+1)%4294967296^k=x at*
 have hu:u<4294967296^(nb+1):=by
  have:4294967296^nb<=4294967296^(nb+1):=Nat.pow_le_pow_right (by omega) (by omega);omega
 rw[show na+1=k+((nb+1)+(na-(k+nb))) by omega,lU _ _ _ _ hx]
 congr 1
 have:=lU (nb+1) (na-(k+nb)) u 0 hu;rw[Nat.zero_mul,Nat.zero_add]at this;exact this.symm
/-! The shift. -/
theorem tK: ∀(x:Nat),x≠0->x<18446744073709551616->1<=Lib.bitLen x/\2^(Lib.bitLen x-1)<=x/\x<2^Lib.bitLen x:=fun x=>by
 induction x using Nat.strongRecOn with
 |_ x ih=>
  intro h0 hx;have hh:=Lib.bitLen_half x h0 hx;by_cases h1:x/2=0
  ·have hx1:x=1:=by omega
   subst hx1;have:Lib.bitLen 1=1:=by decide
   rw[this];exact⟨by omega,by decide,by decide⟩
  obtain⟨q1,q2,q3⟩:=ih (x/2) (by omega) h1 (by omega);rw[hh];refine⟨by omega,?_,?_⟩
  ·rw[show 1+Lib.bitLen (x/2)-1=(Lib.bitLen (x/2)-1)+1 by omega,Nat.pow_succ];omega
  rw[Nat.add_comm,Nat.pow_succ];omega
def lz (x:Nat):Nat:=32-Lib.bitLen x
theorem EO {x : Nat} (h0 : x ≠ 0) (hx : x < 4294967296) : lz x < 32 /\ 2147483648 <= x * 2 ^ lz x /\ x * 2 ^ lz x < 4294967296 := by
  obtain ⟨h1, h2, h3⟩ := tK x h0 (by omega);have h4 := Lib.bitLen_le x 32 (by omega) (by simpa using hx);unfold lz;refine ⟨by omega, ?_, ?_⟩
  · calc 2147483648 = 2 ^ (Lib.bitLen x - 1) * 2 ^ (32 - Lib.bitLen x) := by
          rw [<- Nat.pow_add, show Lib.bitLen x - 1 + (32 - Lib.bitLen x) = 31 by omega]
      _ <= _ := Nat.mul_le_mul_right _ h2
  · calc x * 2 ^ (32 - Lib.bitLen x) < 2 ^ Lib.bitLen x * 2 ^ (32 - Lib.bitLen x) := Nat.mul_lt_mul_of_pos_right h3 (Nat.two_pow_pos _)
      _ = 4294967296 := by rw [<- Nat.pow_add, show Lib.bitLen x + (32 - Lib.bitLen x) = 32 by omega]
theorem FG {b n x s : Nat} (hl : (aP b).length = n + 1) (hx : (aP b)[n]? = some x) (hs : 2147483648 <= x * 2 ^ s /\ x * 2 ^ s < 4294967296) (hs32 : s < 32) :
    b * 2 ^ s < 4294967296 ^ (n + 1) /\ 2147483648 * 4294967296 ^ n <= b * 2 ^ s := by
  have h1 := aZ hx;rw [List.take_of_length_le (by omega), aQ] at h1;have h2 := dT (be b) n;have hp : 0 < 4294967296 ^ n := Nat.pow_pos (by omega);have hps := uQ hs32;constructor
  · -- b < (x + 1) B^n, and (x + 1) 2^s <= B, for x 2^s < B and 2^s divides B
    have h3 : (x + 1) * 2 ^ s <= 4294967296 := by
      have e : 4294967296 = 2 ^ (32 - s) * 2 ^ s := by rw [<- Nat.pow_add, show 32 - s + s = 32 by omega]
      rw [e] at hs ⊢;exact Nat.mul_le_mul_right _ (Nat.lt_of_mul_lt_mul_right hs.2)
    calc b * 2 ^ s < (x + 1) * 4294967296 ^ n * 2 ^ s := by
          refine Nat.mul_lt_mul_of_pos_right ?_ (Nat.two_pow_pos s);rw [h1, Nat.add_mul, Nat.one_mul]; omega
      _ = (x + 1) * 2 ^ s * 4294967296 ^ n := by grind
      _ <= 4294967296 * 4294967296 ^ n := Nat.mul_le_mul_right _ h3
      _ = 4294967296 ^ (n + 1) := by rw [Nat.pow_succ, Nat.mul_comm]
  · calc 2147483648 * 4294967296 ^ n <= x * 2 ^ s * 4294967296 ^ n := Nat.mul_le_mul_right _ hs.1
      _ = x * 4294967296 ^ n * 2 ^ s := by grind
      _ <= b * 2 ^ s := Nat.mul_le_mul_right _ (by omega)
end
theorem Hg {A V k n : Nat} (hV1 : V < 4294967296 ^ (n + 2)) (hV2 : 2147483648 * 4294967296 ^ (n + 1) <= V) : ∃ v1 v2 u2 u1 u0, qg (bf (n + 3) (dr A V (k + 1) / 4294967296 ^ k)) (bf (n + 2) V) n v1 v2 u2 u1 u0 /\ natV (bf (n + 3) (dr A V (k + 1) / 4294967296 ^ k)) = dr A V (k + 1) / 4294967296 ^ k /\ natV (bf (n + 2) V) = V := by
  have hp : 0 < 4294967296 ^ (n + 1) := Nat.pow_pos (by omega);have hV : 0 < V := by omega
  have hr := CH (A := A) (k := k) hV;have hlt : dr A V (k + 1) / 4294967296 ^ k < 4294967296 ^ (n + 3) := by
    calc _ < V * 4294967296 := hr
      _ <= 4294967296 ^ (n + 2) * 4294967296 := Nat.mul_le_mul_right _ (Nat.le_of_lt hV1)
      _ = _ := (Nat.pow_succ ..).symm
  refine ⟨_, _, _, _, _, ⟨jH _ _, jH _ _, a7 _ _, a7 _ _, dO (by omega), dO (by omega), dO (by omega), dO (by omega), dO (by omega), ?_, ?_⟩, dU hlt, dU hV1⟩
  · have h1 : V / 4294967296 ^ (n + 1) < 4294967296 := by
      rw [Nat.div_lt_iff_lt_mul hp];have : 4294967296 ^ (n + 2) = 4294967296 ^ (n + 1) * 4294967296 := Nat.pow_succ ..;omega
    rw [Nat.mod_eq_of_lt h1, Nat.le_div_iff_mul_le hp];exact hV2
  · rw [dU hlt, dU hV1]; exact hr
theorem Ae {a b s n m:Nat} (ha:a<4294967296^(n+2+m)) (hb:4294967296^(n+1)<=b):dr (a*2^s) (b*2^s) (m+1)=a*2^s/\iI (a*2^s) (b*2^s) (m+1)=0:=by
 have h1:a*2^s<b*2^s*4294967296^(m+1):=by
  have h2:4294967296^(n+2+m)<=b*4294967296^(m+1):=by
   have e:4294967296^(n+2+m)=4294967296^(n+1)*4294967296^(m+1):=by rw[<- Nat.pow_add];congr 1;omega
   rw[e];exact Nat.mul_le_mul_right _ hb
  rw[Nat.mul_right_comm];exact Nat.mul_lt_mul_of_pos_right (Nat.lt_of_lt_of_le ha h2) (Nat.two_pow_pos s)
 unfold dr iI;rw[Nat.mod_eq_of_lt h1,Nat.div_eq_of_lt h1,Nat.zero_mul];exact⟨rfl,rfl⟩
theorem Fl {a b s:Nat}:dr (a*2^s) (b*2^s) 0=a%b*2^s/\iI (a*2^s) (b*2^s) 0=a/b:=by
 unfold dr iI;rw[Nat.pow_zero,Nat.mul_one,Nat.mul_one,Nat.mul_mod_mul_right,Nat.mul_div_mul_right _ _ (Nat.two_pow_pos s)];exact⟨rfl,rfl⟩
theorem HG {A V k m:Nat} (hA:A<V*4294967296^m) (hk:k<=m):iI A V k<4294967296^m:=by
 have hp:0<4294967296^k:=Nat.pow_pos (by omega);unfold iI;have h1:A/(V*4294967296^k)<4294967296^(m-k):=by
  rw[<- Nat.div_div_eq_div_mul];apply Nat.div_lt_of_lt_mul;apply Nat.div_lt_of_lt_mul;have e:4294967296^m=4294967296^k*4294967296^(m-k):=by rw[<- Nat.pow_add];congr 1;omega
  rw[e]at hA;exact hA
 have e:4294967296^m=4294967296^(m-k)*4294967296^k:=by rw[<- Nat.pow_add];congr 1;omega
 rw[e];exact Nat.mul_lt_mul_of_pos_right h1 hp
theorem vu {b n:Nat} (h:(aP b).length=n+1): ∃x,(aP b)[n]?=some x/\x≠0/\x<4294967296/\4294967296^n<=b:=by
 obtain⟨x,hx⟩: ∃x,(aP b)[n]?=some x:=⟨(aP b)[n],by simp[h]⟩;have hc:=cE b;unfold ld at hc;rw[List.getLast?_eq_getElem?,h,Nat.add_sub_cancel,hx]at hc;have hx0:x≠0:=fun e=>hc (by rw[e])
 have h1:=aZ hx;rw[List.take_of_length_le (by omega),aQ]at h1;refine⟨x,hx,hx0,cd (be b) hx,?_⟩;rw[h1];have:1*4294967296^n<=x*4294967296^n:=Nat.mul_le_mul_right _ (by omega);omega
theorem zz {b:Nat} (h:(aP b).length=1):(aP b)[0]?=some b/\b<4294967296:=by
 obtain⟨x,hx,_,hx',_⟩:=vu (n:=0) h;have h1:=aZ hx;rw[List.take_of_length_le (by omega),aQ]at h1;simp[natV]at h1;subst h1;exact⟨hx,hx'⟩
theorem ut (a:Nat):a<4294967296^(aP a).length:=by
 have:=eL (be a);rwa[aQ]at this
theorem z8 {n m x:Nat} (h:n<=m):(bf m x).take n=bf n x:=by
 obtain⟨d,rfl⟩: ∃d,m=n+d:=⟨m-n,by omega⟩;rw[jO,List.take_left' (a7 _ _)]
end Go.Proofs.YtfgeomlagfomgaaDoor
namespace Go.Proofs
open Go.Shelf
def Tryd.lays133_ren:Go.Shelf.Ren:=⟨fun|133=>69|128=>74|n=>n,fun|51=>86|3=>3|4=>4|46=>87|5=>5|9=>9|n=>n,fun|n=>n⟩
theorem Tryd.lays133:Go.Proofs.Lays.n133 Tryd.prog Tryd.lays133_ren:={
 mixed:=by kernel_rfl
 f128:=Tryd.func74.trans (congrArg some (by kernel_rfl))
 f133:=Tryd.func69.trans (congrArg some (by kernel_rfl))
 t3:=Tryd.underlying3
 a3:=Tryd.isAgg3
 z3:=Tryd.sizeOf3
 v3:=Tryd.zeroValue3
 t4:=Tryd.underlying4
 a4:=Tryd.isAgg4
 z4:=Tryd.sizeOf4
 v4:=Tryd.zeroValue4
 t5:=Tryd.underlying5
 a5:=Tryd.isAgg5
 z5:=Tryd.sizeOf5
 v5:=Tryd.zeroValue5
 t9:=Tryd.underlying9
 a9:=Tryd.isAgg9
 z9:=Tryd.sizeOf9
 v9:=Tryd.zeroValue9
 t46:=Tryd.underlying87
 a46:=Tryd.isAgg87
 z46:=Tryd.sizeOf87
 v46:=Tryd.zeroValue87
 t51:=Tryd.underlying86
 a51:=Tryd.isAgg86
 z51:=Tryd.sizeOf86
 v51:=Tryd.zeroValue86}
end Go.Proofs
namespace Go.Proofs.YtfgeomlagfomgaaDoor
open Go.RowKit
theorem qM: ∀x:List Int,js x x=0
 |[]=>rfl
 |a::x=>by simp[js,qM x]
theorem xJ: ∀{x y:List Int},js x y=0->x=y
 |[],[],_=>rfl
 |[],_::_,h=>by simp[js]at h
 |_::_,[],h=>by simp[js]at h
 |a::x,b::y,h=>by
  unfold js at h;split at h
  ·omega
  split at h
  ·omega
  rw[xJ h,show a=b from by omega]
theorem CS (A B:Option Addr) (c d:Nat) (a b:List (List Int)) (w:World) (ha:nM .i64 w A a) (hb:nM .i64 w B b) (la:a.length<=9223372036854775807) (lb:b.length<=9223372036854775807):
  Calls Tryd.prog 9 #[.slice A a.length c,.slice B b.length d] w fun e w'=>e= .returned (.bool (decide (a=b)))/\Ext w w':=by
 have HA:=Lib.hid ha;have HB:=Lib.hid hb;clear ha hb;by_cases hl:a.length=b.length
 ·have hlb:((a.length:Int) !=(b.length:Int))=false:=by simp[hl]
  have HL:=Lib.hid hl;have hle:a.length<=b.length:=by omega
  clear hl
  go_enter Tryd.func9,Tryd.ntmps9
  go_wp2_with fail
  clear hlb
  go_loopw [13,5] (fun i _ wr=> ∃k:Nat,k<=a.length/\i= .int .i64 k/\Hid (Ext w wr)/\Hid (∀j,j<k->a[j]?=b[j]?)) (fun i _ _=>a.length-(intOf i).toNat)
  case atStart=>exact⟨0,Nat.zero_le _,rfl,Lib.hid (Ext.refl _),Lib.hid (fun j h=>by omega)⟩
  case round=>
   obtain⟨k,hk,rfl,HE,HQ⟩:=hrel;by_cases hlt:k<a.length
   ·obtain⟨x,hx⟩:=getElem?_of_lt hlt;obtain⟨y,hy⟩:=getElem?_of_lt (l:=b) (k:=k) (by omega);obtain⟨b1,o1,B1,c1,rfl,hc1,hcl1,hlx,hr1⟩:=(HA.out.ext HE.out.drew).at_ hx;obtain⟨b2,o2,B2,c2,rfl,hc2,hcl2,hly,hr2⟩:=(HB.out.ext HE.out.drew).at_ hy;have HX:=Lib.hid hx;have HY:=Lib.hid hy;have HR1:=Lib.hid hr1;have HR2:=Lib.hid hr2;have HE1:=Lib.hid HE.out.drew;have hkb:(k:Int)<(b.length:Int):=by omega
    clear hx hy hr1 hr2 HE
    go_wp2_with fail
    refine l5 8 (by kernel_rfl) (by kernel_rfl) ?_;simp only[List.take_succ_cons,List.take_zero,List.drop_succ_cons,List.drop_zero];generalize wr.drew=w3 at*
    iterate 8 still_step
    refine wpStill_nil ?_;have HC:=Lib.hid (pF B1 B2 c1 c2 x y w3 HR1.out HR2.out hlx hly);clear hc1 hc2;by_cases h0:js x y=0
    ·have h0':(js x y !=0)=false:=by simp[h0]
     have H0:=Lib.hid h0;clear h0
     go_wp2_with fail
     refine HC.out.mono ?_;rintro e w4 ⟨rfl,n,rfl⟩
     go_wp2_with fail
     go_roundw
     case rel=>
      refine⟨k+1,by omega,by go_num,Lib.hid (HE1.out.drewN n),Lib.hid (fun j hj=>?_)⟩;by_cases e:j=k
      ·subst e;rw[HX.out,HY.out,xJ H0.out]
      exact HQ.out j (by omega)
     case measure=>simp[intOf];omega
    have h0':(js x y !=0)=true:=by simp[h0]
    go_wp2_with fail
    refine HC.out.mono ?_;rintro e w4 ⟨rfl,n,rfl⟩
    go_wp2_with fail
    go_ret
    refine⟨cW (fun h=>?_),HE1.out.drewN n⟩;subst h;have h1:=HX.out;rw[HY.out]at h1;cases h1;exact h0 (qM _)
   go_wp2_with fail
   go_ret
   refine⟨sP ?_,HE.out⟩;apply List.ext_getElem?;intro j;rcases Nat.lt_or_ge j a.length with h|h
   ·exact HQ.out j (by omega)
   rw[aq h,aq (by have:=HL.out;omega)]
 have hlb:((a.length:Int) !=(b.length:Int))=true:=by simp;omega
 go_enter Tryd.func9,Tryd.ntmps9
 go_wp2_with fail
 go_ret
 exact⟨cW (fun h=>hl (by rw[h])),Ext.refl _⟩
end Go.Proofs.YtfgeomlagfomgaaDoor
