/-
  Part 11 of a proof (walks and plain facts).
-/
import Derived.Test.YtfgeomlagfomgaaGreatDoorS09
import Derived.Shelf.Small.Bits
import Derived.Ground.NamesProg
import Derived.Test.YtfgeomlagfomgaaGreatDoorProg
set_option linter.all false
set_option maxRecDepth 100000
set_option maxHeartbeats 64000000
open Nat renaming reduceAdd → aa
open Nat renaming le_refl → ac
open List renaming mem_of_getElem? → au
open List renaming getElem?_map → ay
namespace Go.Proofs.YtfgeomlagfomgaaGreatDoor
open Go.RowKit
section
section
variable {P:Program} {k:Nat} {s s':AS} {Q:Exit->AS->Prop}
theorem Az {items:List (d6 P)} (hI:gn P items) {ow:List Nat} {ops:Array Oper} (hk:iI k ops=true) {v0:Value} {w0:World} {O X:Nat->Prop} {Q:Exit->Act->World->Prop} {suf:List Nat}: ∀(l:List Oper) (n:Nat) (s s':AS) (a:Act) (w:World),(∀(j:Nat) o,l[j]?=some o->ops[n+j]?=some o)->
  iK P items ow ops (l.zipIdx n) s=some s'->kU k v0 w0 O X s a w->(∀a' w',kU k v0 w0 O X s' a' w'->wpOps P ops Q suf a' w')->wpOps P ops Q (List.range' n l.length++suf) a w
 |[],n,s,s',a,w,_,h,r,hQ=>by
  simp only[List.zipIdx_nil,iK]at h;injection h with h
  subst h;exact hQ a w r
 |o::l,n,s,s',a,w,hl,h,r,hQ=>by
  simp only[List.zipIdx_cons,iK]at h;split at h
  ·rename_i s1 hs1;simp only[List.length_cons,List.range'_succ,List.cons_append,wpOps];have ho:ops[n]?=some o:=by have:=hl 0 o rfl;simpa using this
   rw[ho];simp only;have:=Ka (Q:=Q) hI r (pI hk ho) hs1 (K:=wpOps P ops Q (List.range' (n+1) l.length++suf)) (fun v w' hr=>Az hI hk l (n+1) s1 s' _ _ (fun j o hj=>by have:=hl (j+1) o (by simpa using hj);rwa[show n+(j+1)=n+1+j by omega]at this) h hr hQ);split at this
   ·rename_i hw;rw[if_pos hw];exact .inl this
   rename_i hw;rw[if_neg hw];exact this
  cases h
structure NM (ops:Array Oper) (m:Nat) (f:FuncId) (args:List TV) (k n fa:Nat) (F:List OObj) (s:AS):Prop where
 ts:cwTs ops m s=some (f,args.set k (.one (.sl fa 0 0 n)))
 fam:s.H fa=F.map (renO fa)
def Oc (ops:Array Oper) (m:Nat) (r:TV) (fa:Nat) (F':List OObj) (s:AS):AS:=AS.put ⟨s.tmps.map (bL (kM fa)),bj s.H fa (F'.map (renO fa))⟩ (cwD ops m) r
theorem vQ (m:Nat) {f:FuncId} {args:List TV} {ka n:Nat} {F F':List OObj} {r:TV} (hcon:rp P f args ka n F F' r) (fa:Nat) (items:List (aY P)) (ow:List Nat) {id:Nat} {ops:Array Oper} (hkd:iI k ops=true) (hk:ka<args.length) (hlen:0<n) (hpure:iJ ka 0 args=true) (hself: ∀o∈F,selfO 0 o) (hself': ∀o∈F',selfO 0 o) (hfa:fa<=4999) (hl:s.tmps.length<=1000000) (hm:m<ops.toList.length)
  (h:cy P (items.map aY.a) ow (bP ops (ops.toList.take m) 0) (some s) (fun s1=>NM ops m f args ka n fa F s1/\s1.tmps.length<=1000000/\cy P (items.map aY.a) ow (bP ops (ops.toList.drop (m+1)) (m+1)) (some (Oc ops m r fa F' s1)) (Q .normal))):fc P k (.region id ops false) Q s:=fun v0 w0 O X a w r0=>by
 obtain⟨s1,h1,⟨q1,q2⟩,hl1,h2⟩:=ck P (items.map aY.a) ow ops _ 0 s _ h;obtain⟨s',h3,h4⟩:=ck P (items.map aY.a) ow ops _ (m+1) _ _ h2;obtain⟨o,ho⟩: ∃o,ops[m]?=some o:=⟨ops[m],by simp at hm;simp[hm]⟩;unfold cwTs at q1;rw[ho]at q1;simp only at q1;split at q1
 ·rename_i c hg hop1;split at q1
  ·rename_i f' hcal;split at q1
   ·rename_i ts hts;injection q1 with q1
    injection q1 with q1 q3
    subst q1 q3;refine wp_region ?_;have hsz:ops.size=(ops.toList.take m).length+(1+(ops.toList.drop (m+1)).length):=by simp at hm⊢;omega
    rw[hsz,List.range_eq_range',<- List.range'_append_1,Nat.zero_add];have hml:(ops.toList.take m).length=m:=by rw[List.length_take];omega
    refine Az (aY.ok items) hkd (ops.toList.take m) 0 s s1 a w (fun j o hj=>?_) h1 r0 fun a' w' r'=>?_
    ·rw[List.getElem?_take]at hj;split at hj
     ·simpa using hj
     cases hj
    rw[hml,Nat.add_comm 1,List.range'_succ];simp only[wpOps,ho];rw[if_pos (by simp[Region.wanted,hg])];refine .inl (IM r'.1 hop1 hcal hcon hfa hk hlen hts hpure q2 hself hself' fun v w1 hr1=>?_);refine oX (aY.ok items) hkd (Q:=fun e a' w'=> ∃s',Q e s'/\kU k v0 w0 O X s' a' w') (ops.toList.drop (m+1)) (m+1) _ s' _ _ (fun j o hj=>?_) h3 ⟨?_,?_⟩ (fun a' w' hr=>⟨s',h4,hr⟩)
    ·rw[List.getElem?_drop]at hj;simpa using hj
    ·have:cwD ops m=o.dst:=by unfold cwD;rw[ho];rfl
     unfold Oc;rw[this];exact hr1
    rw[s5 v (pI hkd ho)];exact r'.2
   cases q1
  cases q1
 cases q1
theorem Bl (m:Nat) {f:FuncId} {args:List TV} {ka n:Nat} {F F':List OObj} {r:TV} (hcon:rp P f args ka n F F' r) (fa:Nat) (items:List (aY P)) (ow:List Nat) {id:Nat} {ops:Array Oper} {y:Code} (hkd:iI k ops=true) (hk:ka<args.length) (hlen:0<n) (hpure:iJ ka 0 args=true) (hself: ∀o∈F,selfO 0 o) (hself': ∀o∈F',selfO 0 o) (hfa:fa<=4999) (hl:s.tmps.length<=1000000) (hm:m<ops.toList.length)
  (h: ∀K:AS->Prop,(∀s1,(NM ops m f args ka n fa F s1/\s1.tmps.length<=1000000/\ ∀K:AS->Prop,(∀s',fc P k y Q s'->K s')->cy P (items.map aY.a) ow (bP ops (ops.toList.drop (m+1)) (m+1)) (some (Oc ops m r fa F' s1)) K)->K s1)->cy P (items.map aY.a) ow (bP ops (ops.toList.take m) 0) (some s) K):fc P k (.seq (.region id ops false) y) Q s:=
 bY (vQ m hcon fa items ow hkd hk hlen hpure hself hself' hfa hl hm (h _ fun s1 ⟨q1,q2,q3⟩=>⟨q1,q2,q3 _ fun _ h=>h⟩))
theorem sY (m:Nat) {f:FuncId} {args:List TV} {ka n:Nat} {F F':List OObj} {r:TV} (hcon:rp P f args ka n F F' r) (fa:Nat) (items:List (aY P)) (ow:List Nat) {id:Nat} {ops:Array Oper} (hkd:iI k ops=true) (hk:ka<args.length) (hlen:0<n) (hpure:iJ ka 0 args=true) (hself: ∀o∈F,selfO 0 o) (hself': ∀o∈F',selfO 0 o) (hfa:fa<=4999) (hl:s.tmps.length<=1000000) (hm:m<ops.toList.length)
  (h: ∀K:AS->Prop,(∀s1,(NM ops m f args ka n fa F s1/\s1.tmps.length<=1000000/\ ∀K:AS->Prop,(∀s',Q .normal s'->K s')->cy P (items.map aY.a) ow (bP ops (ops.toList.drop (m+1)) (m+1)) (some (Oc ops m r fa F' s1)) K)->K s1)->cy P (items.map aY.a) ow (bP ops (ops.toList.take m) 0) (some s) K):fc P k (.region id ops false) Q s:=
 vQ m hcon fa items ow hkd hk hlen hpure hself hself' hfa hl hm (h _ fun s1 ⟨q1,q2,q3⟩=>⟨q1,q2,q3 _ fun _ h=>h⟩)
theorem G5 {c:Code} (hk:k<s.tmps.length) (h:fc P k c Q s):bs P c Q s:=fun w0 O X a w r=>by
 obtain⟨v0,hv⟩: ∃v0,a.tmps[k]?=some v0:=⟨a.tmps[k]'(by rw[r.2.1];exact hk),by simp⟩;exact wp_mono (h v0 w0 O X a w ⟨r,hv⟩) fun e a' w' ⟨s',h1,h2⟩=>⟨s',h1,h2.1⟩
end
def xt (m:Nat):AV->Prop
 | .sl _ r _ _=>r<m
 | .ptr _ r _ _=>r<m
 |_=>True
theorem EM {s:AS} (a:Nat) {F:List OObj} {o:OObj} (hH:s.H a=F++[o]) (hself: ∀q∈F,∀e∈q.elems,∀x∈e,xt F.length x):
  ca s ⟨s.tmps.map (bL fun x y=>x==a&&y==F.length),bj s.H a F⟩:=by
 rintro w0 O X act w ⟨h1,hsz,ρ,hinv,htm⟩;have htm:bZ X ρ s act w:=htm;generalize hH1:bj s.H a F=H1;have hHa:H1 a=F:=by rw[<- hH1];exact bI
 have hHn: ∀x,x≠a->H1 x=s.H x:=fun x h=>by rw[<- hH1];exact bo h
 have back: ∀(x y:Nat) q,(H1 x)[y]?=some q->(s.H x)[y]?=some q/\(x=a->y<F.length/\q∈F):=fun x y q h=>by
  by_cases hx:x=a
  ·subst hx;rw[hHa]at h;have hlt:=(List.getElem?_eq_some_iff.1 h).1;exact⟨by rw[hH,List.getElem?_append_left hlt];exact h,fun _=>⟨hlt,au h⟩⟩
  rw[hHn x hx]at h;exact⟨h,fun e=>absurd e hx⟩
 have fwd: ∀(x y:Nat) q,(s.H x)[y]?=some q-> ¬(x=a/\y=F.length)->(H1 x)[y]?=some q:=fun x y q h hne=>by
  by_cases hx:x=a
  ·subst hx;rw[hH]at h;rw[hHa];have hlt:=(List.getElem?_eq_some_iff.1 h).1;simp at hlt;rw[List.getElem?_append_left (by have:y≠F.length:=fun e=>hne ⟨rfl,e⟩;omega)]at h;exact h
  rw[hHn x hx];exact h
 have hXo: ∀c,Xo X ρ H1 c->Xo X ρ s.H c:=fun c hc=>by
  rcases hc with hc|⟨x,y,q,n,g1,g2⟩
  ·exact .inl hc
  exact .inr ⟨x,y,q,n,(back x y q g1).1,g2⟩
 have hav: ∀x v,AV.rel ρ s.H (Xo X ρ s.H) w x v->AV.rel ρ H1 (Xo X ρ H1) w (bH (fun x y=>x==a&&y==F.length) x) v:=fun x v h=>by
  cases x with
  |p x=>exact cu.weaken (fun c _ hc=>hXo c hc) h
  |junk=>trivial
  |sl x y off len=>
   simp only[bH];by_cases hc:x=a/\y=F.length
   ·rw[if_pos (by simp[hc])];trivial
   rw[if_neg (by simpa using hc)];obtain⟨q,g1,g2⟩:=h;exact⟨q,fwd x y q g1 hc,g2⟩
  |ptr x y i j=>
   simp only[bH];by_cases hc:x=a/\y=F.length
   ·rw[if_pos (by simp[hc])];trivial
   rw[if_neg (by simpa using hc)];obtain⟨q,b,c,g1,g2⟩:=h;exact⟨q,b,c,fwd x y q g1 hc,g2⟩
 refine⟨h1,by simpa using hsz,ρ,⟨hinv.keep,fun x y q hq=>?_,fun x y x' y' q q' c n n' hq hq'=>hinv.inj x y x' y' q q' c n n' (back x y q hq).1 (back x' y' q' hq').1,fun x y q c n hq=>hinv.old x y q c n (back x y q hq).1,hinv.bar,fun x y q hq=>hinv.self x y q (back x y q hq).1⟩,fun t x hx=>?_⟩
 ·obtain⟨hb1,hb2⟩:=back x y q hq;obtain⟨q1,q2,q3⟩:=hinv.objs x y q hb1;refine⟨q1,q2,?_⟩;cases hr:ρ x y with
  |none=>rw[hr]at q3;exact q3
  |some bc=>
   obtain⟨b',c⟩:=bc;rw[hr]at q3;obtain⟨cells,p1,p2,p3,p4,p5⟩:=q3;refine⟨cells,p1,p2,p3,p4,fun i e j z he hz=>?_⟩;obtain⟨u,u1,u2,u3⟩:=p5 i e j z he hz;refine⟨u,u1,u2,?_⟩;have hs:=hinv.self x y q hb1 e (au he) z (au hz);have hk:=hav z u u3;have hlt:x=a->xt F.length z:=fun hx=>hself q (hb2 hx).2 e (au he) z (au hz)
   cases z with
   |p z=>exact hk
   |junk=>trivial
   |sl z r off len=>
    have hs:z=x:=hs;subst hs;rw[show bH (fun x y=>x==a&&y==F.length) (.sl z r off len)= .sl z r off len from if_neg (by
     simp only[Bool.and_eq_true,beq_iff_eq];rintro⟨e1,e2⟩;have hl:r<F.length:=hlt e1;omega)]at hk
    exact hk
   |ptr z r i' j'=>
    have hs:z=x:=hs;subst hs;rw[show bH (fun x y=>x==a&&y==F.length) (.ptr z r i' j')= .ptr z r i' j' from if_neg (by
     simp only[Bool.and_eq_true,beq_iff_eq];rintro⟨e1,e2⟩;have hl:r<F.length:=hlt e1;omega)]at hk
    exact hk
 simp only[ay]at hx;obtain⟨y,hy,rfl⟩:=Option.map_eq_some_iff.1 hx;obtain⟨v,v1,v2⟩:=htm t y hy;exact⟨v,v1,oM v2 hav⟩
end
section
structure No (P:Program) (b:Nat) (ty:TypeId) (cs:List PV) where
 i:Nat
 f:FuncId
 args:List TV
 res:CallRes
 h:CallT P b ty f args cs res cs
 ok:lentOk args res cs=true
def No.a {P:Program} {b:Nat} {ty:TypeId} {cs:List PV} (it:No P b ty cs):d6 P:=⟨it.i,it.f,it.args,it.res⟩
section
variable {P:Program} {b:Nat} {ty:TypeId} {cs:List PV} {Q:Exit->AS->List PV->Prop} {s:AS}
end
end
section
def xc (b:Nat) (_ty:TypeId) (cs:List PV) (w:World):Prop:=
 b<w.heap.size/\ ∀(j:Nat) x,cs[j]?=some x-> ∃v:Value,x= .raw v/\w.cell? ⟨b,j,none⟩=some v/\v.oneCell'=true
theorem xc.lt {b:Nat} {ty:TypeId} {cs:List PV} {w:World} (h:xc b ty cs w):b<w.heap.size:=h.1
def oy (b:Nat) (ty:TypeId) (w0:World) (O X:Nat->Prop) (s:AS) (cs:List PV) (a:Act) (w:World):Prop:=gp w0 O X s a w/\xc b ty cs w0/\ ¬O b
theorem oy.box {b:Nat} {ty:TypeId} {w0 w:World} {O X:Nat->Prop} {s:AS} {cs:List PV} {a:Act} (h:oy b ty w0 O X s cs a w):xc b ty cs w:=by
 obtain⟨⟨_,_,ρ,hinv,_⟩,hb,hO⟩:=h;have hlt:=hb.lt;refine⟨Nat.lt_of_lt_of_le hlt hinv.keep.size,fun j x hx=>?_⟩;obtain⟨v,h1,h2,h3⟩:=hb.2 j x hx;exact⟨v,h1,by rw[ns (hinv.keep.block b hlt hO)];exact h2,h3⟩
section
variable {P:Program} {b:Nat} {ty:TypeId} {cs cs':List PV} {s s':AS} {w0 w:World} {O X:Nat->Prop} {a:Act}
def dy (P:Program) (b:Nat) (ty:TypeId) (c:Code) (Q:Exit->AS->List PV->Prop) (s:AS) (cs:List PV):Prop:=
 ∀(w0:World) (O X:Nat->Prop) (a:Act) (w:World),oy b ty w0 O X s cs a w->c.wp P (fun e a' w'=> ∃s' cs',Q e s' cs'/\oy b ty w0 O X s' cs' a' w') a w
variable {Q:Exit->AS->List PV->Prop}
theorem k9 {c:Code} (h:bs P c (fun e s'=>Q e s' cs) s):dy P b ty c Q s cs:=fun w0 O X a w r=>
 wp_mono (h _ _ _ _ _ r.1) fun e a' w' ⟨s',g1,g2⟩=>⟨s',cs,g1,g2,r.2⟩
theorem oy.weak (h:ca s s') (r:oy b ty w0 O X s cs a w):oy b ty w0 O X s' cs a w:=⟨h _ _ _ _ _ r.1,r.2⟩
theorem dy.weak {c:Code} (h:ca s s') (k:dy P b ty c Q s' cs):dy P b ty c Q s cs:=fun _ _ _ _ _ r=>k _ _ _ _ _ (r.weak h)
theorem dy.mono {c:Code} {Q':Exit->AS->List PV->Prop} (h:dy P b ty c Q s cs) (k: ∀e s' cs',Q e s' cs'->Q' e s' cs'):dy P b ty c Q' s cs:=fun _ _ _ _ _ r=>
 wp_mono (h _ _ _ _ _ r) fun _ _ _ ⟨s',cs',h1,h2⟩=>⟨s',cs',k _ _ _ h1,h2⟩
theorem dC (h:Q .normal s cs):dy P b ty .skip Q s cs:=fun _ _ _ _ _ r=>wp_skip ⟨s,cs,h,r⟩
theorem y5 {id:Nat} (h:Q (.exit id) s cs):dy P b ty (.exit id) Q s cs:=fun _ _ _ _ _ r=>wp_exit ⟨s,cs,h,r⟩
theorem cz (h:Q .ret s cs):dy P b ty .ret Q s cs:=fun _ _ _ _ _ r=>wp_ret ⟨s,cs,h,r⟩
theorem bx {x y:Code} (h:dy P b ty x (rQ (dy P b ty y Q) Q) s cs):dy P b ty (.seq x y) Q s cs:=fun _ _ _ _ _ r=>
 wp_seq (wp_mono (h _ _ _ _ _ r) fun e a w ⟨s',cs',h1,h2⟩=>by
  cases e with
  |normal=>exact h1 _ _ _ _ _ h2
  |_=>exact⟨s',cs',h1,h2⟩)
theorem bU {id:Nat} {x:Code} (h:dy P b ty x (qA id Q) s cs):dy P b ty (.block id x) Q s cs:=fun _ _ _ _ _ r=>
 wp_block (wp_mono (h _ _ _ _ _ r) fun e a w ⟨s',cs',h1,h2⟩=>by
  cases e with
  |exit id'=>
   simp only[qA]at h1;simp only[Exit.inBlock];split at h1
   ·rename_i hid;rw[if_pos hid];exact⟨s',cs',h1,h2⟩
   rename_i hid;rw[if_neg hid];exact⟨s',cs',h1,h2⟩
  |_=>exact⟨s',cs',h1,h2⟩)
theorem y4 {c:Operand} {x y:Code} {v:Bool} (hc:s.ev c=some (.raw (.bool v))) (ht:v=true->dy P b ty x Q s cs) (hf:v=false->dy P b ty y Q s cs):dy P b ty (.cond c x y) Q s cs:=fun _ _ _ _ _ r=>by
 obtain⟨⟨h1,hsz,ρ,hinv,htm⟩,_⟩:=id r;have hb:=(cf (dc htm c _ hc)).1;exact wp_cond_split hb (fun h=>ht h _ _ _ _ _ r) (fun h=>hf h _ _ _ _ _ r)
theorem dJ {c:Operand} {x y:Code} (hc:s.ev c=some (.raw (.bool true))) (h:dy P b ty x Q s cs):dy P b ty (.cond c x y) Q s cs:=y4 hc (fun _=>h) (fun h=>by cases h)
theorem dp {c:Operand} {x y:Code} (hc:s.ev c=some (.raw (.bool false))) (h:dy P b ty y Q s cs):dy P b ty (.cond c x y) Q s cs:=y4 hc (fun h=>by cases h) (fun _=>h)
theorem fB {c:Operand} {y z:Code} (hc:s.ev c=some (.raw (.bool true))) (h:dy P b ty z Q s cs):dy P b ty (.seq (.cond c .skip y) z) Q s cs:=bx (dJ hc (dC h))
theorem iM {c:Operand} {x z:Code} {id:Nat} (hc:s.ev c=some (.raw (.bool false))) (h:Q (.exit id) s cs):dy P b ty (.seq (.cond c x (.exit id)) z) Q s cs:=bx (dp hc (y5 h))
theorem G6 {G:Type} (St:G->AS) (Sc:G->List PV) (μ:G->Nat) (g0:G) {c:Code} (h0:ca s (St g0)) (h0':Sc g0=cs)
  (round: ∀g,dy P b ty c (rQ (fun s' cs'=> ∃g',μ g'<μ g/\ca s' (St g')/\Sc g'=cs') Q) (St g) (Sc g)):dy P b ty (.loop c) Q s cs:=fun w0 O X a w r=>by
 classical
 subst h0'
 let p:Act->World->Nat->Prop:=fun a w n=> ∃g,μ g=n/\oy b ty w0 O X (St g) (Sc g) a w
 let m:Act->World->Nat:=fun a w=>if h: ∃n,p a w n then Classical.choose (bS h)else 0
 refine wp_loop (fun a w=> ∃n,p a w n) m ⟨_,g0,rfl,r.weak h0⟩ ?_;intro a w hI;have hm:m a w=Classical.choose (bS hI):=dif_pos hI;obtain⟨hp,hleast⟩:=Classical.choose_spec (bS hI);rw[<- hm]at hp;obtain⟨g,hg,hr⟩:=hp;refine wp_mono (round g _ _ _ _ _ hr) fun e a' w' ⟨s',cs',h1,h2⟩=>?_
 cases e with
 |normal=>
  obtain⟨g',hlt,hw,hcs⟩:=h1;subst hcs;have hr':=h2.weak hw;have hI': ∃n,p a' w' n:=⟨_,g',rfl,hr'⟩;refine⟨hI',?_⟩;have hm':m a' w'=Classical.choose (bS hI'):=dif_pos hI';obtain⟨_,hl'⟩:=Classical.choose_spec (bS hI');have:=hl' (μ g') ⟨g',rfl,hr'⟩;rw[hm'];omega
 |_=>exact⟨s',cs',h1,h2⟩
theorem d8 {G:Type} (St:G->AS) (Sc:G->List PV) (μ:G->Nat) (g0:G) {id:Nat} {x:Code} (h0:ca s (St g0)) (h0':Sc g0=cs)
  (round: ∀g,dy P b ty x (rQ (fun s' cs'=> ∃g',μ g'<μ g/\ca s' (St g')/\Sc g'=cs') (qA id Q)) (St g) (Sc g)):dy P b ty (.block id (.loop x)) Q s cs:=
 bU (G6 St Sc μ g0 h0 h0' round)
/-! Regions. -/
theorem cX {y:Code} (items:List (aY P)) (ow:List Nat) {id:Nat} {ops:Array Oper} (h: ∀K:AS->Prop,(∀s',dy P b ty y Q s' cs->K s')->cy P (items.map aY.a) ow (bP ops ops.toList 0) (some s) K):dy P b ty (.seq (.region id ops false) y) Q s cs:=
 bx (k9 (ng items ow (h _ fun _ h=>h)))
theorem sW (items:List (aY P)) (ow:List Nat) {id:Nat} {ops:Array Oper} (h: ∀K:AS->Prop,(∀s',Q .normal s' cs->K s')->cy P (items.map aY.a) ow (bP ops ops.toList 0) (some s) K):dy P b ty (.region id ops false) Q s cs:=
 k9 (ng items ow (h _ fun _ h=>h))
theorem ni (hm:P.follows .mixedOrders=true) (items:List (aY P)) (ow:List Nat) {id:Nat} {y:Code} {ops:Array Oper} (hd:dA [] ops=true) (h: ∀K:AS->Prop,(∀s',dy P b ty y Q s' cs->K s')->cy P (items.map aY.a) ow (bP ops ops.toList 0) (some s) K):dy P b ty (.seq (.region id ops true) y) Q s cs:=
 bx (k9 (i7 hm items ow hd (by simp) (fun x hx=>by simp at hx) (h _ fun _ h=>h)))
theorem ES (hm:P.follows .mixedOrders=true) (items:List (aY P)) (ow:List Nat) {id:Nat} {ops:Array Oper} (hd:dA [] ops=true) (h: ∀K:AS->Prop,(∀s',Q .normal s' cs->K s')->cy P (items.map aY.a) ow (bP ops ops.toList 0) (some s) K):dy P b ty (.region id ops true) Q s cs:=
 k9 (i7 hm items ow hd (by simp) (fun x hx=>by simp at hx) (h _ fun _ h=>h))
theorem aN {y:Code} {id:Nat} {ops:Array Oper} (h: ∀K:AS->Prop,(∀s',dy P b ty y Q s' cs->K s')->cy P [] [] (bP ops ops.toList 0) (some s) K):dy P b ty (.seq (.region id ops false) y) Q s cs:=cX [] [] h
theorem b9 {id:Nat} {ops:Array Oper} (h: ∀K:AS->Prop,(∀s',Q .normal s' cs->K s')->cy P [] [] (bP ops ops.toList 0) (some s) K):dy P b ty (.region id ops false) Q s cs:=sW [] [] h
theorem ld (hm:P.follows .mixedOrders=true) {y:Code} {id:Nat} {ops:Array Oper} (hd:dA [] ops=true) (h: ∀K:AS->Prop,(∀s',dy P b ty y Q s' cs->K s')->cy P [] [] (bP ops ops.toList 0) (some s) K):dy P b ty (.seq (.region id ops true) y) Q s cs:=ni hm [] [] hd h
theorem kZ (hm:P.follows .mixedOrders=true) {id:Nat} {ops:Array Oper} (hd:dA [] ops=true) (h: ∀K:AS->Prop,(∀s',Q .normal s' cs->K s')->cy P [] [] (bP ops ops.toList 0) (some s) K):dy P b ty (.region id ops true) Q s cs:=ES hm [] [] hd h
def CallG (P:Program) (b:Nat) (ty:TypeId) (f:FuncId) (args:List TV) (cs:List PV) (res:CallRes):Prop:=callable P f=true/\ ∀w,xc b ty cs w->Bb P f args res w
theorem cY {f:FuncId} {fn:Func} {c:Code} {args:List TV} {res:CallRes} (hf:P.funcs[f]?=some fn) (hb:fn.body=some c) (hn:callable P f=true)
  (h:dy P b ty c (fun e s k=>(e= .normal\/e= .ret)/\k=cs/\ ∃s',ca s s'/\ol P fn res s') ⟨args++List.replicate (fn.ntmps-args.length) .undef,fun _=>[]⟩ cs):CallG P b ty f args cs res:=
 ⟨hn,fun w hw=>tb (xc b ty cs) hf hb hn (fun w0 X a hG r=>wp_mono (h w0 _ X a w0 ⟨r,hG,fun h=>h⟩) fun e a' w' ⟨s',k,⟨g1,_,g2⟩,g3⟩=>⟨s',⟨g1,g2⟩,g3.1⟩) w hw⟩
end
structure di (P:Program) (b:Nat) (ty:TypeId) (cs:List PV) where
 i:Nat
 f:FuncId
 args:List TV
 res:CallRes
 h:CallG P b ty f args cs res
 ok:cs=cs
def di.a {P:Program} {b:Nat} {ty:TypeId} {cs:List PV} (it:di P b ty cs):d6 P:=⟨it.i,it.f,it.args,it.res⟩
section
variable {P:Program} {b:Nat} {ty:TypeId} {cs cs':List PV} {s s':AS} {w0 w:World} {O X:Nat->Prop} {a:Act} {Q:Exit->AS->List PV->Prop}
theorem Fx (items:List (aY P)) (lents:List (di P b ty cs)) (hw:xc b ty cs w):kT P (items.map aY.a++lents.map di.a) w:=fun it hit=>by
 rcases List.mem_append.1 hit with h|h
 ·exact(aY.ok items).at w it h
 obtain⟨x,_,rfl⟩:=List.mem_map.1 h;exact x.h.2 w hw
theorem O1 (items:List (aY P)) (lents:List (di P b ty cs)) {ow:List Nat} {ops:Array Oper} {i:Nat} {o:Oper} {s1:AS} (hrel:oy b ty w0 O X s cs a w) (h:ci P (items.map aY.a++lents.map di.a) ow ops i o s=some s1) {K:Act->World->Prop} {Q:Exit->Act->World->Prop}
  (hK: ∀v w',oy b ty w0 O X s1 cs (a.put o.dst v) w'->K (a.put o.dst v) w'):if Region.wanted o (yielded ops a.tmps)then o.wp P a w K Q else K (a.put o.dst undef) w:=
 ry (Fx items lents hrel.box) hrel.1 h fun v w' hr=>hK v w' ⟨hr,hrel.2⟩
theorem JI (items:List (aY P)) (lents:List (di P b ty cs)) {ow:List Nat} {ops:Array Oper} {Q:Exit->Act->World->Prop}:
  ∀(l:List Oper) (k:Nat) (s s':AS) (a:Act) (w:World),(∀(j:Nat) o,l[j]?=some o->ops[k+j]?=some o)->iK P (items.map aY.a++lents.map di.a) ow ops (l.zipIdx k) s=some s'->oy b ty w0 O X s cs a w->
   (∀a' w',oy b ty w0 O X s' cs a' w'->Q .normal a' w')->wpOps P ops Q (List.range' k l.length) a w
 |[],k,s,s',a,w,_,h,r,hQ=>by
  simp only[List.zipIdx_nil,iK]at h;injection h with h
  subst h;exact hQ a w r
 |o::l,k,s,s',a,w,hl,h,r,hQ=>by
  simp only[List.zipIdx_cons,iK]at h;split at h
  ·rename_i s1 hs1;simp only[List.length_cons,List.range'_succ,wpOps];have ho:ops[k]?=some o:=by have:=hl 0 o rfl;simpa using this
   rw[ho];simp only;have:=O1 (Q:=Q) items lents r hs1 (K:=wpOps P ops Q (List.range' (k+1) l.length)) (fun v w' hr=>JI items lents l (k+1) s1 s' _ _ (fun j o hj=>by have:=hl (j+1) o (by simpa using hj);rwa[show k+(j+1)=k+1+j by omega]at this) h hr hQ);split at this
   ·rename_i hw;rw[if_pos hw];exact .inl this
   rename_i hw;rw[if_neg hw];exact this
  cases h
theorem ET (lents:List (di P b ty cs)) (items:List (aY P)) (ow:List Nat) {id:Nat} {ops:Array Oper}
  (h:cy P (items.map aY.a++lents.map di.a) ow (bP ops ops.toList 0) (some s) (fun s'=>Q .normal s' cs)):dy P b ty (.region id ops false) Q s cs:=fun w0 O X a w r=>by
 obtain⟨s',h1,h2⟩:=ck P _ ow ops ops.toList 0 s _ h;refine wp_region ?_;rw[List.range_eq_range'];have:=JI (w0:=w0) (O:=O) (X:=X) items lents (Q:=fun e a' w'=> ∃s' k,Q e s' k/\oy b ty w0 O X s' k a' w') ops.toList 0 s s' a w (fun j o hj=>by simpa using hj) h1 r (fun a' w' hr=>⟨s',cs,h2,hr⟩);simpa using this
theorem bN (lents:List (di P b ty cs)) (items:List (aY P)) (ow:List Nat) {id:Nat} {ops:Array Oper} {y:Code}
  (h: ∀K:AS->Prop,(∀s',dy P b ty y Q s' cs->K s')->cy P (items.map aY.a++lents.map di.a) ow (bP ops ops.toList 0) (some s) K):dy P b ty (.seq (.region id ops false) y) Q s cs:=
 bx (ET lents items ow (h _ fun _ h=>h))
theorem G7 (m j d:Nat) (T:TV) (items:List (aY P)) (ow:List Nat) {id:Nat} {ops:Array Oper} (hl:s.tmps.length<=1000000) (hm:m<ops.toList.length)
  (h:cy P (items.map aY.a) ow (bP ops (ops.toList.take m) 0) (some s) (fun s1=>PB P b cs ops m j d T s1/\s1.tmps.length<=1000000/\cy P (items.map aY.a) ow (bP ops (ops.toList.drop (m+1)) (m+1)) (some (s1.put (some d) T)) (fun s'=>Q .normal s' cs))):dy P b ty (.region id ops false) Q s cs:=fun w0 O X a w r0=>by
 obtain⟨s1,h1,⟨⟨t,x,o,ho,hop,hdst,hg,hx,hT⟩⟩,hl1,h2⟩:=ck P (items.map aY.a) ow ops _ 0 s _ h;obtain⟨s',h3,h4⟩:=ck P (items.map aY.a) ow ops _ (m+1) _ _ h2;refine wp_region ?_;have hsz:ops.size=(ops.toList.take m).length+(1+(ops.toList.drop (m+1)).length):=by simp at hm⊢;omega
 rw[hsz,List.range_eq_range',<- List.range'_append_1,Nat.zero_add];have hml:(ops.toList.take m).length=m:=by rw[List.length_take];omega
 refine kO (aY.ok items) (ops.toList.take m) 0 s s1 a w (fun j o hj=>?_) h1 r0.1 fun a' w' r'=>?_
 ·rw[List.getElem?_take]at hj;split at hj
  ·simpa using hj
  cases hj
 rw[hml,Nat.add_comm 1,List.range'_succ];simp only[wpOps,ho];rw[if_pos (by simp[Region.wanted,hg])];refine .inl ?_;have rG:oy b ty w0 O X s1 cs a' w':=⟨r',r0.2⟩;have p6:=rG.box.2;obtain⟨k1,k2,ρ,hinv,htm⟩:=r';have htm:bZ X ρ s1 a' w':=htm;have hv:=(cf (dc htm x _ hx)).1;have hcs:lk ρ s1.H (Xo X ρ s1.H) w' b j ((cs.drop j).map AV.p):=fun i y hy=>by
  rw[ay]at hy;obtain⟨z,hz,rfl⟩:=Option.map_eq_some_iff.1 hy;rw[List.getElem?_drop]at hz;obtain⟨v,rfl,v1,v2⟩:=p6 _ z hz;exact⟨v,v1,v2,cu.raw _ v2⟩
 obtain⟨v,g1,g2⟩:=lK hT hcs;have hrun:(execOp a'.eval o).run P w'= .ok (.value v) w':=by
  unfold execOp;rw[hop];refine dZ ?_;rw[hv];exact g1
 unfold Oper.wp;rw[hrun];simp only[Oper.upon];rw[hdst];refine gG (aY.ok items) (Q:=fun e a' w'=> ∃s' cs',Q e s' cs'/\oy b ty w0 O X s' cs' a' w') (ops.toList.drop (m+1)) (m+1) _ s' _ _ (fun j o hj=>?_) h3 (gS k1 k2 hinv htm g2) (fun a' w' hr=>⟨s',cs,h4,hr,r0.2⟩);rw[List.getElem?_drop]at hj;simpa using hj
theorem EU (m j d:Nat) (T:TV) (items:List (aY P)) (ow:List Nat) {id:Nat} {ops:Array Oper} {y:Code} (hl:s.tmps.length<=1000000) (hm:m<ops.toList.length)
  (h: ∀K:AS->Prop,(∀s1,(PB P b cs ops m j d T s1/\s1.tmps.length<=1000000/\ ∀K:AS->Prop,(∀s',dy P b ty y Q s' cs->K s')->cy P (items.map aY.a) ow (bP ops (ops.toList.drop (m+1)) (m+1)) (some (s1.put (some d) T)) K)->K s1)->cy P (items.map aY.a) ow (bP ops (ops.toList.take m) 0) (some s) K):dy P b ty (.seq (.region id ops false) y) Q s cs:=
 bx (G7 m j d T items ow hl hm (h _ fun s1 ⟨q1,q2,q3⟩=>⟨q1,q2,q3 _ fun _ h=>h⟩))
end
end
end Go.Proofs.YtfgeomlagfomgaaGreatDoor
namespace Go.Proofs
open Go.Shelf
def Tryz.lays133_ren:Go.Shelf.Ren:=⟨fun|133=>178|128=>182|n=>n,fun|51=>79|3=>3|4=>4|46=>80|5=>5|9=>9|n=>n,fun|n=>n⟩
theorem Tryz.lays133:Go.Proofs.Lays.n133 Tryz.prog Tryz.lays133_ren:={
 mixed:=by kernel_rfl
 f128:=Tryz.func182.trans (congrArg some (by kernel_rfl))
 f133:=Tryz.func178.trans (congrArg some (by kernel_rfl))
 t3:=Tryz.underlying3
 a3:=Tryz.isAgg3
 z3:=Tryz.sizeOf3
 v3:=Tryz.zeroValue3
 t4:=Tryz.underlying4
 a4:=Tryz.isAgg4
 z4:=Tryz.sizeOf4
 v4:=Tryz.zeroValue4
 t5:=Tryz.underlying5
 a5:=Tryz.isAgg5
 z5:=Tryz.sizeOf5
 v5:=Tryz.zeroValue5
 t9:=Tryz.underlying9
 a9:=Tryz.isAgg9
 z9:=Tryz.sizeOf9
 v9:=Tryz.zeroValue9
 t46:=Tryz.underlying80
 a46:=Tryz.isAgg80
 z46:=Tryz.sizeOf80
 v46:=Tryz.zeroValue80
 t51:=Tryz.underlying79
 a51:=Tryz.isAgg79
 z51:=Tryz.sizeOf79
 v51:=Tryz.zeroValue79}
end Go.Proofs
namespace Go.Proofs.YtfgeomlagfomgaaGreatDoor
open Go.RowKit
theorem wa: ∀x:List Int,mj x x=0
 |[]=>rfl
 |a::x=>by simp[mj,wa x]
theorem Ds: ∀{x y:List Int},mj x y=0->x=y
 |[],[],_=>rfl
 |[],_::_,h=>by simp[mj]at h
 |_::_,[],h=>by simp[mj]at h
 |a::x,b::y,h=>by
  unfold mj at h;split at h
  ·omega
  split at h
  ·omega
  rw[Ds h,show a=b from by omega]
theorem JO (A B:Option Addr) (c d:Nat) (a b:List (List Int)) (w:World) (ha:qv .i64 w A a) (hb:qv .i64 w B b) (la:a.length<=9223372036854775807) (lb:b.length<=9223372036854775807):
  Calls Tryz.prog 28 #[.slice A a.length c,.slice B b.length d] w fun e w'=>e= .returned (.bool (decide (a=b)))/\Ext w w':=by
 have HA:=Lib.hid ha;have HB:=Lib.hid hb;clear ha hb;by_cases hl:a.length=b.length
 ·have hlb:((a.length:Int) !=(b.length:Int))=false:=by simp[hl]
  have HL:=Lib.hid hl;have hle:a.length<=b.length:=by omega
  clear hl
  go_enter Tryz.func28,Tryz.ntmps28
  go_wp2_with fail
  clear hlb
  go_loopw [13,5] (fun i _ wr=> ∃k:Nat,k<=a.length/\i= .int .i64 k/\Hid (Ext w wr)/\Hid (∀j,j<k->a[j]?=b[j]?)) (fun i _ _=>a.length-(intOf i).toNat)
  case atStart=>exact⟨0,Nat.zero_le _,rfl,Lib.hid (Ext.refl _),Lib.hid (fun j h=>by omega)⟩
  case round=>
   obtain⟨k,hk,rfl,HE,HQ⟩:=hrel;by_cases hlt:k<a.length
   ·obtain⟨x,hx⟩:=getElem?_of_lt hlt;obtain⟨y,hy⟩:=getElem?_of_lt (l:=b) (k:=k) (by omega);obtain⟨b1,o1,B1,c1,rfl,hc1,hcl1,hlx,hr1⟩:=(HA.out.ext HE.out.drew).at_ hx;obtain⟨b2,o2,B2,c2,rfl,hc2,hcl2,hly,hr2⟩:=(HB.out.ext HE.out.drew).at_ hy;have HX:=Lib.hid hx;have HY:=Lib.hid hy;have HR1:=Lib.hid hr1;have HR2:=Lib.hid hr2;have HE1:=Lib.hid HE.out.drew;have hkb:(k:Int)<(b.length:Int):=by omega
    clear hx hy hr1 hr2 HE
    go_wp2_with fail
    refine pU 8 (by kernel_rfl) (by kernel_rfl) ?_;simp only[List.take_succ_cons,List.take_zero,List.drop_succ_cons,List.drop_zero];generalize wr.drew=w3 at*
    iterate 8 still_step
    refine wpStill_nil ?_;have HC:=Lib.hid (uF B1 B2 c1 c2 x y w3 HR1.out HR2.out hlx hly);clear hc1 hc2;by_cases h0:mj x y=0
    ·have h0':(mj x y !=0)=false:=by simp[h0]
     have H0:=Lib.hid h0;clear h0
     go_wp2_with fail
     refine HC.out.mono ?_;rintro e w4 ⟨rfl,n,rfl⟩
     go_wp2_with fail
     go_roundw
     case rel=>
      refine⟨k+1,by omega,by go_num,Lib.hid (HE1.out.drewN n),Lib.hid (fun j hj=>?_)⟩;by_cases e:j=k
      ·subst e;rw[HX.out,HY.out,Ds H0.out]
      exact HQ.out j (by omega)
     case measure=>simp[intOf];omega
    have h0':(mj x y !=0)=true:=by simp[h0]
    go_wp2_with fail
    refine HC.out.mono ?_;rintro e w4 ⟨rfl,n,rfl⟩
    go_wp2_with fail
    go_ret
    refine⟨em (fun h=>?_),HE1.out.drewN n⟩;subst h;have h1:=HX.out;rw[HY.out]at h1;cases h1;exact h0 (wa _)
   go_wp2_with fail
   go_ret
   refine⟨yf ?_,HE.out⟩;apply List.ext_getElem?;intro j;rcases Nat.lt_or_ge j a.length with h|h
   ·exact HQ.out j (by omega)
   rw[List.getElem?_eq_none h,List.getElem?_eq_none (by have:=HL.out;omega)]
 have hlb:((a.length:Int) !=(b.length:Int))=true:=by simp;omega
 go_enter Tryz.func28,Tryz.ntmps28
 go_wp2_with fail
 go_ret
 exact⟨em (fun h=>hl (by rw[h])),Ext.refl _⟩
section
theorem vI {P:Program} (w:World) (dT sT ty elem:TypeId) (g o dLen dCap:Nat) (a:Addr) (sLen sCap sz:Nat) (cur:Array Value) (t:TypeId) (cs:List Value)
  (hu:P.underlying dT=some (.slice elem)) (hs:(P.info? elem).map (·.size)=some sz)
  (hg:w.heap[g]?=some (.cells cur t (0,0))) (hn:cs.length=Nat.min sLen dLen*sz)
  (hsrc: ∀j v,cs[j]?=some v->w.cell? (a.add j)=some v) (hfit:o+cs.length<=cur.size) (h1: ∀v∈cs,v.oneCell'=true):
  (Builtin.copy_ #[dT,sT] ty #[.slice (some ⟨g,o,none⟩) dLen dCap,.slice (some a) sLen sCap]).run P w=
   .ok (goInt (Nat.min sLen dLen)) (w.setRow g (cur.toList.take o++cs++cur.toList.drop (o+cs.length)).toArray):=by
 have hl:=run_loadCells_list (P:=P) w a cs hsrc;have hst:=run_storeCells_at P g o t cs 0 cur w hg (by simpa using hfit) h1;cases hq:P.info? elem with
 |none=>simp[hq]at hs
 |some i=>
  have hi:i.size=sz:=by simpa[hq] using hs
  simp[Builtin.copy_,run_underlying hu,Builtin.lenOf,Builtin.firstCells,sizeOf,typeInfo,hq,hi,<- hn,hl,hst]
section
variable {P:Program} {s:AS} {a:Act} {w0 w:World} {O X:Nat->Prop}
theorem Ax {ρ:Rho} (h1:a.defers=[]) (hsz:a.tmps.size=s.tmps.length) (hinv:Inv w0 O X s.H ρ w) (htm:bZ X ρ s a w) {o0 o':OObj} {fa fr b cc:Nat} (hrow:(s.H fa)[fr]?=some o0) (hρ:ρ fa fr=some (b,cc)) {w1:World} (hbut:But b w w1)
  (hes:o'.es=o0.es) (hsize:o'.elems.length=o0.elems.length) (hpure: ∀e∈o'.elems,∀x∈e,isPure x=true) (hob1:objRel (rho1 b cc) (famH 0 [o']) (Xo X ρ s.H) w1 0 0 o') {r:TV} {v:Value} (hnoref:noRefTV r=true) (hr1:r.rel (rho1 b cc) (famH 0 [o']) (Xo X ρ s.H) w1 v) (dst:Option Tmp):
  gp w0 O X (AS.put ⟨s.tmps,bj s.H fa ((s.H fa).set fr o')⟩ dst r) (a.put dst v) w1:=by
 have hXb:Xo X ρ s.H b:= .inr ⟨fa,fr,o0,cc,hrow,hρ⟩;have hfr:=(List.getElem?_eq_some_iff.1 hrow).1;have hnew: ∀(x y:Nat) o1,(bj s.H fa ((s.H fa).set fr o') x)[y]?=some o1->(x=fa/\y=fr/\o1=o')\/(¬(x=fa/\y=fr)/\(s.H x)[y]?=some o1):=fun x y o1 h=>by
  by_cases hx:x=fa
  ·subst hx;rw[bI]at h;by_cases hy:y=fr
   ·subst hy;rw[List.getElem?_set_self hfr]at h;injection h with h
    exact .inl ⟨rfl,rfl,h.symm⟩
   rw[List.getElem?_set_ne (Ne.symm hy)]at h;exact .inr ⟨fun h=>hy h.2,h⟩
  rw[bo hx]at h;exact .inr ⟨fun h=>hx h.1,h⟩
 have hlive: ∀(x y:Nat) o1,(s.H x)[y]?=some o1-> ∃o2,(bj s.H fa ((s.H fa).set fr o') x)[y]?=some o2/\o2.es=o1.es/\o1.elems.length<=o2.elems.length/\ρ x y=ρ x y:=fun x y o1 h=>by
  by_cases hx:x=fa
  ·subst hx;by_cases hy:y=fr
   ·subst hy;rw[hrow]at h;injection h with h
    subst h;exact⟨o',by rw[bI,List.getElem?_set_self hfr],hes,by rw[hsize];exact ac _,rfl⟩
   exact⟨o1,by rw[bI,List.getElem?_set_ne (Ne.symm hy)];exact h,rfl,ac _,rfl⟩
  exact⟨o1,by rw[bo hx];exact h,rfl,ac _,rfl⟩
 have hback: ∀(x y:Nat) o1,(bj s.H fa ((s.H fa).set fr o') x)[y]?=some o1-> ∃o2,(s.H x)[y]?=some o2:=fun x y o1 h=>by
  rcases hnew x y o1 h with⟨rfl,rfl,_⟩|⟨_,h⟩
  ·exact⟨o0,hrow⟩
  exact⟨o1,h⟩
 have hXo:Xo X ρ (bj s.H fa ((s.H fa).set fr o'))=Xo X ρ s.H:=by
  funext j;apply propext;constructor
  ·rintro(h|⟨x,y,o1,n,h1,h2⟩)
   ·exact .inl h
   obtain⟨o2,h3⟩:=hback x y o1 h1;exact .inr ⟨x,y,o2,n,h3,h2⟩
  rintro(h|⟨x,y,o1,n,h1,h2⟩)
  ·exact .inl h
  obtain⟨o2,h3,_⟩:=hlive x y o1 h1;exact .inr ⟨x,y,o2,n,h3,h2⟩
 have mono: ∀x u,AV.rel ρ s.H (Xo X ρ s.H) w x u->AV.rel ρ (bj s.H fa ((s.H fa).set fr o')) (Xo X ρ (bj s.H fa ((s.H fa).set fr o'))) w1 x u:=fun x u hx=>
  ku hXb hbut hlive (fun x y o1 b' c' h1 h2 _=>by
   obtain⟨o2,h3⟩:=hback x y o1 h1;exact .inr ⟨x,y,o2,c',h3,h2⟩) hx
 have hinv':Inv w0 O X (bj s.H fa ((s.H fa).set fr o')) ρ w1:=by
  refine⟨hinv.keep.but hbut (hinv.old fa fr o0 b cc hrow hρ).1,fun x y o1 h=>?_,fun x y x' y' o1 o2 j c1 c2 h h' q q'=>?_,fun x y o1 j c1 h q=>?_,fun j hj=>Nat.lt_of_lt_of_le (hinv.bar j hj) hbut.size,fun x y o1 h=>?_⟩
  ·rcases hnew x y o1 h with⟨rfl,rfl,rfl⟩|⟨hne,h⟩
   ·rw[hXo];exact jT hpure hob1 (by simp[rho1,hρ])
   refine ew (hinv.objs x y o1 h) rfl (fun j c1 hj=>?_) mono;refine hbut.block j (ce (hinv.objs x y o1 h) hj) ?_;rintro rfl;exact hne (hinv.inj x y fa fr o1 o0 j c1 cc h hrow hj hρ)
  ·obtain⟨o3,h3⟩:=hback x y o1 h;obtain⟨o4,h4⟩:=hback x' y' o2 h';exact hinv.inj x y x' y' o3 o4 j c1 c2 h3 h4 q q'
  ·obtain⟨o3,h3⟩:=hback x y o1 h;exact hinv.old x y o3 j c1 h3 q
  rcases hnew x y o1 h with⟨rfl,rfl,rfl⟩|⟨hne,h⟩
  ·exact dx hpure
  exact hinv.self x y o1 h
 have htm':bZ X ρ ⟨s.tmps,bj s.H fa ((s.H fa).set fr o')⟩ a w1:=fun t x hx=>by
  obtain⟨u,u1,u2⟩:=htm t x hx;exact⟨u,u1,TV.rel_map u2 mono⟩
 refine⟨by rw[im];exact h1,by rw[kK,fO];exact hsz,ρ,by rw[iT];exact hinv',qV hsz htm' ?_⟩;show r.rel ρ (bj s.H fa ((s.H fa).set fr o')) (Xo X ρ (bj s.H fa ((s.H fa).set fr o'))) w1 v;rw[hXo];exact nK hnoref hr1
theorem Lm (hrel:gp w0 O X s a w) {o:Oper} {x y:Operand} {t t' e:TypeId} (ho:o.op= .call {callee:= .builtin .copy,args:= #[x,y],argTypes:= #[t,t']}) {fa fr len:Nat} {o0:OObj} {news:List (List AV)} {ty:TV}
  (hx:s.ev x=some (.one (.sl fa fr 0 len))) (hy:s.ev y=some ty) (hnews:newsOf s.H ty=some news) (hrow:(s.H fa)[fr]?=some o0) (hsl:dr P t=some e) (hse:iV P e=some o0.es) (hl0:0<len) (hlen:o0.elems.length=len) (hnl:news.length=len) (hne: ∀e∈news,e.length=o0.es)
  {K:Act->World->Prop} {Q:Exit->Act->World->Prop}
  (hK: ∀v w',gp w0 O X (AS.put ⟨s.tmps,bj s.H fa ((s.H fa).set fr ⟨o0.ty,o0.es,news⟩)⟩ o.dst (.raw (.int .i64 (len:Int)))) (a.put o.dst v) w'->K (a.put o.dst v) w'):o.wp P a w K Q:=by
 obtain⟨h1,hsz,ρ,hinv,htm⟩:=hrel;have htm:bZ X ρ s a w:=htm;obtain⟨o1,g1,g2,g3⟩:=dc htm x _ hx;rw[hrow]at g1;injection g1 with g1
 subst g1;obtain⟨b,cc,cap,hρ,hv⟩: ∃b cc cap,ρ fa fr=some (b,cc)/\a.eval x= .slice (some ⟨b,0*o0.es,none⟩) len cap:=by
  rcases g3 with⟨_,_,g4,_⟩|⟨b,cc,cap,g3,g5,_⟩
  ·omega
  exact⟨b,cc,cap,g3,g5⟩
 have hob:=hinv.objs fa fr o0 hrow;obtain⟨q1,hpos,q3⟩:=id hob;rw[hρ]at q3;obtain⟨cells,c1,c2,c3,c4,c5⟩:=q3;obtain⟨us,⟨A,c,hvy,hrd⟩,hul,hone,hpu,hcell⟩:=oU hinv.objs hnews (dc htm y ty hy) hne hpos;have hXb:Xo X ρ s.H b:= .inr ⟨fa,fr,o0,cc,hrow,hρ⟩;have husl:0<us.length:=by rw[hul,hnl];exact Nat.mul_pos hl0 hpos
 obtain⟨b',off,rfl,hcs⟩:=hrd (fun h=>by rw[h]at husl;simp at husl);have hmin:Nat.min news.length len=len:=by rw[hnl];exact Nat.min_self len
 have hfit:0+us.length<=cells.size:=by rw[hul,hnl,c2,Nat.zero_add];exact Nat.mul_le_mul_right _ (by omega)
 obtain⟨ti,hti,hts⟩:=m0 hse;have hrun:=vI (P:=P) w t t' o.type e b 0 len cap ⟨b',off,none⟩ news.length c o0.es cells o0.ty us (dN hsl) (by rw[hti];simp[hts]) c1 (by rw[hmin,hul,hnl]) (fun j v hj=>by have hadd:(⟨b',off,none⟩:Addr).add j=⟨b',off+j,none⟩:=by{unfold Addr.add;split<;>simp_all};rw[hadd];exact hcs j v hj) hfit hone;rw[hmin]at hrun;rw[Nat.zero_mul]at hv;have hbut:=But.setRow w b (cells.toList.take 0++us++cells.toList.drop (0+us.length)).toArray;have hheap:=setRow_heap w b cells (cells.toList.take 0++us++cells.toList.drop (0+us.length)).toArray o0.ty (0,0) c1;have hK':=fun v=>hK v (w.setRow b (cells.toList.take 0++us++cells.toList.drop (0+us.length)).toArray)
 generalize hw1:w.setRow b (cells.toList.take 0++us++cells.toList.drop (0+us.length)).toArray=w1 at*
 have hres:gp w0 O X (AS.put ⟨s.tmps,bj s.H fa ((s.H fa).set fr ⟨o0.ty,o0.es,news⟩)⟩ o.dst (.raw (.int .i64 (len:Int)))) (a.put o.dst (goInt len)) w1:=by
  refine Ax h1 hsz hinv htm hrow hρ hbut (o':=⟨o0.ty,o0.es,news⟩) rfl (by simp only;omega) hpu ?_ rfl (dE rfl) o.dst;refine⟨hne,hpos,?_⟩;have hr:rho1 b cc 0 0=some (b,cc):=by simp[rho1]
  rw[hr];refine⟨_,hheap,?_,by simp only;omega,c4,fun i e j z he hz=>?_⟩
  ·simp at hfit⊢;omega
  obtain⟨u,u1,u2,u3⟩:=hcell i e j z he hz;refine⟨u,?_,u2,?_⟩
  ·simp only[List.take_zero,List.nil_append,List.getElem?_toArray];rw[List.getElem?_append_left (List.getElem?_eq_some_iff.1 u1).1];exact u1
  have hzp:=hpu e (au he) z (au hz);have:=ku (ρ':=ρ) (H':=s.H) hXb hbut (fun x y o1 h=>⟨o1,h,rfl,ac _,rfl⟩) (fun x y o1 b' c' h1 h2 _=> .inr ⟨x,y,o1,c',h1,h2⟩) u3;cases z with
  |p z=>exact this
  |_=>cases hzp
 have hrun':(execOp a.eval o).run P w= .ok (.value (goInt len)) w1:=by
  unfold execOp;simp only[ho,resolve,invoke,builtin,Sem.run_bind,Sem.run_pure,Result.andThen_ok,List.map_toArray,List.map_cons,List.map_nil,hv,hvy,hrun]
 unfold Oper.wp;rw[hrun'];exact hK' _ hres
def cpTs (ops:Array Oper) (m:Nat) (s:AS):Option (TypeId×TV×TV):=match ops[m]? with
 |some ⟨_,.call ⟨.builtin .copy,⟨[x,y]⟩,⟨[t,_]⟩⟩,_,_,_,none⟩=>match s.ev x,s.ev y with
  |some tx,some ty=>some (t,tx,ty)
  |_,_=>none
 |_=>none
structure Pu (P:Program) (ops:Array Oper) (m:Nat) (t e:TypeId) (ty:TV) (len fa fr:Nat) (o0:OObj) (news:List (List AV)) (s:AS):Prop where
 ts:cpTs ops m s=some (t,.one (.sl fa fr 0 len),ty)
 row:(s.H fa)[fr]?=some o0
 news:newsOf s.H ty=some news
 len:o0.elems.length=len
theorem G3 (m:Nat) (t e:TypeId) (ty:TV) (len fa fr:Nat) (o0:OObj) (news:List (List AV)) (items:List (aY P)) (ow:List Nat) {id:Nat} {ops:Array Oper} {Q:Exit->AS->Prop} (hsl:dr P t=some e) (hse:iV P e=some o0.es) (hl0:0<len) (hnl:news.length=len) (hne: ∀e∈news,e.length=o0.es) (hl:s.tmps.length<=1000000) (hm:m<ops.toList.length)
  (h:cy P (items.map aY.a) ow (bP ops (ops.toList.take m) 0) (some s) (fun s1=>Pu P ops m t e ty len fa fr o0 news s1/\s1.tmps.length<=1000000/\cy P (items.map aY.a) ow (bP ops (ops.toList.drop (m+1)) (m+1)) (some (GJ ops m (.raw (.int .i64 (len:Int))) fa fr ⟨o0.ty,o0.es,news⟩ s1)) (Q .normal))):bs P (.region id ops false) Q s:=fun w0 O X a w r0=>by
 obtain⟨s1,h1,⟨q1,q2,q3,q4⟩,hl1,h2⟩:=ck P (items.map aY.a) ow ops _ 0 s _ h;obtain⟨s',h3,h4⟩:=ck P (items.map aY.a) ow ops _ (m+1) _ _ h2;unfold cpTs at q1;split at q1
 ·rename_i dst x y t0 t1 typ pos aft ho;split at q1
  ·rename_i tx ty0 hx hy;injection q1 with q1
   injection q1 with q1 q5
   injection q5 with q5 q6
   subst q1 q5 q6;refine wp_region ?_;have hsz:ops.size=(ops.toList.take m).length+(1+(ops.toList.drop (m+1)).length):=by simp at hm⊢;omega
   rw[hsz,List.range_eq_range',<- List.range'_append_1,Nat.zero_add];have hml:(ops.toList.take m).length=m:=by rw[List.length_take];omega
   refine kO (aY.ok items) (ops.toList.take m) 0 s s1 a w (fun j o hj=>?_) h1 r0 fun a' w' r'=>?_
   ·rw[List.getElem?_take]at hj;split at hj
    ·simpa using hj
    cases hj
   rw[hml,Nat.add_comm 1,List.range'_succ];simp only[wpOps,ho];rw[if_pos (by simp[Region.wanted])];refine .inl (Lm r' rfl hx hy q3 q2 hsl hse hl0 q4 hnl hne fun v w1 hr1=>?_);refine gG (aY.ok items) (Q:=fun e a' w'=> ∃s',Q e s'/\gp w0 O X s' a' w') (ops.toList.drop (m+1)) (m+1) _ s' _ _ (fun j o hj=>?_) h3 ?_ (fun a' w' hr=>⟨s',h4,hr⟩)
   ·rw[List.getElem?_drop]at hj;simpa using hj
   have:cwD ops m=dst:=by unfold cwD;rw[ho];rfl
   unfold GJ;rw[this];exact hr1
  cases q1
 cases q1
theorem EP (m:Nat) (t e:TypeId) (ty:TV) (len fa fr:Nat) (o0:OObj) (news:List (List AV)) (items:List (aY P)) (ow:List Nat) {id:Nat} {ops:Array Oper} {Q:Exit->AS->Prop} (hsl:dr P t=some e) (hse:iV P e=some o0.es) (hl0:0<len) (hnl:news.length=len) (hne: ∀e∈news,e.length=o0.es) (hl:s.tmps.length<=1000000) (hm:m<ops.toList.length)
  (h: ∀K:AS->Prop,(∀s1,(Pu P ops m t e ty len fa fr o0 news s1/\s1.tmps.length<=1000000/\ ∀K:AS->Prop,(∀s',Q .normal s'->K s')->cy P (items.map aY.a) ow (bP ops (ops.toList.drop (m+1)) (m+1)) (some (GJ ops m (.raw (.int .i64 (len:Int))) fa fr ⟨o0.ty,o0.es,news⟩ s1)) K)->K s1)->cy P (items.map aY.a) ow (bP ops (ops.toList.take m) 0) (some s) K):bs P (.region id ops false) Q s:=
 G3 m t e ty len fa fr o0 news items ow hsl hse hl0 hnl hne hl hm (h _ fun s1 ⟨q1,q2,q3⟩=>⟨q1,q2,q3 _ fun _ h=>h⟩)
end
end
theorem Oo {s:AS} {w0 w:World} {O X:Nat->Prop} {ρ:Rho} {act:Act} (a:Nat) (hok:vw s.H a) (hinv:Inv w0 O X s.H ρ w) (htm:bZ X ρ s act w):Inv w0 O X (bj s.H a []) ρ w/\bZ X ρ ⟨s.tmps.map (gW s.H a),bj s.H a []⟩ act w:=by
 have hna: ∀(x y:Nat) o,(bj s.H a [] x)[y]?=some o->x≠a/\(s.H x)[y]?=some o:=fun x y o ho=>by
  by_cases hx:x=a
  ·subst hx;rw[bI]at ho;simp at ho
  rw[bo hx]at ho;exact⟨hx,ho⟩
 have hXo: ∀b,Xo X ρ (bj s.H a []) b->Xo X ρ s.H b:=fun b hb=>by
  rcases hb with hb|⟨x,y,o,n,g1,g2⟩
  ·exact .inl hb
  exact .inr ⟨x,y,o,n,(hna x y o g1).2,g2⟩
 have hZb: ∀(r:Nat) o,(s.H a)[r]?=some o-> ∀b c,ρ a r=some (b,c)-> ¬Xo X ρ (bj s.H a []) b:=fun r o ho b c hr hX=>by
  rcases hX with hX|⟨x,y,o',n,g1,g2⟩
  ·exact(hinv.old a r o b c ho hr).2 hX
  obtain⟨hx,g1'⟩:=hna x y o' g1;exact hx (hinv.inj x y a r o' o b n c g1' ho g2 hr).1
 have hpure: ∀x u,isPure x=true->AV.rel ρ s.H (Xo X ρ s.H) w x u->cu (Xo X ρ (bj s.H a [])) w (yD x) u:=fun x u hp h=>by
  cases x<;>first|exact cu.weaken (fun b _ hb=>hXo b hb) h|cases hp
 have hcell: ∀(r:Nat) o,(s.H a)[r]?=some o-> ∀e∈o.elems,∀x∈e,∀u,AV.rel ρ s.H (Xo X ρ s.H) w x u->cu (Xo X ρ (bj s.H a [])) w (jK s.H a x) u:=fun r o ho e he x hx u hu=>by
  rcases hok r o ho e he x hx with hp|⟨r',off,len,o',rfl,ho',hpr⟩
  ·have:=hpure x u hp hu;cases x<;>first|exact this|cases hp
  simp only[jK,ho'];exact nO (hinv.objs a r' o' ho') ho' (fun e he y hy u hu=>hpure y u (hpr e he y hy) hu) (hZb r' o' ho') hu
 have hmap: ∀x v,AV.rel ρ s.H (Xo X ρ s.H) w x v->AV.rel ρ (bj s.H a []) (Xo X ρ (bj s.H a [])) w (fD s.H a x) v:=fun x v h=>by
  cases x with
  |p x=>exact cu.weaken (fun b _ hb=>hXo b hb) h
  |sl b r off len=>
   simp only[fD];by_cases hb:b=a
   ·subst hb;rw[if_pos rfl];have h':=h;obtain⟨o,g1,g2,g3⟩:=h;rw[g1];exact nO (hinv.objs b r o g1) g1 (hcell r o g1) (hZb r o g1) h'
   rw[if_neg hb];obtain⟨o,g1,g2⟩:=h;exact⟨o,by rw[bo hb];exact g1,g2⟩
  |ptr b r i j=>
   simp only[fD];by_cases hb:b=a
   ·subst hb;rw[if_pos rfl];trivial
   rw[if_neg hb];obtain⟨o,b',c,g1,g2⟩:=h;exact⟨o,b',c,by rw[bo hb];exact g1,g2⟩
  |junk=>trivial
 have hagg: ∀cs v,b7 ρ s.H (Xo X ρ s.H) w cs v->b7 ρ (bj s.H a []) (Xo X ρ (bj s.H a [])) w (cs.map (fD s.H a)) v:=fun cs v h=>by
  obtain⟨vs,g1,g2,g3⟩:=h;refine⟨vs,g1,by simpa using g2,fun j x hx=>?_⟩;rw[ay]at hx;obtain⟨y,hy,rfl⟩:=Option.map_eq_some_iff.1 hx;obtain⟨u,u1,u2,u3⟩:=g3 j y hy;exact⟨u,u1,u2,hmap y u u3⟩
 refine⟨⟨hinv.keep,fun x y o ho=>?_,fun x y x' y' o o' b c c' ho ho'=>hinv.inj x y x' y' o o' b c c' (hna x y o ho).2 (hna x' y' o' ho').2,fun x y o b c ho=>hinv.old x y o b c (hna x y o ho).2,hinv.bar,fun x y o ho=>hinv.self x y o (hna x y o ho).2⟩,fun t x hx=>?_⟩
 ·obtain⟨hx,ho'⟩:=hna x y o ho;obtain⟨q1,q2,q3⟩:=hinv.objs x y o ho';refine⟨q1,q2,?_⟩;cases hr:ρ x y with
  |none=>rw[hr]at q3;exact q3
  |some bc=>
   obtain⟨b,c⟩:=bc;rw[hr]at q3;obtain⟨cells,p1,p2,p3,p4,p5⟩:=q3;refine⟨cells,p1,p2,p3,p4,fun i e j z he hz=>?_⟩;obtain⟨u,u1,u2,u3⟩:=p5 i e j z he hz;have hs:=hinv.self x y o ho' e (au he) z (au hz);have:=hmap z u u3;refine⟨u,u1,u2,?_⟩;cases z with
   |sl z _ _ _=>have hs:z=x:=hs;subst hs;simpa[fD,hx] using this
   |ptr z _ _ _=>have hs:z=x:=hs;subst hs;simpa[fD,hx] using this
   |p z=>exact this
   |junk=>trivial
 simp only[ay]at hx;obtain⟨y,hy,rfl⟩:=Option.map_eq_some_iff.1 hx;obtain⟨v,v1,v2⟩:=htm t y hy;refine⟨v,v1,?_⟩;cases y with
 |one x=>exact hmap x v v2
 |agg cs=>exact hagg cs v v2
 |fn f cs=>obtain⟨u,h1,h2⟩:=v2;exact⟨u,hagg cs u h1,h2⟩
 |tup ts=>
  obtain⟨vs,g1,g2,g3⟩:=v2;refine⟨vs,g1,by simpa using g2,fun j b cs hj=>?_⟩;rw[ay]at hj;obtain⟨z,hz,hzz⟩:=Option.map_eq_some_iff.1 hj;obtain⟨b',cs'⟩:=z;simp at hzz;obtain⟨rfl,rfl⟩:=hzz;obtain⟨u,u1,u2⟩:=g3 j b' cs' hz;refine⟨u,u1,?_⟩;rcases u2 with⟨u2,u3⟩|⟨u2,q,rfl,u4⟩
  ·exact .inl ⟨u2,hagg _ _ u3⟩
  exact .inr ⟨u2,_,rfl,hmap q u u4⟩
theorem mq {s:AS} (a k:Nat) {ty:TypeId} {es:Nat} {cs:List PV} (hH:s.H a=[⟨ty,es,[cs.map AV.p]⟩]) (hk:s.tmps[k]?=some (.one (.ptr a 0 0 0))):ca s ⟨(s.tmps.map (gW s.H a)).set k (.one (.p (.ptr cs))),bj s.H a []⟩:=by
 rintro w0 O X act w ⟨h1,hsz,ρ,hinv,htm⟩;have htm:bZ X ρ s act w:=htm;have hrow:(s.H a)[0]?=some ⟨ty,es,[cs.map AV.p]⟩:=by rw[hH];rfl
 have hok:vw s.H a:=fun r o ho e he x hx=>by
  rw[hH]at ho;cases r with
  |succ r=>simp at ho
  |zero=>
   simp at ho;subst ho;simp at he;subst he;obtain⟨y,_,rfl⟩:=List.mem_map.1 hx;exact .inl rfl
 obtain⟨hinv',htm'⟩:=Oo a hok hinv htm;refine⟨h1,by simpa using hsz,ρ,hinv',fun t x hx=>?_⟩;by_cases e:t=k
 ·subst e;simp only at hx;have hlt:=(List.getElem?_eq_some_iff.1 hk).1;rw[List.getElem?_set_self (by simpa using hlt)]at hx;injection hx with hx
  subst hx;obtain⟨v,v1,o,b,c,g1,g2,g3,rfl⟩:=htm t _ hk;rw[hrow]at g1;injection g1 with g1
  subst g1;refine⟨_,v1,?_⟩;obtain⟨q1,q2,q3⟩:=hinv.objs a 0 _ hrow;rw[g2]at q3;obtain⟨cells,p1,p2,p3,p4,p5⟩:=q3;have hXo: ∀b,Xo X ρ (bj s.H a []) b->Xo X ρ s.H b:=fun b hb=>by
   rcases hb with hb|⟨x,y,o,n,g1,g2⟩
   ·exact .inl hb
   by_cases hx:x=a
   ·subst hx;rw[bI]at g1;simp at g1
   rw[bo hx]at g1;exact .inr ⟨x,y,o,n,g1,g2⟩
  have hnb: ¬Xo X ρ (bj s.H a []) b:=fun hX=>by
   rcases hX with hX|⟨x,y,o',n,g1,g3⟩
   ·exact(hinv.old a 0 _ b c hrow g2).2 hX
   by_cases hx:x=a
   ·subst hx;rw[bI]at g1;simp at g1
   rw[bo hx]at g1;exact hx (hinv.inj x y a 0 o' _ b n c g1 hrow g3 g2).1
  show cu _ w (.ptr cs) _;rw[show(0:Nat)*(⟨ty,es,[cs.map AV.p]⟩:OObj).es+0=0 by simp];have hkey: ∀(j:Nat) x,cs[j]?=some x-> ∃u:Value,cells[j]?=some u/\cu (Xo X ρ (bj s.H a [])) w x u:=fun j x hx=>by
   obtain⟨u,u1,u2,u3⟩:=p5 0 (cs.map AV.p) j (.p x) rfl (by rw[ay,hx];rfl);refine⟨u,by simpa using u1,cu.weaken (fun b _ hb=>hXo b hb) u3⟩
  refine cu.ptr b 0 cs (fun j=>(cells[j]?).getD undef) hnb (Array.getElem?_eq_some_iff.1 p1).1 (fun j x hx=>?_) (fun j x hx=>?_)
  ·obtain⟨u,u1,u2⟩:=hkey j x hx;rw[cell_of_row _ b _ cells _ _ p1,Nat.zero_add,u1];rfl
  obtain⟨u,u1,u2⟩:=hkey j x hx;simp only[u1,Option.getD_some];exact u2
 simp only at hx;rw[List.getElem?_set_ne (Ne.symm e)]at hx;exact htm' t x hx
section
def Pi (k:Nat) (f:List Nat->Int):Prop:= ∀xs c d ys,xs.length+ys.length+2=k->f (xs++c::d::ys)= - f (xs++d::c::ys)
theorem Pi.cons {k:Nat} {f:List Nat->Int} (h:Pi (k+1) f) (c:Nat):Pi k (fun l=>f (c::l)):=fun xs a b ys hl=>h (c::xs) a b ys (by simp;omega)
theorem DY {r:Nat->Int}: ∀(cs:List Nat) {f g:List Nat->Int},(∀l,l.length+1=cs.length->f l= - g l)->du r f cs= - du r g cs
 |[],_,_,_=>rfl
 |c::cs,f,g,h=>by
  rw[du,du,h cs rfl,DY cs (f:=fun l=>f (c::l)) (g:=fun l=>g (c::l)) (fun l hl=>h (c::l) (by simp;omega))];grind
theorem Dh {r:Nat->Int}: ∀(xs:List Nat) (k:Nat) (f:List Nat->Int),Pi k f-> ∀c d ys,xs.length+ys.length+2=k+1->du r f (xs++c::d::ys)= - du r f (xs++d::c::ys)
 |[],k,f,h,c,d,ys,hl=>by
  have e:=DY (r:=r) ys (f:=fun l=>f (c::d::l)) (g:=fun l=>f (d::c::l)) (fun l hl'=>h [] c d l (by simp at hl⊢;omega));simp only[List.nil_append,du];rw[e];grind
 |x::xs,k,f,h,c,d,ys,hl=>by
  obtain⟨k,rfl⟩: ∃k',k=k'+1:=⟨k-1,by simp at hl;omega⟩;simp only[List.cons_append,du];rw[Dh xs k _ (h.cons x) c d ys (by simp at hl;omega),h xs c d ys (by simp at hl;omega)];grind
theorem Co (R:FF): ∀k,Pi k (om R k)
 |0=>fun xs c d ys h=>by omega
 |k+1=>fun xs c d ys h=>Dh xs k _ (Co R k) c d ys h
theorem xn {k:Nat} {f:List Nat->Int} (h:Pi k f) (c:Nat) (ys:List Nat): ∀(xs zs:List Nat),zs.length+xs.length+ys.length+2=k->f (zs++c::(xs++c::ys))=0
 |[],zs,hl=>by
  have:=h zs c c ys (by simp at hl;omega);simp only[List.nil_append];omega
 |x::xs,zs,hl=>by
  have h1:=h zs c x (xs++c::ys) (by simp at hl⊢;omega);have h2:=xn h c ys xs (zs++[x]) (by simp at hl⊢;omega);rw[List.append_assoc]at h2;simp only[List.cons_append,List.nil_append]at h1 h2⊢;rw[h1,h2];rfl
/-! Columns. -/
theorem lI {r s:Nat->Int}: ∀(cs:List Nat) {f g:List Nat->Int},cs.Nodup->(∀c∈cs,r c=s c)->(∀l,l.length+1=cs.length->(∀c∈l,c∈cs)->l.Nodup->f l=g l)->du r f cs=du s g cs
 |[],_,_,_,_,_=>rfl
 |c::cs,f,g,hn,h,hf=>by
  obtain⟨hc,hn'⟩:=List.nodup_cons.1 hn;rw[du,du,h c List.mem_cons_self,hf cs rfl (fun d hd=>List.mem_cons_of_mem _ hd) hn',lI cs hn' (fun d hd=>h d (List.mem_cons_of_mem _ hd)) (fun l hl hs hl2=>hf (c::l) (by simp;omega) (fun d hd=>by
   rcases List.mem_cons.1 hd with rfl|hd
   ·exact List.mem_cons_self
   exact List.mem_cons_of_mem _ (hs d hd)) (List.nodup_cons.2 ⟨fun h=>hc (hs c h),hl2⟩))]
def dU (R:FF) (a:Nat) (S:Nat->Int):Nat->Nat->Int:=fun i c=>if c=a then S i else R i c
theorem kw (R:FF) (a:Nat):dU R a (fun i=>R i a)=R:=by
 funext i c;unfold dU;split
 ·rename_i h;rw[h]
 rfl
theorem DX {a:Nat} {u t s s':Int} {r:Nat->Int}: ∀(cs:List Nat) (f fS fT:List Nat->Int),cs.Nodup->a∈cs->
  (∀l,l.length+1=cs.length->(∀c∈l,c∈cs)->l.Nodup->(a∈l->f l=u*fS l+t*fT l)/\(a∉l->fS l=f l/\fT l=f l))->
  du (fun c=>if c=a then u*s+t*s' else r c) f cs=u*du (fun c=>if c=a then s else r c) fS cs+t*du (fun c=>if c=a then s' else r c) fT cs
 |[],_,_,_,_,h,_=>by simp at h
 |c::cs,f,fS,fT,hn,ha,h=>by
  obtain⟨hc,hn'⟩:=List.nodup_cons.1 hn;have hsub: ∀l:List Nat,(∀c∈l,c∈cs)-> ∀d∈c::l,d∈c::cs:=fun l hs d hd=>by
   rcases List.mem_cons.1 hd with rfl|hd
   ·exact List.mem_cons_self
   exact List.mem_cons_of_mem _ (hs d hd)
  obtain⟨h1,h2⟩:=h cs rfl (fun d hd=>List.mem_cons_of_mem _ hd) hn';rw[du,du,du];by_cases e:c=a
  ·subst e;obtain⟨h3,h4⟩:=h2 hc;have e0: ∀d∈cs,d≠c:=fun d hd e=>hc (e▸hd)
   have e1:du (fun d=>if d=c then u*s+t*s' else r d) (fun l=>f (c::l)) cs=du r (fun l=>u*fS (c::l)+t*fT (c::l)) cs:=
    lI cs hn' (fun d hd=>by simp[e0 d hd]) (fun l hl hs hl2=>(h (c::l) (by simp;omega) (hsub l hs) (List.nodup_cons.2 ⟨fun h=>hc (hs c h),hl2⟩)).1 List.mem_cons_self)
   have e2:du (fun d=>if d=c then s else r d) (fun l=>fS (c::l)) cs=du r (fun l=>fS (c::l)) cs:=lI cs hn' (fun d hd=>by simp[e0 d hd]) (fun _ _ _ _=>rfl);have e3:du (fun d=>if d=c then s' else r d) (fun l=>fT (c::l)) cs=du r (fun l=>fT (c::l)) cs:=lI cs hn' (fun d hd=>by simp[e0 d hd]) (fun _ _ _ _=>rfl);rw[e1,e2,e3,qN,h3,h4];simp only[if_pos];grind
  have ha':a∈cs:=by
   rcases List.mem_cons.1 ha with h|h
   ·exact absurd h.symm e
   exact h
  have ih:=DX (u:=u) (t:=t) (s:=s) (s':=s') (r:=r) cs (fun l=>f (c::l)) (fun l=>fS (c::l)) (fun l=>fT (c::l)) hn' ha' (fun l hl hs hl2=>by
   obtain⟨q1,q2⟩:=h (c::l) (by simp;omega) (hsub l hs) (List.nodup_cons.2 ⟨fun h=>hc (hs c h),hl2⟩);exact⟨fun hal=>q1 (List.mem_cons_of_mem _ hal),fun hal=>q2 (fun h=>by
    rcases List.mem_cons.1 h with h|h
    ·exact e h.symm
    exact hal h)⟩)
  rw[ih,h1 ha'];simp only[if_neg e];grind
theorem I7 {R:FF} {a:Nat} {u t:Int} {S T:Nat->Int}: ∀(k:Nat) (cs:List Nat),cs.Nodup->cs.length=k->a∈cs->
  om (dU R a (fun i=>u*S i+t*T i)) k cs=u*om (dU R a S) k cs+t*om (dU R a T) k cs
 |0,cs,_,hl,ha=>by rw[List.length_eq_zero_iff.1 hl]at ha;simp at ha
 |k+1,cs,hn,hl,ha=>by
  refine DX (r:=R k) (s:=S k) (s':=T k) cs _ _ _ hn ha (fun l hl' hs hl2=>⟨fun hal=>I7 k l hl2 (by omega) hal,fun hal=>?_⟩);have hne: ∀c∈l,c≠a:=fun c hc e=>hal (e▸hc)
  exact⟨nM fun i _ c hc=>by simp[dU,hne c hc],nM fun i _ c hc=>by simp[dU,hne c hc]⟩
theorem DZ {r:Nat->Int} (p:Nat->Nat): ∀(cs:List Nat) (f:List Nat->Int),du (fun c=>r (p c)) (fun l=>f (l.map p)) cs=du r f (cs.map p)
 |[],_=>rfl
 |c::cs,f=>by
  rw[du,List.map_cons,du];have:=DZ (r:=r) p cs (fun l=>f (p c::l));rw[<- this];rfl
theorem I9 {R:FF} (p:Nat->Nat): ∀(k:Nat) (cs:List Nat),om (fun i c=>R i (p c)) k cs=om R k (cs.map p)
 |0,_=>rfl
 |k+1,cs=>by
  have e:om (fun i c=>R i (p c)) k=fun l=>om R k (l.map p):=funext (I9 p k)
  show du (fun c=>R k (p c)) (om (fun i c=>R i (p c)) k) cs=_;rw[e,DZ p cs (om R k)];rfl
theorem Ja {R:FF} {a b k:Nat} {cs:List Nat} (hn:cs.Nodup) (hl:cs.length=k) (ha:a∈cs) (hb:b∈cs) (hab:a≠b):om (dU R a (fun i=>R i b)) k cs=0:=by
 have e:dU R a (fun i=>R i b)=fun i c=>R i (if c=a then b else c):=by
  funext i c;unfold dU;split<;>rfl
 rw[e,I9 (R:=R) (fun c=>if c=a then b else c)];obtain⟨s,t,rfl⟩:=List.append_of_mem ha;have hb':b∈s\/b∈t:=by
  rcases List.mem_append.1 hb with h|h
  ·exact .inl h
  rcases List.mem_cons.1 h with h|h
  ·exact absurd h.symm hab
  exact .inr h
 rcases hb' with h|h
 ·obtain⟨x,y,rfl⟩:=List.append_of_mem h;simp only[List.map_append,List.map_cons,if_pos,if_neg (Ne.symm hab),List.append_assoc,List.cons_append];exact xn (Co R k) b _ _ _ (by simp at hl⊢;omega)
 obtain⟨x,y,rfl⟩:=List.append_of_mem h;simp only[List.map_append,List.map_cons,if_pos,if_neg (Ne.symm hab)];exact xn (Co R k) b _ _ _ (by simp at hl⊢;omega)
theorem tl: ∀n,(jE n).length=n
 |0=>rfl
 |n+1=>by rw[jE,List.length_cons,tl n]
theorem qD: ∀n,(jE n).Nodup
 |0=>List.nodup_nil
 |n+1=>List.nodup_cons.2 ⟨fun h=>by have:=ij h;omega,qD n⟩
theorem xB {n c:Nat} (h:c<n):c∈jE n:=by
 induction n with
 |zero=>omega
 |succ n ih=>
  by_cases e:c=n
  ·rw[e];exact List.mem_cons_self
  exact List.mem_cons_of_mem _ (ih (by omega))
theorem wc {n p:Nat} (h:p<n): ∃hi,jE n=hi++p::jE p/\ ∀c∈hi,p<c:=by
 induction n with
 |zero=>omega
 |succ n ih=>
  by_cases e:p=n
  ·exact⟨[],by rw[e];rfl,fun c hc=>by simp at hc⟩
  obtain⟨hi,h1,h2⟩:=ih (by omega);exact⟨n::hi,by rw[jE,h1];rfl,fun c hc=>by
   rcases List.mem_cons.1 hc with rfl|hc
   ·omega
   exact h2 c hc⟩
section
variable {R:FF} {n a b:Nat} (ha:a<n)
include ha
theorem mz (u t:Int) (S T:Nat->Int):dk (dU R a (fun i=>u*S i+t*T i)) n=u*dk (dU R a S) n+t*dk (dU R a T) n:=I7 n _ (qD n) (tl n) (xB ha)
theorem pr (hb:b<n) (hab:a≠b):dk (dU R a (fun i=>R i b)) n=0:=Ja (qD n) (tl n) (xB ha) (xB hb) hab
theorem r9 {S:Nat->Int} (h: ∀i,i<n->S i=0):dk (dU R a S) n=0:=by
 have h1:=mz (R:=R) (n:=n) ha 0 0 S S;have h2:dk (dU R a S) n=dk (dU R a (fun i=>0*S i+0*S i)) n:=gN fun i j hi _=>by
  unfold dU;split
  ·show S i=0*S i+0*S i;rw[h i hi];rfl
  rfl
 rw[h2,h1];omega
theorem nw (hb:b<n) (hab:a≠b) (t:Int):dk (dU R a (fun i=>R i a+t*R i b)) n=dk R n:=by
 have h1:=mz (R:=R) (n:=n) ha 1 t (fun i=>R i a) (fun i=>R i b);rw[kw,pr ha hb hab]at h1;simp only[Int.one_mul,Int.mul_zero,Int.add_zero]at h1;exact h1
theorem wg:dk (dU R a (fun i=> - R i a)) n= - dk R n:=by
 have h1:=mz (R:=R) (n:=n) ha (-1) 0 (fun i=>R i a) (fun i=>R i a);rw[kw]at h1;have e:(fun i=> -1*R i a+0*R i a)=fun i=> - R i a:=by funext i;omega
 rw[e]at h1;rw[h1];omega
theorem DF: ∀(cs:List Nat) (g:List Nat->Int),(∀c∈cs,c≠a/\c<n)->dk (dU R a (fun i=>du (R i) g cs)) n=0
 |[],g,_=>r9 ha fun _ _=>rfl
 |c::cs,g,h=>by
  obtain⟨h1,h2⟩:=h c List.mem_cons_self;have h3:=mz (R:=R) (n:=n) ha (g cs) (-1) (fun i=>R i c) (fun i=>du (R i) (fun l=>g (c::l)) cs);rw[pr ha h2 (Ne.symm h1),DF cs _ (fun d hd=>h d (List.mem_cons_of_mem _ hd))]at h3;have e:(fun i=>du (R i) g (c::cs))=fun i=>g cs*R i c+ -1*du (R i) (fun l=>g (c::l)) cs:=by
   funext i;rw[du];grind
  rw[e,h3];omega
end
theorem tp {R:FF} {n a b:Nat} (ha:a<n) (hb:b<n) (hab:a≠b):dk (fun i c=>if c=a then R i b else if c=b then R i a else R i c) n= - dk R n:=by
 have h1:=nw (R:=R) ha hb hab 1;generalize hR1:dU R a (fun i=>R i a+1*R i b)=R1 at h1;have h2:=nw (R:=R1) hb ha (Ne.symm hab) (-1);generalize hR2:dU R1 b (fun i=>R1 i b+ -1*R1 i a)=R2 at h2;have h3:=nw (R:=R2) ha hb hab 1;generalize hR3:dU R2 a (fun i=>R2 i a+1*R2 i b)=R3 at h3;have h4:=wg (R:=R3) hb;rw[h3,h2,h1]at h4;rw[<- h4]
 congr 1
 funext i c;subst hR3 hR2 hR1;unfold dU;by_cases e1:c=a
 ·subst e1;simp[hab];omega
 by_cases e2:c=b
 ·subst e2;simp[Ne.symm hab];omega
 simp[e1,e2]
theorem Lw {f:FF} {n k:Nat} (hk:k<n) (h: ∀i,k<=i->i<n->bk f k i k=0) (hd:dk f k≠0):dk f n=0:=by
 have hz:=r9 (R:=f) hk (S:=fun i=>bk f k i k) (fun i hi=>by
  by_cases e:i<k
  ·exact jJ f e k
  exact h i (by omega) hi)
 have h1:=mz (R:=f) (n:=n) hk (dk f k) (-1) (fun i=>f i k) (fun i=>du (f i) (fun l=>om f k (k::l)) (jE k));rw[kw,DF hk _ _ (fun c hc=>by have:=ij hc;omega)]at h1;have e:(fun i=>bk f k i k)=fun i=>dk f k*f i k+ -1*du (f i) (fun l=>om f k (k::l)) (jE k):=by
  funext i;unfold bk dk;rw[du];grind
 rw[<- e,hz]at h1;have:dk f k*dk f n=0:=by omega
 rcases Int.mul_eq_zero.1 this with h|h
 ·exact absurd h hd
 exact h
/-! Rows exchanged. -/
def I5:List (Nat->Int)->List Nat->Int
 |[]=>fun _=>1
 |r::rs=>du r (I5 rs)
theorem Cp (R:FF): ∀k,om R k=I5 ((jE k).map R)
 |0=>rfl
 |k+1=>by rw[om,Cp R k];rfl
theorem I6 {l m:List (Nat->Int)} (h:l.Perm m): ∃e:Int,(e=1\/e= -1)/\ ∀cs,I5 m cs=e*I5 l cs:=by
 induction h with
 |nil=>exact⟨1,.inl rfl,fun cs=>by omega⟩
 | @cons r l₁ l₂ _ ih=>
  obtain⟨e,he,h⟩:=ih;refine⟨e,he,fun cs=>?_⟩;show du r (I5 l₂) cs=e*du r (I5 l₁) cs;have:=qN r e 0 cs (I5 l₁) (I5 l₁);rw[show I5 l₂=fun l=>e*I5 l₁ l+0*I5 l₁ l from funext fun l=>by rw[h l];omega,this];omega
 |swap r s l=>exact⟨-1,.inr rfl,fun cs=>by
   show du r (du s _) cs= -1*du s (du r _) cs;rw[pD];omega⟩
 |trans _ _ ih1 ih2=>
  obtain⟨e1,he1,h1⟩:=ih1;obtain⟨e2,he2,h2⟩:=ih2;refine⟨e2*e1,?_,fun cs=>by rw[h2,h1,Int.mul_assoc]⟩;rcases he1 with rfl|rfl<;>rcases he2 with rfl|rfl<;>decide
theorem Ol {f:FF} {n p k:Nat} (hp:p<n) (hk:k<=p):(dk (swp p k f) n).natAbs=(dk f n).natAbs:=by
 by_cases e:k=p
 ·subst e;rw[qh]
 have hkp:k<p:=by omega
 obtain⟨hi,h1,h2⟩:=wc hp;obtain⟨mid,h3,h4⟩:=wc hkp;have hmid: ∀c∈mid,c<p:=fun c hc=>ij (by rw[h3];exact List.mem_append_left _ hc)
 have sw: ∀c,c≠p->c≠k->swp p k f c=f c:=fun c a b=>by simp[swp,a,b]
 have swp1:swp p k f p=f k:=by simp[swp]
 have swk:swp p k f k=f p:=by simp[swp,e]
 have m1:hi.map (swp p k f)=hi.map f:=List.map_congr_left fun c hc=>by have:=h2 c hc;exact sw c (by omega) (by omega)
 have m2:mid.map (swp p k f)=mid.map f:=List.map_congr_left fun c hc=>by have:=h4 c hc;have:=hmid c hc;exact sw c (by omega) (by omega)
 have m3:(jE k).map (swp p k f)=(jE k).map f:=List.map_congr_left fun c hc=>by have:=ij hc;exact sw c (by omega) (by omega)
 have hperm:((jE n).map f).Perm ((jE n).map (swp p k f)):=by
  rw[h1,h3];simp only[List.map_append,List.map_cons,m1,m2,m3,swp1,swk];refine List.Perm.append_left _ ?_;exact((List.perm_middle.cons _).trans (List.Perm.swap _ _ _)).trans (List.perm_middle.symm.cons _)
 obtain⟨e,he,h⟩:=I6 hperm;unfold dk;rw[Cp,Cp,h];rcases he with rfl|rfl<;>omega
theorem Al {f:FF} {n k:Nat}: ∀m p,n-p=m->p<=n->(piv f n k p=n/\ ∀i,p<=i->i<n->f i k=0)\/(p<=piv f n k p/\piv f n k p<n/\f (piv f n k p) k≠0)
 |0,p,hm,hp=> .inl ⟨nQ (by omega),fun i h1 h2=>by omega⟩
 |m+1,p,hm,hp=>by
  by_cases h0:f p k=0
  ·rw[qT (by omega) h0];rcases Al (f:=f) (n:=n) (k:=k) m (p+1) (by omega) (by omega)with⟨h1,h2⟩|⟨h1,h2,h3⟩
   ·exact .inl ⟨h1,fun i hi hin=>by
     by_cases e:i=p
     ·rw[e];exact h0
     exact h2 i (by omega) hin⟩
   exact .inr ⟨by omega,h2,h3⟩
  rw[qS (by omega) h0];exact .inr ⟨ac _,by omega,h0⟩
theorem zu {n:Nat}: ∀(m k:Nat) (f g:FF) (neg:Bool),n-k=m->k<=n->(∀t,t<k->dk f (t+1)≠0)->(∀i j,k<=i->i<n->k<=j->j<n->g i j=bk f k i j)->(detG n k g (dk f k) neg).natAbs=(dk f n).natAbs
 |0,k,f,g,neg,hm,hk,hd,hg=>by
  have:k=n:=by omega
  subst this;rw[detG,if_neg (by omega)];cases neg<;>simp
 |m+1,k,f,g,neg,hm,hk,hd,hg=>by
  have hdk:dk f k≠0:=by
   cases k with
   |zero=>rw[dv];omega
   |succ k=>exact hd k (by omega)
  rw[detG,if_pos (show k<n by omega)];rcases Al (f:=g) (n:=n) (k:=k) (n-k) k rfl hk with⟨h1,h2⟩|⟨h1,h2,h3⟩
  ·rw[if_pos h1,Lw (by omega) (fun i hi hin=>by rw[<- hg i k hi hin (ac _) (by omega)];exact h2 i hi hin) hdk]
  rw[if_neg (by omega),KS];generalize piv g n k k=p at*
  have hom:om (swp p k f) k=om f k:=Ah fun i hi=>by simp[swp,show i≠p by omega,show i≠k by omega]
  have hbk: ∀i j,k<=i->i<n->k<=j->j<n->swp p k g i j=bk (swp p k f) k i j:=fun i j hi hin hj hjn=>by
   unfold bk;rw[hom];unfold swp;split
   ·exact hg k j (ac _) (by omega) hj hjn
   split
   ·exact hg p j h1 h2 hj hjn
   exact hg i j hi hin hj hjn
  have hdl: ∀t,t<=k->dk (swp p k f) t=dk f t:=fun t ht=>gN fun i j hi _=>by simp[swp,show i≠p by omega,show i≠k by omega]
  have hkk:swp p k g k k=dk (swp p k f) (k+1):=by rw[hbk k k (ac _) (by omega) (ac _) (by omega),b8]
  have hne:swp p k g k k≠0:=by
   have:swp p k g k k=g p k:=by
    unfold swp;split
    ·rename_i h;rw[<- h]
    rw[if_pos rfl]
   rw[this];exact h3
  rw[hkk];have hd': ∀t,t<k+1->dk (swp p k f) (t+1)≠0:=fun t ht=>by
   by_cases e:t=k
   ·rw[e,<- hkk];exact hne
   rw[hdl _ (by omega)];exact hd t (by omega)
  rw[zu m (k+1) (swp p k f) _ _ (by omega) (by omega) hd' (fun i j hi hin hj hjn=>?_),Ol h2 h1];have hs:=sylv (swp p k f) k (fun t ht=>hd' t (by omega)) i j;rw[hdl k (ac _)]at hs;show(if k<i/\k<j then _ else _)=_;rw[if_pos ⟨by omega,by omega⟩,hkk,hbk i j (by omega) hin (by omega) hjn,hbk i k (by omega) hin (by omega) (by omega),hbk k j (by omega) (by omega) (by omega) hjn,<- hs,Int.mul_ediv_cancel_left _ hdk]
theorem tn (n:Nat) (f:FF):(detF n f).natAbs=(dk f n).natAbs:=
 zu n 0 f f false rfl (by omega) (fun t ht=>by omega) fun i j _ _ _ _=>(dG f i j).symm
theorem Ok (n:Nat):dk (fun i j=>if i=j then 1 else 0) n=1:=by
 induction n with
 |zero=>rfl
 |succ n ih=>
  rw[b8,bk,du,nC (jE n) _ (fun c hc=>by have:=ij hc;simp;omega)];unfold dk at ih;rw[ih];simp
end
abbrev jk:TV:= .one .junk
def j4 (l:List TV):List TV:=jk::jk::jk::jk::l
def j16 (l:List TV):List TV:=j4 (j4 (j4 (j4 l)))
def rN (n:Nat):TV:= .raw (.int .i64 (n:Int))
theorem Q7:Hm []=fun _=>[]:=rfl
theorem Q8 (k:Nat) (F:List OObj) (l:List (Nat×List OObj)):Hm ((k,F)::l)=fun a=>if a=k then F else Hm l a:=rfl
def wk:=And.intro @Pr.eq_1<|And.intro @Pr.eq_2<|And.intro @Pr.eq_3<|And.intro @LZ.eq_def<|And.intro @Ag.eq_def<|And.intro @j4.eq_1<|And.intro @j16.eq_1<|And.intro @rN.eq_1<|True.intro
def kd:=And.intro @AS.ev.eq_def<|And.intro @AS.put.eq_def<|And.intro @Bool.and_false<|And.intro @Bool.and_self<|And.intro @Bool.and_true<|And.intro @Bool.false_and<|And.intro @Bool.false_eq_true<|And.intro @Bool.not_false<|And.intro @Bool.not_true<|And.intro @Bool.or_false<|And.intro @Bool.or_true<|And.intro @Bool.true_and<|And.intro @aY.a.eq_1<|And.intro @CallRes.plain.eq_1<|And.intro @Q7<|And.intro @Q8<|And.intro @Int.natCast_nonneg<|And.intro @Int.toNat_natCast<|And.intro @List.all_cons.{0}<|And.intro @List.all_nil.{0}<|And.intro @List.append_nil.{0}<|And.intro @List.cons_append.{0}<|And.intro @List.contains_nil.{0}<|And.intro @List.drop_succ_cons.{0}<|And.intro @List.drop_zero.{0}<|And.intro @List.find?_cons.{0}<|And.intro @List.find?_nil.{0}<|And.intro @List.getElem?_cons_succ.{0}<|And.intro @List.getElem?_cons_zero.{0}<|And.intro @List.getElem?_toArray.{0}<|And.intro @List.isEmpty_cons.{0}<|And.intro @List.isEmpty_nil.{0}<|And.intro @List.isEmpty_toArray.{0}<|And.intro @List.length_cons.{0}<|And.intro @List.length_map.{0,0}<|And.intro @List.length_nil.{0}<|And.intro @List.map_cons.{0,0}<|And.intro @List.map_nil.{0,0}<|And.intro @List.nil_append.{0}<|And.intro @List.set_cons_succ.{0}<|And.intro @List.set_cons_zero.{0}<|And.intro @List.take_succ_cons.{0}<|And.intro @List.take_zero.{0}<|And.intro @Nat.add_zero<|And.intro @ac<|And.intro @Nat.zero_add<|And.intro @Option.bind_some.{0,0}<|And.intro @Option.map_none.{0,0}<|And.intro @Option.map_some.{0,0}<|And.intro @Tryz.underlying2<|And.intro @Tryz.underlying5<|And.intro @Tryz.underlying78<|And.intro @Tryz.underlying79<|And.intro @Value.oneCell'.eq_def<|And.intro @K8<|And.intro @N0<|And.intro @and_false<|And.intro @and_self<|And.intro @and_true<|And.intro @PJ.eq_def<|And.intro @beq_self_eq_true.{0}<|And.intro @eo.eq_def<|And.intro @E4.eq_def<|And.intro @cellsOf.eq_def<|And.intro @QF<|And.intro @QG<|And.intro @decide_false<|And.intro @decide_true<|And.intro @dq.eq_def<|And.intro @gf.eq_def<|And.intro @jq.eq_def<|And.intro @cb.eq_def<|And.intro @wj.eq_def<|And.intro @gh.eq_1<|And.intro @gh.eq_2<|And.intro @wl.eq_def<|And.intro @Fl.eq_def<|And.intro @fI.eq_1<|And.intro @fN.eq_1<|And.intro @fU.eq_1<|And.intro @false_and<|And.intro @iC.eq_1<|And.intro @iC.eq_2<|And.intro @fD.eq_def<|And.intro @gW.eq_def<|And.intro @Rn<|And.intro @Ro<|And.intro @if_false.{1}<|And.intro @if_true.{1}<|And.intro @B6.eq_def<|And.intro @isPure.eq_def<|And.intro @bH.eq_def<|And.intro @gO.eq_1<|And.intro @bL.eq_def<|And.intro @LL<|And.intro @gP<|And.intro @Ca<|And.intro @xO<|And.intro @tW<|And.intro @se<|And.intro @xP<|And.intro @gu<|And.intro @oP.eq_1<|And.intro @oP.eq_2<|And.intro @fv<|And.intro @dW<|And.intro @Oy<|And.intro @IJ<|And.intro @LN<|And.intro @FN<|And.intro @vD.eq_def<|And.intro @newsOf.eq_def<|And.intro @wG.eq_def<|And.intro @ug.eq_def<|And.intro @fz.eq_def<|And.intro @noRefTV.eq_def<|And.intro @gF.eq_def<|And.intro @eJ.eq_def<|And.intro @nL.eq_def<|And.intro @FV<|And.intro @Cr<|And.intro @Cs<|And.intro @L2<|And.intro @L4<|And.intro @FW<|And.intro @ut<|And.intro @Jd<|And.intro @FX<|And.intro @Je<|And.intro @Ai<|And.intro @FY<|And.intro @vE<|And.intro @vF<|And.intro @L5<|And.intro @Jf<|And.intro @x5<|And.intro @vH<|And.intro @Jg<|And.intro @Jh<|And.intro @FZ<|And.intro @F0<|And.intro @OF<|And.intro @packT.eq_def<|And.intro @Ao.eq_1<|And.intro @bP.eq_1<|And.intro @bP.eq_2<|And.intro @dm.eq_1<|And.intro @pR.eq_def<|And.intro @mQ.eq_def<|And.intro @eg.eq_def<|And.intro @renO.eq_1<|And.intro @fW.eq_def<|And.intro @rU.eq_def<|And.intro @uI.eq_1<|And.intro @uI.eq_2<|And.intro @qX.eq_def<|And.intro @wT<|And.intro @JJ<|And.intro @Gk<|And.intro @true_and<|And.intro @yB.eq_def<|And.intro @Kl<|And.intro @Gt<|And.intro @MS<|And.intro @Km<|And.intro @Kn<|And.intro @MT<|And.intro @Ko<|And.intro @Kp<|And.intro @sE<|And.intro @qj<|And.intro @qk<|And.intro @Kq<|And.intro @MU<|And.intro @Kr<|And.intro @Ks<|And.intro @Kt<|And.intro @Gu<|And.intro @Ku<|And.intro @ql<|And.intro @O9<|And.intro @MV<|And.intro @Pa<|And.intro @MW<|And.intro @MX<|And.intro @MY<|And.intro @MZ<|And.intro @AW<|And.intro @AX<|And.intro @CV<|And.intro @CW<|And.intro @CX<|And.intro @l4<|And.intro @l5<|And.intro @M1<|And.intro @M2<|And.intro @M3<|And.intro @Kv<|And.intro @Kw<|And.intro @Gv<|And.intro @Kx<|And.intro @Gw<|And.intro @qm<|And.intro @Ky<|And.intro @Kz<|And.intro @AY<|And.intro @AZ<|And.intro @CY<|And.intro @CZ<|And.intro @l6<|And.intro @C0<|And.intro @C1<|And.intro @vk<|And.intro @KA<|And.intro @Pb<|And.intro @M4<|And.intro @M5<|And.intro @Pc<|And.intro @M6<|And.intro @M7<|And.intro @yC<|And.intro @sG<|And.intro @qn<|And.intro @M8<|And.intro @Pd<|And.intro @M9<|And.intro @Na<|And.intro @Nb<|And.intro @C2<|And.intro @KB<|And.intro @Gx<|And.intro @Gy<|And.intro @KC<|And.intro @oc<|And.intro @Gz<|And.intro @GA<|And.intro @GB<|And.intro @GC<|And.intro @GD<|And.intro @yD.eq_def<|And.intro @bj.eq_1<|And.intro @Qi.eq_def<|And.intro @j4.eq_1<|And.intro @j16.eq_1<|And.intro @rN.eq_1<|True.intro
abbrev bF (l:List Nat):TV:= .one (.p (.sl (ls fU l)))
theorem iS (l:List Nat) (hb:l.length<=1073741824):CallC Tryz.prog 61 [bF l] ⟨[],bF (dR l)⟩:=by
 refine aJ Tryz.func61 rfl (by kernel_rfl) ?_;rw[Tryz.ntmps61];refine aD fun _ K=>?_;simp only[kd,List.replicate];apply K
 refine aD fun _ K=>?_;simp only[kd,aa];apply K
 refine K5 (G:={n:Nat//n<=l.length/\dR l=dR (l.take n)}) (fun n=>⟨(bF l::jk::.raw (.slice none 0 0)::.raw (.int .i64 n.1)::j16 (jk::jk::[])),Hm []⟩) (fun n=>n.1) ⟨l.length,ac _,by simp⟩ ?_ ?_
 ·refine aF trivial ?_;simp[wk]
 rintro⟨n,hn,hT⟩;simp only;by_cases h0:0<n
 ·obtain⟨a,ha⟩:=getElem?_of_lt (l:=l) (k:=n-1) (by omega);have e1:((n:Int)-1).toNat=n-1:=by omega
  refine aE (aD fun _ K=>?_);simp(disch:=omega) only[kd,aa,aP,e1,ha];apply K;have htk:l.take n=l.take (n-1)++[a]:=by
   have:=List.take_succ_eq_append_getElem (i:=n-1) (l:=l) (by omega);rw[show n-1+1=n by omega]at this;rw[this,(List.getElem?_eq_some_iff.1 ha).2]
  refine bT rfl (fun hz=>aL ?_) (fun hz=>bK ?_)
  ·have hz':a=0:=by simpa using hz
   refine aK ?_;refine aM fun _ K=>?_;simp(disch:=omega) only[kd,aa,aP];apply K
   refine⟨⟨n-1,by omega,?_⟩,by simp only;omega,aF trivial ?_⟩
   ·rw[hT,htk,hz',m9]
   have e:((n-1:Nat):Int)=(n:Int)-1:=by omega
   simp[wk,e]
  have hz':a≠0:=by intro e;simp[e]at hz
  have hfin:dR l=l.take n:=by rw[hT,htk,w7 hz']
  show bs _ _ _ _;have hlen:(l.take n).length=n:=by simp;omega
  refine aD fun _ K=>?_;simp(disch:=omega) only[kd,aa,Nat.zero_le,Cc xF,hlen,Ox xF];apply K
  refine aI ⟨.inr rfl,jz 21 (cH rfl) ?_ rfl⟩;simp(disch:=omega) only[kd,Tryz.results61,hfin];simp[List.take_take]
 have hn0:n=0:=by omega
 subst hn0;have hfin:dR l=[]:=by rw[hT];simp[dR]
 refine aE (aD fun _ K=>?_);simp(disch:=omega) only[kd,aa];apply K;refine bT rfl (fun hz=>by cases hz) (fun hz=>bK ?_);show bs _ _ _ _;refine aD fun _ K=>?_;simp(disch:=omega) only[kd,aa,Nat.zero_le,Cc xF,Nat.reduceMul];apply K
 refine aI ⟨.inr rfl,jz 21 (cH (f:=fU) (l:=[]) rfl) ?_ rfl⟩;simp(disch:=omega) only[kd,Tryz.results61,hfin];simp[ls]
end Go.Proofs.YtfgeomlagfomgaaGreatDoor
