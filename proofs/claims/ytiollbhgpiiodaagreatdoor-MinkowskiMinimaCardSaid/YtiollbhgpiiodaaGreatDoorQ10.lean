/-
  Part 11 of a proof (walks and plain facts).
-/
import Derived.Test.YtiollbhgpiiodaaGreatDoorQ09
import Derived.Shelf.Small.Bits
import Derived.Ground.NamesProg
import Derived.Test.YtiollbhgpiiodaaGreatDoorProg
set_option linter.all false
set_option maxRecDepth 100000
set_option maxHeartbeats 64000000
open List renaming mem_map → ak
open List renaming mem_of_getElem? → aw
open List renaming getElem?_map → az
namespace Go.Proofs.YtiollbhgpiiodaaGreatDoor
open Go.RowKit
section
section
variable {P:Program} {k:Nat} {s s':AS} {Q:Exit->AS->Prop}
theorem CP {items:List (dD P)} (hI:gQ P items) {ow:List Nat} {ops:Array Oper} (hk:eP k ops=true) {v0:Value} {w0:World} {O X:Nat->Prop} {Q:Exit->Act->World->Prop} {suf:List Nat}: ∀(l:List Oper) (n:Nat) (s s':AS) (a:Act) (w:World),(∀(j:Nat) o,l[j]?=some o->ops[n+j]?=some o)->
  jq P items ow ops (l.zipIdx n) s=some s'->kC k v0 w0 O X s a w->(∀a' w',kC k v0 w0 O X s' a' w'->wpOps P ops Q suf a' w')->wpOps P ops Q (List.range' n l.length++suf) a w
 |[],n,s,s',a,w,_,h,r,hQ=>by
  simp only[List.zipIdx_nil,jq]at h;injection h with h
  subst h;exact hQ a w r
 |o::l,n,s,s',a,w,hl,h,r,hQ=>by
  simp only[List.zipIdx_cons,jq]at h;split at h
  ·rename_i s1 hs1;simp only[List.length_cons,List.range'_succ,List.cons_append,wpOps];have ho:ops[n]?=some o:=by have:=hl 0 o rfl;simpa using this
   rw[ho];simp only;have:=C6 (Q:=Q) hI r (kj hk ho) hs1 (K:=wpOps P ops Q (List.range' (n+1) l.length++suf)) (fun v w' hr=>CP hI hk l (n+1) s1 s' _ _ (fun j o hj=>by have:=hl (j+1) o (by simpa using hj);rwa[show n+(j+1)=n+1+j by omega]at this) h hr hQ);split at this
   ·rename_i hw;rw[if_pos hw];exact .inl this
   rename_i hw;rw[if_neg hw];exact this
  cases h
structure Kj (ops:Array Oper) (m:Nat) (f:FuncId) (args:List TV) (k n fa:Nat) (F:List OObj) (s:AS):Prop where
 ts:cwTs ops m s=some (f,args.set k (.one (.sl fa 0 0 n)))
 fam:s.H fa=F.map (renO fa)
def Ry (ops:Array Oper) (m:Nat) (r:TV) (fa:Nat) (F':List OObj) (s:AS):AS:=AS.put ⟨s.tmps.map (bo (kM fa)),be s.H fa (F'.map (renO fa))⟩ (cwD ops m) r
theorem xC (m:Nat) {f:FuncId} {args:List TV} {ka n:Nat} {F F':List OObj} {r:TV} (hcon:i5 P f args ka n F F' r) (fa:Nat) (items:List (aM P)) (ow:List Nat) {id:Nat} {ops:Array Oper} (hkd:eP k ops=true) (hk:ka<args.length) (hlen:0<n) (hpure:gm ka 0 args=true) (hself: ∀o∈F,selfO 0 o) (hself': ∀o∈F',selfO 0 o) (hfa:fa<=4999) (hl:s.tmps.length<=1000000) (hm:m<ops.toList.length)
  (h:bD P (items.map aM.a) ow (aY ops (ops.toList.take m) 0) (some s) (fun s1=>Kj ops m f args ka n fa F s1/\s1.tmps.length<=1000000/\bD P (items.map aM.a) ow (aY ops (ops.toList.drop (m+1)) (m+1)) (some (Ry ops m r fa F' s1)) (Q .normal))):eR P k (.region id ops false) Q s:=fun v0 w0 O X a w r0=>by
 obtain⟨s1,h1,⟨q1,q2⟩,hl1,h2⟩:=bK P (items.map aM.a) ow ops _ 0 s _ h;obtain⟨s',h3,h4⟩:=bK P (items.map aM.a) ow ops _ (m+1) _ _ h2;obtain⟨o,ho⟩: ∃o,ops[m]?=some o:=⟨ops[m],by simp at hm;simp[hm]⟩;unfold cwTs at q1;rw[ho]at q1;simp only at q1;split at q1
 ·rename_i c hg hop1;split at q1
  ·rename_i f' hcal;split at q1
   ·rename_i ts hts;injection q1 with q1
    injection q1 with q1 q3
    subst q1 q3;refine wp_region ?_;have hsz:ops.size=(ops.toList.take m).length+(1+(ops.toList.drop (m+1)).length):=by simp at hm⊢;omega
    rw[hsz,List.range_eq_range',<- List.range'_append_1,Nat.zero_add];have hml:(ops.toList.take m).length=m:=by rw[List.length_take];omega
    refine CP (aM.ok items) hkd (ops.toList.take m) 0 s s1 a w (fun j o hj=>?_) h1 r0 fun a' w' r'=>?_
    ·rw[List.getElem?_take]at hj;split at hj
     ·simpa using hj
     cases hj
    rw[hml,Nat.add_comm 1,List.range'_succ];simp only[wpOps,ho];rw[if_pos (by simp[Region.wanted,hg])];refine .inl (Cf r'.1 hop1 hcal hcon hfa hk hlen hts hpure q2 hself hself' fun v w1 hr1=>?_);refine p8 (aM.ok items) hkd (Q:=fun e a' w'=> ∃s',Q e s'/\kC k v0 w0 O X s' a' w') (ops.toList.drop (m+1)) (m+1) _ s' _ _ (fun j o hj=>?_) h3 ⟨?_,?_⟩ (fun a' w' hr=>⟨s',h4,hr⟩)
    ·rw[List.getElem?_drop]at hj;simpa using hj
    ·have:cwD ops m=o.dst:=by unfold cwD;rw[ho];rfl
     unfold Ry;rw[this];exact hr1
    rw[pE v (kj hkd ho)];exact r'.2
   cases q1
  cases q1
 cases q1
theorem DN (m:Nat) {f:FuncId} {args:List TV} {ka n:Nat} {F F':List OObj} {r:TV} (hcon:i5 P f args ka n F F' r) (fa:Nat) (items:List (aM P)) (ow:List Nat) {id:Nat} {ops:Array Oper} {y:Code} (hkd:eP k ops=true) (hk:ka<args.length) (hlen:0<n) (hpure:gm ka 0 args=true) (hself: ∀o∈F,selfO 0 o) (hself': ∀o∈F',selfO 0 o) (hfa:fa<=4999) (hl:s.tmps.length<=1000000) (hm:m<ops.toList.length)
  (h: ∀K:AS->Prop,(∀s1,(Kj ops m f args ka n fa F s1/\s1.tmps.length<=1000000/\ ∀K:AS->Prop,(∀s',eR P k y Q s'->K s')->bD P (items.map aM.a) ow (aY ops (ops.toList.drop (m+1)) (m+1)) (some (Ry ops m r fa F' s1)) K)->K s1)->bD P (items.map aM.a) ow (aY ops (ops.toList.take m) 0) (some s) K):eR P k (.seq (.region id ops false) y) Q s:=
 bI (xC m hcon fa items ow hkd hk hlen hpure hself hself' hfa hl hm (h _ fun s1 ⟨q1,q2,q3⟩=>⟨q1,q2,q3 _ fun _ h=>h⟩))
theorem pA (m:Nat) {f:FuncId} {args:List TV} {ka n:Nat} {F F':List OObj} {r:TV} (hcon:i5 P f args ka n F F' r) (fa:Nat) (items:List (aM P)) (ow:List Nat) {id:Nat} {ops:Array Oper} (hkd:eP k ops=true) (hk:ka<args.length) (hlen:0<n) (hpure:gm ka 0 args=true) (hself: ∀o∈F,selfO 0 o) (hself': ∀o∈F',selfO 0 o) (hfa:fa<=4999) (hl:s.tmps.length<=1000000) (hm:m<ops.toList.length)
  (h: ∀K:AS->Prop,(∀s1,(Kj ops m f args ka n fa F s1/\s1.tmps.length<=1000000/\ ∀K:AS->Prop,(∀s',Q .normal s'->K s')->bD P (items.map aM.a) ow (aY ops (ops.toList.drop (m+1)) (m+1)) (some (Ry ops m r fa F' s1)) K)->K s1)->bD P (items.map aM.a) ow (aY ops (ops.toList.take m) 0) (some s) K):eR P k (.region id ops false) Q s:=
 xC m hcon fa items ow hkd hk hlen hpure hself hself' hfa hl hm (h _ fun s1 ⟨q1,q2,q3⟩=>⟨q1,q2,q3 _ fun _ h=>h⟩)
theorem A8 {c:Code} (hk:k<s.tmps.length) (h:eR P k c Q s):bL P c Q s:=fun w0 O X a w r=>by
 obtain⟨v0,hv⟩: ∃v0,a.tmps[k]?=some v0:=⟨a.tmps[k]'(by rw[r.2.1];exact hk),by simp⟩;exact wp_mono (h v0 w0 O X a w ⟨r,hv⟩) fun e a' w' ⟨s',h1,h2⟩=>⟨s',h1,h2.1⟩
end
def zf (m:Nat):AV->Prop
 | .sl _ r _ _=>r<m
 | .ptr _ r _ _=>r<m
 |_=>True
theorem H8 {s:AS} (a:Nat) {F:List OObj} {o:OObj} (hH:s.H a=F++[o]) (hself: ∀q∈F,∀e∈q.elems,∀x∈e,zf F.length x):
  ci s ⟨s.tmps.map (bo fun x y=>x==a&&y==F.length),be s.H a F⟩:=by
 rintro w0 O X act w ⟨h1,hsz,ρ,hinv,htm⟩;have htm:bY X ρ s act w:=htm;generalize hH1:be s.H a F=H1;have hHa:H1 a=F:=by rw[<- hH1];exact bF
 have hHn: ∀x,x≠a->H1 x=s.H x:=fun x h=>by rw[<- hH1];exact aZ h
 have back: ∀(x y:Nat) q,(H1 x)[y]?=some q->(s.H x)[y]?=some q/\(x=a->y<F.length/\q∈F):=fun x y q h=>by
  by_cases hx:x=a
  ·subst hx;rw[hHa]at h;have hlt:=(List.getElem?_eq_some_iff.1 h).1;exact⟨by rw[hH,List.getElem?_append_left hlt];exact h,fun _=>⟨hlt,aw h⟩⟩
  rw[hHn x hx]at h;exact⟨h,fun e=>absurd e hx⟩
 have fwd: ∀(x y:Nat) q,(s.H x)[y]?=some q-> ¬(x=a/\y=F.length)->(H1 x)[y]?=some q:=fun x y q h hne=>by
  by_cases hx:x=a
  ·subst hx;rw[hH]at h;rw[hHa];have hlt:=(List.getElem?_eq_some_iff.1 h).1;simp at hlt;rw[List.getElem?_append_left (by have:y≠F.length:=fun e=>hne ⟨rfl,e⟩;omega)]at h;exact h
  rw[hHn x hx];exact h
 have hXo: ∀c,Xo X ρ H1 c->Xo X ρ s.H c:=fun c hc=>by
  rcases hc with hc|⟨x,y,q,n,g1,g2⟩
  ·exact .inl hc
  exact .inr ⟨x,y,q,n,(back x y q g1).1,g2⟩
 have hav: ∀x v,AV.rel ρ s.H (Xo X ρ s.H) w x v->AV.rel ρ H1 (Xo X ρ H1) w (bs (fun x y=>x==a&&y==F.length) x) v:=fun x v h=>by
  cases x with
  |p x=>exact cu.weaken (fun c _ hc=>hXo c hc) h
  |junk=>trivial
  |sl x y off len=>
   simp only[bs];by_cases hc:x=a/\y=F.length
   ·rw[if_pos (by simp[hc])];trivial
   rw[if_neg (by simpa using hc)];obtain⟨q,g1,g2⟩:=h;exact⟨q,fwd x y q g1 hc,g2⟩
  |ptr x y i j=>
   simp only[bs];by_cases hc:x=a/\y=F.length
   ·rw[if_pos (by simp[hc])];trivial
   rw[if_neg (by simpa using hc)];obtain⟨q,b,c,g1,g2⟩:=h;exact⟨q,b,c,fwd x y q g1 hc,g2⟩
 refine⟨h1,by simpa using hsz,ρ,⟨hinv.keep,fun x y q hq=>?_,fun x y x' y' q q' c n n' hq hq'=>hinv.inj x y x' y' q q' c n n' (back x y q hq).1 (back x' y' q' hq').1,fun x y q c n hq=>hinv.old x y q c n (back x y q hq).1,hinv.bar,fun x y q hq=>hinv.self x y q (back x y q hq).1⟩,fun t x hx=>?_⟩
 ·obtain⟨hb1,hb2⟩:=back x y q hq;obtain⟨q1,q2,q3⟩:=hinv.objs x y q hb1;refine⟨q1,q2,?_⟩;cases hr:ρ x y with
  |none=>rw[hr]at q3;exact q3
  |some bc=>
   obtain⟨b',c⟩:=bc;rw[hr]at q3;obtain⟨cells,p1,p2,p3,p4,p5⟩:=q3;refine⟨cells,p1,p2,p3,p4,fun i e j z he hz=>?_⟩;obtain⟨u,u1,u2,u3⟩:=p5 i e j z he hz;refine⟨u,u1,u2,?_⟩;have hs:=hinv.self x y q hb1 e (aw he) z (aw hz);have hk:=hav z u u3;have hlt:x=a->zf F.length z:=fun hx=>hself q (hb2 hx).2 e (aw he) z (aw hz)
   cases z with
   |p z=>exact hk
   |junk=>trivial
   |sl z r off len=>
    have hs:z=x:=hs;subst hs;rw[show bs (fun x y=>x==a&&y==F.length) (.sl z r off len)= .sl z r off len from if_neg (by
     simp only[Bool.and_eq_true,beq_iff_eq];rintro⟨e1,e2⟩;have hl:r<F.length:=hlt e1;omega)]at hk
    exact hk
   |ptr z r i' j'=>
    have hs:z=x:=hs;subst hs;rw[show bs (fun x y=>x==a&&y==F.length) (.ptr z r i' j')= .ptr z r i' j' from if_neg (by
     simp only[Bool.and_eq_true,beq_iff_eq];rintro⟨e1,e2⟩;have hl:r<F.length:=hlt e1;omega)]at hk
    exact hk
 simp only[az]at hx;obtain⟨y,hy,rfl⟩:=Option.map_eq_some_iff.1 hx;obtain⟨v,v1,v2⟩:=htm t y hy;exact⟨v,v1,mr v2 hav⟩
end
section
structure Rs (P:Program) (b:Nat) (ty:TypeId) (cs:List PV) where
 i:Nat
 f:FuncId
 args:List TV
 res:CallRes
 h:CallT P b ty f args cs res cs
 ok:lentOk args res cs=true
def Rs.a {P:Program} {b:Nat} {ty:TypeId} {cs:List PV} (it:Rs P b ty cs):dD P:=⟨it.i,it.f,it.args,it.res⟩
section
variable {P:Program} {b:Nat} {ty:TypeId} {cs:List PV} {Q:Exit->AS->List PV->Prop} {s:AS}
end
end
section
def uA (b:Nat) (_ty:TypeId) (cs:List PV) (w:World):Prop:=
 b<w.heap.size/\ ∀(j:Nat) x,cs[j]?=some x-> ∃v:Value,x= .raw v/\w.cell? ⟨b,j,none⟩=some v/\v.oneCell'=true
theorem uA.lt {b:Nat} {ty:TypeId} {cs:List PV} {w:World} (h:uA b ty cs w):b<w.heap.size:=h.1
def pw (b:Nat) (ty:TypeId) (w0:World) (O X:Nat->Prop) (s:AS) (cs:List PV) (a:Act) (w:World):Prop:=fW w0 O X s a w/\uA b ty cs w0/\ ¬O b
theorem pw.box {b:Nat} {ty:TypeId} {w0 w:World} {O X:Nat->Prop} {s:AS} {cs:List PV} {a:Act} (h:pw b ty w0 O X s cs a w):uA b ty cs w:=by
 obtain⟨⟨_,_,ρ,hinv,_⟩,hb,hO⟩:=h;have hlt:=hb.lt;refine⟨Nat.lt_of_lt_of_le hlt hinv.keep.size,fun j x hx=>?_⟩;obtain⟨v,h1,h2,h3⟩:=hb.2 j x hx;exact⟨v,h1,by rw[lG (hinv.keep.block b hlt hO)];exact h2,h3⟩
section
variable {P:Program} {b:Nat} {ty:TypeId} {cs cs':List PV} {s s':AS} {w0 w:World} {O X:Nat->Prop} {a:Act}
def dS (P:Program) (b:Nat) (ty:TypeId) (c:Code) (Q:Exit->AS->List PV->Prop) (s:AS) (cs:List PV):Prop:=
 ∀(w0:World) (O X:Nat->Prop) (a:Act) (w:World),pw b ty w0 O X s cs a w->c.wp P (fun e a' w'=> ∃s' cs',Q e s' cs'/\pw b ty w0 O X s' cs' a' w') a w
variable {Q:Exit->AS->List PV->Prop}
theorem l9 {c:Code} (h:bL P c (fun e s'=>Q e s' cs) s):dS P b ty c Q s cs:=fun w0 O X a w r=>
 wp_mono (h _ _ _ _ _ r.1) fun e a' w' ⟨s',g1,g2⟩=>⟨s',cs,g1,g2,r.2⟩
theorem pw.weak (h:ci s s') (r:pw b ty w0 O X s cs a w):pw b ty w0 O X s' cs a w:=⟨h _ _ _ _ _ r.1,r.2⟩
theorem dS.weak {c:Code} (h:ci s s') (k:dS P b ty c Q s' cs):dS P b ty c Q s cs:=fun _ _ _ _ _ r=>k _ _ _ _ _ (r.weak h)
theorem dS.mono {c:Code} {Q':Exit->AS->List PV->Prop} (h:dS P b ty c Q s cs) (k: ∀e s' cs',Q e s' cs'->Q' e s' cs'):dS P b ty c Q' s cs:=fun _ _ _ _ _ r=>
 wp_mono (h _ _ _ _ _ r) fun _ _ _ ⟨s',cs',h1,h2⟩=>⟨s',cs',k _ _ _ h1,h2⟩
theorem fJ (h:Q .normal s cs):dS P b ty .skip Q s cs:=fun _ _ _ _ _ r=>wp_skip ⟨s,cs,h,r⟩
theorem Bb {id:Nat} (h:Q (.exit id) s cs):dS P b ty (.exit id) Q s cs:=fun _ _ _ _ _ r=>wp_exit ⟨s,cs,h,r⟩
theorem fg (h:Q .ret s cs):dS P b ty .ret Q s cs:=fun _ _ _ _ _ r=>wp_ret ⟨s,cs,h,r⟩
theorem bM {x y:Code} (h:dS P b ty x (mT (dS P b ty y Q) Q) s cs):dS P b ty (.seq x y) Q s cs:=fun _ _ _ _ _ r=>
 wp_seq (wp_mono (h _ _ _ _ _ r) fun e a w ⟨s',cs',h1,h2⟩=>by
  cases e with
  |normal=>exact h1 _ _ _ _ _ h2
  |_=>exact⟨s',cs',h1,h2⟩)
theorem cY {id:Nat} {x:Code} (h:dS P b ty x (rY id Q) s cs):dS P b ty (.block id x) Q s cs:=fun _ _ _ _ _ r=>
 wp_block (wp_mono (h _ _ _ _ _ r) fun e a w ⟨s',cs',h1,h2⟩=>by
  cases e with
  |exit id'=>
   simp only[rY]at h1;simp only[Exit.inBlock];split at h1
   ·rename_i hid;rw[if_pos hid];exact⟨s',cs',h1,h2⟩
   rename_i hid;rw[if_neg hid];exact⟨s',cs',h1,h2⟩
  |_=>exact⟨s',cs',h1,h2⟩)
theorem Ba {c:Operand} {x y:Code} {v:Bool} (hc:s.ev c=some (.raw (.bool v))) (ht:v=true->dS P b ty x Q s cs) (hf:v=false->dS P b ty y Q s cs):dS P b ty (.cond c x y) Q s cs:=fun _ _ _ _ _ r=>by
 obtain⟨⟨h1,hsz,ρ,hinv,htm⟩,_⟩:=id r;have hb:=(bO (cz htm c _ hc)).1;exact wp_cond_split hb (fun h=>ht h _ _ _ _ _ r) (fun h=>hf h _ _ _ _ _ r)
theorem j1 {c:Operand} {x y:Code} (hc:s.ev c=some (.raw (.bool true))) (h:dS P b ty x Q s cs):dS P b ty (.cond c x y) Q s cs:=Ba hc (fun _=>h) (fun h=>by cases h)
theorem jt {c:Operand} {x y:Code} (hc:s.ev c=some (.raw (.bool false))) (h:dS P b ty y Q s cs):dS P b ty (.cond c x y) Q s cs:=Ba hc (fun h=>by cases h) (fun _=>h)
theorem io {c:Operand} {y z:Code} (hc:s.ev c=some (.raw (.bool true))) (h:dS P b ty z Q s cs):dS P b ty (.seq (.cond c .skip y) z) Q s cs:=bM (j1 hc (fJ h))
theorem j5 {c:Operand} {x z:Code} {id:Nat} (hc:s.ev c=some (.raw (.bool false))) (h:Q (.exit id) s cs):dS P b ty (.seq (.cond c x (.exit id)) z) Q s cs:=bM (jt hc (Bb h))
theorem Ku {G:Type} (St:G->AS) (Sc:G->List PV) (μ:G->Nat) (g0:G) {c:Code} (h0:ci s (St g0)) (h0':Sc g0=cs)
  (round: ∀g,dS P b ty c (mT (fun s' cs'=> ∃g',μ g'<μ g/\ci s' (St g')/\Sc g'=cs') Q) (St g) (Sc g)):dS P b ty (.loop c) Q s cs:=fun w0 O X a w r=>by
 classical
 subst h0'
 let p:Act->World->Nat->Prop:=fun a w n=> ∃g,μ g=n/\pw b ty w0 O X (St g) (Sc g) a w
 let m:Act->World->Nat:=fun a w=>if h: ∃n,p a w n then Classical.choose (bU h)else 0
 refine wp_loop (fun a w=> ∃n,p a w n) m ⟨_,g0,rfl,r.weak h0⟩ ?_;intro a w hI;have hm:m a w=Classical.choose (bU hI):=dif_pos hI;obtain⟨hp,hleast⟩:=Classical.choose_spec (bU hI);rw[<- hm]at hp;obtain⟨g,hg,hr⟩:=hp;refine wp_mono (round g _ _ _ _ _ hr) fun e a' w' ⟨s',cs',h1,h2⟩=>?_
 cases e with
 |normal=>
  obtain⟨g',hlt,hw,hcs⟩:=h1;subst hcs;have hr':=h2.weak hw;have hI': ∃n,p a' w' n:=⟨_,g',rfl,hr'⟩;refine⟨hI',?_⟩;have hm':m a' w'=Classical.choose (bU hI'):=dif_pos hI';obtain⟨_,hl'⟩:=Classical.choose_spec (bU hI');have:=hl' (μ g') ⟨g',rfl,hr'⟩;rw[hm'];omega
 |_=>exact⟨s',cs',h1,h2⟩
theorem eH {G:Type} (St:G->AS) (Sc:G->List PV) (μ:G->Nat) (g0:G) {id:Nat} {x:Code} (h0:ci s (St g0)) (h0':Sc g0=cs)
  (round: ∀g,dS P b ty x (mT (fun s' cs'=> ∃g',μ g'<μ g/\ci s' (St g')/\Sc g'=cs') (rY id Q)) (St g) (Sc g)):dS P b ty (.block id (.loop x)) Q s cs:=
 cY (Ku St Sc μ g0 h0 h0' round)
/-! Regions. -/
theorem uQ {y:Code} (items:List (aM P)) (ow:List Nat) {id:Nat} {ops:Array Oper} (h: ∀K:AS->Prop,(∀s',dS P b ty y Q s' cs->K s')->bD P (items.map aM.a) ow (aY ops ops.toList 0) (some s) K):dS P b ty (.seq (.region id ops false) y) Q s cs:=
 bM (l9 (ov items ow (h _ fun _ h=>h)))
theorem Kv (items:List (aM P)) (ow:List Nat) {id:Nat} {ops:Array Oper} (h: ∀K:AS->Prop,(∀s',Q .normal s' cs->K s')->bD P (items.map aM.a) ow (aY ops ops.toList 0) (some s) K):dS P b ty (.region id ops false) Q s cs:=
 l9 (ov items ow (h _ fun _ h=>h))
theorem xB (hm:P.follows .mixedOrders=true) (items:List (aM P)) (ow:List Nat) {id:Nat} {y:Code} {ops:Array Oper} (hd:ce [] ops=true) (h: ∀K:AS->Prop,(∀s',dS P b ty y Q s' cs->K s')->bD P (items.map aM.a) ow (aY ops ops.toList 0) (some s) K):dS P b ty (.seq (.region id ops true) y) Q s cs:=
 bM (l9 (jO hm items ow hd (by simp) (fun x hx=>by simp at hx) (h _ fun _ h=>h)))
theorem Id (hm:P.follows .mixedOrders=true) (items:List (aM P)) (ow:List Nat) {id:Nat} {ops:Array Oper} (hd:ce [] ops=true) (h: ∀K:AS->Prop,(∀s',Q .normal s' cs->K s')->bD P (items.map aM.a) ow (aY ops ops.toList 0) (some s) K):dS P b ty (.region id ops true) Q s cs:=
 l9 (jO hm items ow hd (by simp) (fun x hx=>by simp at hx) (h _ fun _ h=>h))
theorem ox {y:Code} {id:Nat} {ops:Array Oper} (h: ∀K:AS->Prop,(∀s',dS P b ty y Q s' cs->K s')->bD P [] [] (aY ops ops.toList 0) (some s) K):dS P b ty (.seq (.region id ops false) y) Q s cs:=uQ [] [] h
theorem xA {id:Nat} {ops:Array Oper} (h: ∀K:AS->Prop,(∀s',Q .normal s' cs->K s')->bD P [] [] (aY ops ops.toList 0) (some s) K):dS P b ty (.region id ops false) Q s cs:=Kv [] [] h
theorem DL (hm:P.follows .mixedOrders=true) {y:Code} {id:Nat} {ops:Array Oper} (hd:ce [] ops=true) (h: ∀K:AS->Prop,(∀s',dS P b ty y Q s' cs->K s')->bD P [] [] (aY ops ops.toList 0) (some s) K):dS P b ty (.seq (.region id ops true) y) Q s cs:=xB hm [] [] hd h
theorem DK (hm:P.follows .mixedOrders=true) {id:Nat} {ops:Array Oper} (hd:ce [] ops=true) (h: ∀K:AS->Prop,(∀s',Q .normal s' cs->K s')->bD P [] [] (aY ops ops.toList 0) (some s) K):dS P b ty (.region id ops true) Q s cs:=Id hm [] [] hd h
def CallG (P:Program) (b:Nat) (ty:TypeId) (f:FuncId) (args:List TV) (cs:List PV) (res:CallRes):Prop:=callable P f=true/\ ∀w,uA b ty cs w->Dx P f args res w
theorem gf {f:FuncId} {fn:Func} {c:Code} {args:List TV} {res:CallRes} (hf:P.funcs[f]?=some fn) (hb:fn.body=some c) (hn:callable P f=true)
  (h:dS P b ty c (fun e s k=>(e= .normal\/e= .ret)/\k=cs/\ ∃s',ci s s'/\mO P fn res s') ⟨args++List.replicate (fn.ntmps-args.length) .undef,fun _=>[]⟩ cs):CallG P b ty f args cs res:=
 ⟨hn,fun w hw=>u7 (uA b ty cs) hf hb hn (fun w0 X a hG r=>wp_mono (h w0 _ X a w0 ⟨r,hG,fun h=>h⟩) fun e a' w' ⟨s',k,⟨g1,_,g2⟩,g3⟩=>⟨s',⟨g1,g2⟩,g3.1⟩) w hw⟩
end
structure fv (P:Program) (b:Nat) (ty:TypeId) (cs:List PV) where
 i:Nat
 f:FuncId
 args:List TV
 res:CallRes
 h:CallG P b ty f args cs res
 ok:cs=cs
def fv.a {P:Program} {b:Nat} {ty:TypeId} {cs:List PV} (it:fv P b ty cs):dD P:=⟨it.i,it.f,it.args,it.res⟩
section
variable {P:Program} {b:Nat} {ty:TypeId} {cs cs':List PV} {s s':AS} {w0 w:World} {O X:Nat->Prop} {a:Act} {Q:Exit->AS->List PV->Prop}
theorem IX (items:List (aM P)) (lents:List (fv P b ty cs)) (hw:uA b ty cs w):l4 P (items.map aM.a++lents.map fv.a) w:=fun it hit=>by
 rcases List.mem_append.1 hit with h|h
 ·exact(aM.ok items).at w it h
 obtain⟨x,_,rfl⟩:=List.mem_map.1 h;exact x.h.2 w hw
theorem TQ (items:List (aM P)) (lents:List (fv P b ty cs)) {ow:List Nat} {ops:Array Oper} {i:Nat} {o:Oper} {s1:AS} (hrel:pw b ty w0 O X s cs a w) (h:bZ P (items.map aM.a++lents.map fv.a) ow ops i o s=some s1) {K:Act->World->Prop} {Q:Exit->Act->World->Prop}
  (hK: ∀v w',pw b ty w0 O X s1 cs (a.put o.dst v) w'->K (a.put o.dst v) w'):if Region.wanted o (yielded ops a.tmps)then o.wp P a w K Q else K (a.put o.dst undef) w:=
 tl (IX items lents hrel.box) hrel.1 h fun v w' hr=>hK v w' ⟨hr,hrel.2⟩
theorem M7 (items:List (aM P)) (lents:List (fv P b ty cs)) {ow:List Nat} {ops:Array Oper} {Q:Exit->Act->World->Prop}:
  ∀(l:List Oper) (k:Nat) (s s':AS) (a:Act) (w:World),(∀(j:Nat) o,l[j]?=some o->ops[k+j]?=some o)->jq P (items.map aM.a++lents.map fv.a) ow ops (l.zipIdx k) s=some s'->pw b ty w0 O X s cs a w->
   (∀a' w',pw b ty w0 O X s' cs a' w'->Q .normal a' w')->wpOps P ops Q (List.range' k l.length) a w
 |[],k,s,s',a,w,_,h,r,hQ=>by
  simp only[List.zipIdx_nil,jq]at h;injection h with h
  subst h;exact hQ a w r
 |o::l,k,s,s',a,w,hl,h,r,hQ=>by
  simp only[List.zipIdx_cons,jq]at h;split at h
  ·rename_i s1 hs1;simp only[List.length_cons,List.range'_succ,wpOps];have ho:ops[k]?=some o:=by have:=hl 0 o rfl;simpa using this
   rw[ho];simp only;have:=TQ (Q:=Q) items lents r hs1 (K:=wpOps P ops Q (List.range' (k+1) l.length)) (fun v w' hr=>M7 items lents l (k+1) s1 s' _ _ (fun j o hj=>by have:=hl (j+1) o (by simpa using hj);rwa[show k+(j+1)=k+1+j by omega]at this) h hr hQ);split at this
   ·rename_i hw;rw[if_pos hw];exact .inl this
   rename_i hw;rw[if_neg hw];exact this
  cases h
theorem Ie (lents:List (fv P b ty cs)) (items:List (aM P)) (ow:List Nat) {id:Nat} {ops:Array Oper}
  (h:bD P (items.map aM.a++lents.map fv.a) ow (aY ops ops.toList 0) (some s) (fun s'=>Q .normal s' cs)):dS P b ty (.region id ops false) Q s cs:=fun w0 O X a w r=>by
 obtain⟨s',h1,h2⟩:=bK P _ ow ops ops.toList 0 s _ h;refine wp_region ?_;rw[List.range_eq_range'];have:=M7 (w0:=w0) (O:=O) (X:=X) items lents (Q:=fun e a' w'=> ∃s' k,Q e s' k/\pw b ty w0 O X s' k a' w') ops.toList 0 s s' a w (fun j o hj=>by simpa using hj) h1 r (fun a' w' hr=>⟨s',cs,h2,hr⟩);simpa using this
theorem dy (lents:List (fv P b ty cs)) (items:List (aM P)) (ow:List Nat) {id:Nat} {ops:Array Oper} {y:Code}
  (h: ∀K:AS->Prop,(∀s',dS P b ty y Q s' cs->K s')->bD P (items.map aM.a++lents.map fv.a) ow (aY ops ops.toList 0) (some s) K):dS P b ty (.seq (.region id ops false) y) Q s cs:=
 bM (Ie lents items ow (h _ fun _ h=>h))
theorem Kw (m j d:Nat) (T:TV) (items:List (aM P)) (ow:List Nat) {id:Nat} {ops:Array Oper} (hl:s.tmps.length<=1000000) (hm:m<ops.toList.length)
  (h:bD P (items.map aM.a) ow (aY ops (ops.toList.take m) 0) (some s) (fun s1=>Uu P b cs ops m j d T s1/\s1.tmps.length<=1000000/\bD P (items.map aM.a) ow (aY ops (ops.toList.drop (m+1)) (m+1)) (some (s1.put (some d) T)) (fun s'=>Q .normal s' cs))):dS P b ty (.region id ops false) Q s cs:=fun w0 O X a w r0=>by
 obtain⟨s1,h1,⟨⟨t,x,o,ho,hop,hdst,hg,hx,hT⟩⟩,hl1,h2⟩:=bK P (items.map aM.a) ow ops _ 0 s _ h;obtain⟨s',h3,h4⟩:=bK P (items.map aM.a) ow ops _ (m+1) _ _ h2;refine wp_region ?_;have hsz:ops.size=(ops.toList.take m).length+(1+(ops.toList.drop (m+1)).length):=by simp at hm⊢;omega
 rw[hsz,List.range_eq_range',<- List.range'_append_1,Nat.zero_add];have hml:(ops.toList.take m).length=m:=by rw[List.length_take];omega
 refine iC (aM.ok items) (ops.toList.take m) 0 s s1 a w (fun j o hj=>?_) h1 r0.1 fun a' w' r'=>?_
 ·rw[List.getElem?_take]at hj;split at hj
  ·simpa using hj
  cases hj
 rw[hml,Nat.add_comm 1,List.range'_succ];simp only[wpOps,ho];rw[if_pos (by simp[Region.wanted,hg])];refine .inl ?_;have rG:pw b ty w0 O X s1 cs a' w':=⟨r',r0.2⟩;have p6:=rG.box.2;obtain⟨k1,k2,ρ,hinv,htm⟩:=r';have htm:bY X ρ s1 a' w':=htm;have hv:=(bO (cz htm x _ hx)).1;have hcs:mj ρ s1.H (Xo X ρ s1.H) w' b j ((cs.drop j).map AV.p):=fun i y hy=>by
  rw[az]at hy;obtain⟨z,hz,rfl⟩:=Option.map_eq_some_iff.1 hy;rw[List.getElem?_drop]at hz;obtain⟨v,rfl,v1,v2⟩:=p6 _ z hz;exact⟨v,v1,v2,cu.raw _ v2⟩
 obtain⟨v,g1,g2⟩:=mt hT hcs;have hrun:(execOp a'.eval o).run P w'= .ok (.value v) w':=by
  unfold execOp;rw[hop];refine ee ?_;rw[hv];exact g1
 unfold Oper.wp;rw[hrun];simp only[Oper.upon];rw[hdst];refine eZ (aM.ok items) (Q:=fun e a' w'=> ∃s' cs',Q e s' cs'/\pw b ty w0 O X s' cs' a' w') (ops.toList.drop (m+1)) (m+1) _ s' _ _ (fun j o hj=>?_) h3 (gT k1 k2 hinv htm g2) (fun a' w' hr=>⟨s',cs,h4,hr,r0.2⟩);rw[List.getElem?_drop]at hj;simpa using hj
theorem If (m j d:Nat) (T:TV) (items:List (aM P)) (ow:List Nat) {id:Nat} {ops:Array Oper} {y:Code} (hl:s.tmps.length<=1000000) (hm:m<ops.toList.length)
  (h: ∀K:AS->Prop,(∀s1,(Uu P b cs ops m j d T s1/\s1.tmps.length<=1000000/\ ∀K:AS->Prop,(∀s',dS P b ty y Q s' cs->K s')->bD P (items.map aM.a) ow (aY ops (ops.toList.drop (m+1)) (m+1)) (some (s1.put (some d) T)) K)->K s1)->bD P (items.map aM.a) ow (aY ops (ops.toList.take m) 0) (some s) K):dS P b ty (.seq (.region id ops false) y) Q s cs:=
 bM (Kw m j d T items ow hl hm (h _ fun s1 ⟨q1,q2,q3⟩=>⟨q1,q2,q3 _ fun _ h=>h⟩))
end
end
end Go.Proofs.YtiollbhgpiiodaaGreatDoor
namespace Go.Proofs
open Go.Shelf
def Tryz.lays133_ren:Go.Shelf.Ren:=⟨fun|133=>168|128=>172|n=>n,fun|51=>56|3=>3|4=>4|46=>57|5=>5|9=>9|n=>n,fun|n=>n⟩
theorem Tryz.lays133:Go.Proofs.Lays.n133 Tryz.prog Tryz.lays133_ren:={
 mixed:=by kernel_rfl
 f128:=Tryz.func172.trans (congrArg some (by kernel_rfl))
 f133:=Tryz.func168.trans (congrArg some (by kernel_rfl))
 t3:=Tryz.underlying3
 a3:=Tryz.isAgg3
 z3:=Tryz.sizeOf3
 v3:=Tryz.zeroValue3
 t4:=Tryz.underlying4
 a4:=Tryz.isAgg4
 z4:=Tryz.sizeOf4
 v4:=Tryz.zeroValue4
 t5:=Tryz.underlying5
 a5:=Tryz.isAgg5
 z5:=Tryz.sizeOf5
 v5:=Tryz.zeroValue5
 t9:=Tryz.underlying9
 a9:=Tryz.isAgg9
 z9:=Tryz.sizeOf9
 v9:=Tryz.zeroValue9
 t46:=Tryz.underlying57
 a46:=Tryz.isAgg57
 z46:=Tryz.sizeOf57
 v46:=Tryz.zeroValue57
 t51:=Tryz.underlying56
 a51:=Tryz.isAgg56
 z51:=Tryz.sizeOf56
 v51:=Tryz.zeroValue56}
end Go.Proofs
namespace Go.Proofs.YtiollbhgpiiodaaGreatDoor
open Go.RowKit
theorem oD: ∀x:List Int,fq x x=0
 |[]=>rfl
 |a::x=>by simp[fq,oD x]
theorem tW: ∀{x y:List Int},fq x y=0->x=y
 |[],[],_=>rfl
 |[],_::_,h=>by simp[fq]at h
 |_::_,[],h=>by simp[fq]at h
 |a::x,b::y,h=>by
  unfold fq at h;split at h
  ·omega
  split at h
  ·omega
  rw[tW h,show a=b from by omega]
theorem Nh (A B:Option Addr) (c d:Nat) (a b:List (List Int)) (w:World) (ha:tS .i64 w A a) (hb:tS .i64 w B b) (la:a.length<=9223372036854775807) (lb:b.length<=9223372036854775807):
  Calls Tryz.prog 32 #[.slice A a.length c,.slice B b.length d] w fun e w'=>e= .returned (.bool (decide (a=b)))/\Ext w w':=by
 have HA:=Lib.hid ha;have HB:=Lib.hid hb;clear ha hb;by_cases hl:a.length=b.length
 ·have hlb:((a.length:Int) !=(b.length:Int))=false:=by simp[hl]
  have HL:=Lib.hid hl;have hle:a.length<=b.length:=by omega
  clear hl
  go_enter Tryz.func32,Tryz.ntmps32
  go_wp2_with fail
  clear hlb
  go_loopw [13,5] (fun i _ wr=> ∃k:Nat,k<=a.length/\i= .int .i64 k/\Hid (Ext w wr)/\Hid (∀j,j<k->a[j]?=b[j]?)) (fun i _ _=>a.length-(intOf i).toNat)
  case atStart=>exact⟨0,Nat.zero_le _,rfl,Lib.hid (Ext.refl _),Lib.hid (fun j h=>by omega)⟩
  case round=>
   obtain⟨k,hk,rfl,HE,HQ⟩:=hrel;by_cases hlt:k<a.length
   ·obtain⟨x,hx⟩:=getElem?_of_lt hlt;obtain⟨y,hy⟩:=getElem?_of_lt (l:=b) (k:=k) (by omega);obtain⟨b1,o1,B1,c1,rfl,hc1,hcl1,hlx,hr1⟩:=(HA.out.ext HE.out.drew).at_ hx;obtain⟨b2,o2,B2,c2,rfl,hc2,hcl2,hly,hr2⟩:=(HB.out.ext HE.out.drew).at_ hy;have HX:=Lib.hid hx;have HY:=Lib.hid hy;have HR1:=Lib.hid hr1;have HR2:=Lib.hid hr2;have HE1:=Lib.hid HE.out.drew;have hkb:(k:Int)<(b.length:Int):=by omega
    clear hx hy hr1 hr2 HE
    go_wp2_with fail
    refine ri 8 (by kernel_rfl) (by kernel_rfl) ?_;simp only[List.take_succ_cons,List.take_zero,List.drop_succ_cons,List.drop_zero];generalize wr.drew=w3 at*
    iterate 8 still_step
    refine wpStill_nil ?_;have HC:=Lib.hid (nY B1 B2 c1 c2 x y w3 HR1.out HR2.out hlx hly);clear hc1 hc2;by_cases h0:fq x y=0
    ·have h0':(fq x y !=0)=false:=by simp[h0]
     have H0:=Lib.hid h0;clear h0
     go_wp2_with fail
     refine HC.out.mono ?_;rintro e w4 ⟨rfl,n,rfl⟩
     go_wp2_with fail
     go_roundw
     case rel=>
      refine⟨k+1,by omega,by go_num,Lib.hid (HE1.out.drewN n),Lib.hid (fun j hj=>?_)⟩;by_cases e:j=k
      ·subst e;rw[HX.out,HY.out,tW H0.out]
      exact HQ.out j (by omega)
     case measure=>simp[intOf];omega
    have h0':(fq x y !=0)=true:=by simp[h0]
    go_wp2_with fail
    refine HC.out.mono ?_;rintro e w4 ⟨rfl,n,rfl⟩
    go_wp2_with fail
    go_ret
    refine⟨eG (fun h=>?_),HE1.out.drewN n⟩;subst h;have h1:=HX.out;rw[HY.out]at h1;cases h1;exact h0 (oD _)
   go_wp2_with fail
   go_ret
   refine⟨Ao ?_,HE.out⟩;apply List.ext_getElem?;intro j;rcases Nat.lt_or_ge j a.length with h|h
   ·exact HQ.out j (by omega)
   rw[List.getElem?_eq_none h,List.getElem?_eq_none (by have:=HL.out;omega)]
 have hlb:((a.length:Int) !=(b.length:Int))=true:=by simp;omega
 go_enter Tryz.func32,Tryz.ntmps32
 go_wp2_with fail
 go_ret
 exact⟨eG (fun h=>hl (by rw[h])),Ext.refl _⟩
theorem S3 {s:AS} {w0 w:World} {O X:Nat->Prop} {ρ:Rho} {act:Act} (a:Nat) (hok:xg s.H a) (hinv:Inv w0 O X s.H ρ w) (htm:bY X ρ s act w):Inv w0 O X (be s.H a []) ρ w/\bY X ρ ⟨s.tmps.map (gX s.H a),be s.H a []⟩ act w:=by
 have hna: ∀(x y:Nat) o,(be s.H a [] x)[y]?=some o->x≠a/\(s.H x)[y]?=some o:=fun x y o ho=>by
  by_cases hx:x=a
  ·subst hx;rw[bF]at ho;simp at ho
  rw[aZ hx]at ho;exact⟨hx,ho⟩
 have hXo: ∀b,Xo X ρ (be s.H a []) b->Xo X ρ s.H b:=fun b hb=>by
  rcases hb with hb|⟨x,y,o,n,g1,g2⟩
  ·exact .inl hb
  exact .inr ⟨x,y,o,n,(hna x y o g1).2,g2⟩
 have hZb: ∀(r:Nat) o,(s.H a)[r]?=some o-> ∀b c,ρ a r=some (b,c)-> ¬Xo X ρ (be s.H a []) b:=fun r o ho b c hr hX=>by
  rcases hX with hX|⟨x,y,o',n,g1,g2⟩
  ·exact(hinv.old a r o b c ho hr).2 hX
  obtain⟨hx,g1'⟩:=hna x y o' g1;exact hx (hinv.inj x y a r o' o b n c g1' ho g2 hr).1
 have hpure: ∀x u,isPure x=true->AV.rel ρ s.H (Xo X ρ s.H) w x u->cu (Xo X ρ (be s.H a [])) w (unP x) u:=fun x u hp h=>by
  cases x<;>first|exact cu.weaken (fun b _ hb=>hXo b hb) h|cases hp
 have hcell: ∀(r:Nat) o,(s.H a)[r]?=some o-> ∀e∈o.elems,∀x∈e,∀u,AV.rel ρ s.H (Xo X ρ s.H) w x u->cu (Xo X ρ (be s.H a [])) w (kJ s.H a x) u:=fun r o ho e he x hx u hu=>by
  rcases hok r o ho e he x hx with hp|⟨r',off,len,o',rfl,ho',hpr⟩
  ·have:=hpure x u hp hu;cases x<;>first|exact this|cases hp
  simp only[kJ,ho'];exact oX (hinv.objs a r' o' ho') ho' (fun e he y hy u hu=>hpure y u (hpr e he y hy) hu) (hZb r' o' ho') hu
 have hmap: ∀x v,AV.rel ρ s.H (Xo X ρ s.H) w x v->AV.rel ρ (be s.H a []) (Xo X ρ (be s.H a [])) w (fX s.H a x) v:=fun x v h=>by
  cases x with
  |p x=>exact cu.weaken (fun b _ hb=>hXo b hb) h
  |sl b r off len=>
   simp only[fX];by_cases hb:b=a
   ·subst hb;rw[if_pos rfl];have h':=h;obtain⟨o,g1,g2,g3⟩:=h;rw[g1];exact oX (hinv.objs b r o g1) g1 (hcell r o g1) (hZb r o g1) h'
   rw[if_neg hb];obtain⟨o,g1,g2⟩:=h;exact⟨o,by rw[aZ hb];exact g1,g2⟩
  |ptr b r i j=>
   simp only[fX];by_cases hb:b=a
   ·subst hb;rw[if_pos rfl];trivial
   rw[if_neg hb];obtain⟨o,b',c,g1,g2⟩:=h;exact⟨o,b',c,by rw[aZ hb];exact g1,g2⟩
  |junk=>trivial
 have hagg: ∀cs v,bX ρ s.H (Xo X ρ s.H) w cs v->bX ρ (be s.H a []) (Xo X ρ (be s.H a [])) w (cs.map (fX s.H a)) v:=fun cs v h=>by
  obtain⟨vs,g1,g2,g3⟩:=h;refine⟨vs,g1,by simpa using g2,fun j x hx=>?_⟩;rw[az]at hx;obtain⟨y,hy,rfl⟩:=Option.map_eq_some_iff.1 hx;obtain⟨u,u1,u2,u3⟩:=g3 j y hy;exact⟨u,u1,u2,hmap y u u3⟩
 refine⟨⟨hinv.keep,fun x y o ho=>?_,fun x y x' y' o o' b c c' ho ho'=>hinv.inj x y x' y' o o' b c c' (hna x y o ho).2 (hna x' y' o' ho').2,fun x y o b c ho=>hinv.old x y o b c (hna x y o ho).2,hinv.bar,fun x y o ho=>hinv.self x y o (hna x y o ho).2⟩,fun t x hx=>?_⟩
 ·obtain⟨hx,ho'⟩:=hna x y o ho;obtain⟨q1,q2,q3⟩:=hinv.objs x y o ho';refine⟨q1,q2,?_⟩;cases hr:ρ x y with
  |none=>rw[hr]at q3;exact q3
  |some bc=>
   obtain⟨b,c⟩:=bc;rw[hr]at q3;obtain⟨cells,p1,p2,p3,p4,p5⟩:=q3;refine⟨cells,p1,p2,p3,p4,fun i e j z he hz=>?_⟩;obtain⟨u,u1,u2,u3⟩:=p5 i e j z he hz;have hs:=hinv.self x y o ho' e (aw he) z (aw hz);have:=hmap z u u3;refine⟨u,u1,u2,?_⟩;cases z with
   |sl z _ _ _=>have hs:z=x:=hs;subst hs;simpa[fX,hx] using this
   |ptr z _ _ _=>have hs:z=x:=hs;subst hs;simpa[fX,hx] using this
   |p z=>exact this
   |junk=>trivial
 simp only[az]at hx;obtain⟨y,hy,rfl⟩:=Option.map_eq_some_iff.1 hx;obtain⟨v,v1,v2⟩:=htm t y hy;refine⟨v,v1,?_⟩;cases y with
 |one x=>exact hmap x v v2
 |agg cs=>exact hagg cs v v2
 |fn f cs=>obtain⟨u,h1,h2⟩:=v2;exact⟨u,hagg cs u h1,h2⟩
 |tup ts=>
  obtain⟨vs,g1,g2,g3⟩:=v2;refine⟨vs,g1,by simpa using g2,fun j b cs hj=>?_⟩;rw[az]at hj;obtain⟨z,hz,hzz⟩:=Option.map_eq_some_iff.1 hj;obtain⟨b',cs'⟩:=z;simp at hzz;obtain⟨rfl,rfl⟩:=hzz;obtain⟨u,u1,u2⟩:=g3 j b' cs' hz;refine⟨u,u1,?_⟩;rcases u2 with⟨u2,u3⟩|⟨u2,q,rfl,u4⟩
  ·exact .inl ⟨u2,hagg _ _ u3⟩
  exact .inr ⟨u2,_,rfl,hmap q u u4⟩
theorem nf {s:AS} (a k:Nat) {ty:TypeId} {es:Nat} {cs:List PV} (hH:s.H a=[⟨ty,es,[cs.map AV.p]⟩]) (hk:s.tmps[k]?=some (.one (.ptr a 0 0 0))):ci s ⟨(s.tmps.map (gX s.H a)).set k (.one (.p (.ptr cs))),be s.H a []⟩:=by
 rintro w0 O X act w ⟨h1,hsz,ρ,hinv,htm⟩;have htm:bY X ρ s act w:=htm;have hrow:(s.H a)[0]?=some ⟨ty,es,[cs.map AV.p]⟩:=by rw[hH];rfl
 have hok:xg s.H a:=fun r o ho e he x hx=>by
  rw[hH]at ho;cases r with
  |succ r=>simp at ho
  |zero=>
   simp at ho;subst ho;simp at he;subst he;obtain⟨y,_,rfl⟩:=List.mem_map.1 hx;exact .inl rfl
 obtain⟨hinv',htm'⟩:=S3 a hok hinv htm;refine⟨h1,by simpa using hsz,ρ,hinv',fun t x hx=>?_⟩;by_cases e:t=k
 ·subst e;simp only at hx;have hlt:=(List.getElem?_eq_some_iff.1 hk).1;rw[List.getElem?_set_self (by simpa using hlt)]at hx;injection hx with hx
  subst hx;obtain⟨v,v1,o,b,c,g1,g2,g3,rfl⟩:=htm t _ hk;rw[hrow]at g1;injection g1 with g1
  subst g1;refine⟨_,v1,?_⟩;obtain⟨q1,q2,q3⟩:=hinv.objs a 0 _ hrow;rw[g2]at q3;obtain⟨cells,p1,p2,p3,p4,p5⟩:=q3;have hXo: ∀b,Xo X ρ (be s.H a []) b->Xo X ρ s.H b:=fun b hb=>by
   rcases hb with hb|⟨x,y,o,n,g1,g2⟩
   ·exact .inl hb
   by_cases hx:x=a
   ·subst hx;rw[bF]at g1;simp at g1
   rw[aZ hx]at g1;exact .inr ⟨x,y,o,n,g1,g2⟩
  have hnb: ¬Xo X ρ (be s.H a []) b:=fun hX=>by
   rcases hX with hX|⟨x,y,o',n,g1,g3⟩
   ·exact(hinv.old a 0 _ b c hrow g2).2 hX
   by_cases hx:x=a
   ·subst hx;rw[bF]at g1;simp at g1
   rw[aZ hx]at g1;exact hx (hinv.inj x y a 0 o' _ b n c g1 hrow g3 g2).1
  show cu _ w (.ptr cs) _;rw[show(0:Nat)*(⟨ty,es,[cs.map AV.p]⟩:OObj).es+0=0 by simp];have hkey: ∀(j:Nat) x,cs[j]?=some x-> ∃u:Value,cells[j]?=some u/\cu (Xo X ρ (be s.H a [])) w x u:=fun j x hx=>by
   obtain⟨u,u1,u2,u3⟩:=p5 0 (cs.map AV.p) j (.p x) rfl (by rw[az,hx];rfl);refine⟨u,by simpa using u1,cu.weaken (fun b _ hb=>hXo b hb) u3⟩
  refine cu.ptr b 0 cs (fun j=>(cells[j]?).getD undef) hnb (Array.getElem?_eq_some_iff.1 p1).1 (fun j x hx=>?_) (fun j x hx=>?_)
  ·obtain⟨u,u1,u2⟩:=hkey j x hx;rw[cell_of_row _ b _ cells _ _ p1,Nat.zero_add,u1];rfl
  obtain⟨u,u1,u2⟩:=hkey j x hx;simp only[u1,Option.getD_some];exact u2
 simp only at hx;rw[List.getElem?_set_ne (Ne.symm e)]at hx;exact htm' t x hx
section
def Ua (k:Nat) (f:List Nat->Int):Prop:= ∀xs c d ys,xs.length+ys.length+2=k->f (xs++c::d::ys)= - f (xs++d::c::ys)
theorem Ua.cons {k:Nat} {f:List Nat->Int} (h:Ua (k+1) f) (c:Nat):Ua k (fun l=>f (c::l)):=fun xs a b ys hl=>h (c::xs) a b ys (by simp;omega)
theorem GE {r:Nat->Int}: ∀(cs:List Nat) {f g:List Nat->Int},(∀l,l.length+1=cs.length->f l= - g l)->dR r f cs= - dR r g cs
 |[],_,_,_=>rfl
 |c::cs,f,g,h=>by
  rw[dR,dR,h cs rfl,GE cs (f:=fun l=>f (c::l)) (g:=fun l=>g (c::l)) (fun l hl=>h (c::l) (by simp;omega))];grind
theorem y7 {r:Nat->Int}: ∀(xs:List Nat) (k:Nat) (f:List Nat->Int),Ua k f-> ∀c d ys,xs.length+ys.length+2=k+1->dR r f (xs++c::d::ys)= - dR r f (xs++d::c::ys)
 |[],k,f,h,c,d,ys,hl=>by
  have e:=GE (r:=r) ys (f:=fun l=>f (c::d::l)) (g:=fun l=>f (d::c::l)) (fun l hl'=>h [] c d l (by simp at hl⊢;omega));simp only[List.nil_append,dR];rw[e];grind
 |x::xs,k,f,h,c,d,ys,hl=>by
  obtain⟨k,rfl⟩: ∃k',k=k'+1:=⟨k-1,by simp at hl;omega⟩;simp only[List.cons_append,dR];rw[y7 xs k _ (h.cons x) c d ys (by simp at hl;omega),h xs c d ys (by simp at hl;omega)];grind
theorem Ac (R:FF): ∀k,Ua k (om R k)
 |0=>fun xs c d ys h=>by omega
 |k+1=>fun xs c d ys h=>y7 xs k _ (Ac R k) c d ys h
theorem tT {k:Nat} {f:List Nat->Int} (h:Ua k f) (c:Nat) (ys:List Nat): ∀(xs zs:List Nat),zs.length+xs.length+ys.length+2=k->f (zs++c::(xs++c::ys))=0
 |[],zs,hl=>by
  have:=h zs c c ys (by simp at hl;omega);simp only[List.nil_append];omega
 |x::xs,zs,hl=>by
  have h1:=h zs c x (xs++c::ys) (by simp at hl⊢;omega);have h2:=tT h c ys xs (zs++[x]) (by simp at hl⊢;omega);rw[List.append_assoc]at h2;simp only[List.cons_append,List.nil_append]at h1 h2⊢;rw[h1,h2];rfl
/-! Columns. -/
theorem ms {r s:Nat->Int}: ∀(cs:List Nat) {f g:List Nat->Int},cs.Nodup->(∀c∈cs,r c=s c)->(∀l,l.length+1=cs.length->(∀c∈l,c∈cs)->l.Nodup->f l=g l)->dR r f cs=dR s g cs
 |[],_,_,_,_,_=>rfl
 |c::cs,f,g,hn,h,hf=>by
  obtain⟨hc,hn'⟩:=List.nodup_cons.1 hn;rw[dR,dR,h c List.mem_cons_self,hf cs rfl (fun d hd=>List.mem_cons_of_mem _ hd) hn',ms cs hn' (fun d hd=>h d (List.mem_cons_of_mem _ hd)) (fun l hl hs hl2=>hf (c::l) (by simp;omega) (fun d hd=>by
   rcases List.mem_cons.1 hd with rfl|hd
   ·exact List.mem_cons_self
   exact List.mem_cons_of_mem _ (hs d hd)) (List.nodup_cons.2 ⟨fun h=>hc (hs c h),hl2⟩))]
def dH (R:FF) (a:Nat) (S:Nat->Int):Nat->Nat->Int:=fun i c=>if c=a then S i else R i c
theorem oF (R:FF) (a:Nat):dH R a (fun i=>R i a)=R:=by
 funext i c;unfold dH;split
 ·rename_i h;rw[h]
 rfl
theorem GD {a:Nat} {u t s s':Int} {r:Nat->Int}: ∀(cs:List Nat) (f fS fT:List Nat->Int),cs.Nodup->a∈cs->
  (∀l,l.length+1=cs.length->(∀c∈l,c∈cs)->l.Nodup->(a∈l->f l=u*fS l+t*fT l)/\(a∉l->fS l=f l/\fT l=f l))->
  dR (fun c=>if c=a then u*s+t*s' else r c) f cs=u*dR (fun c=>if c=a then s else r c) fS cs+t*dR (fun c=>if c=a then s' else r c) fT cs
 |[],_,_,_,_,h,_=>by simp at h
 |c::cs,f,fS,fT,hn,ha,h=>by
  obtain⟨hc,hn'⟩:=List.nodup_cons.1 hn;have hsub: ∀l:List Nat,(∀c∈l,c∈cs)-> ∀d∈c::l,d∈c::cs:=fun l hs d hd=>by
   rcases List.mem_cons.1 hd with rfl|hd
   ·exact List.mem_cons_self
   exact List.mem_cons_of_mem _ (hs d hd)
  obtain⟨h1,h2⟩:=h cs rfl (fun d hd=>List.mem_cons_of_mem _ hd) hn';rw[dR,dR,dR];by_cases e:c=a
  ·subst e;obtain⟨h3,h4⟩:=h2 hc;have e0: ∀d∈cs,d≠c:=fun d hd e=>hc (e▸hd)
   have e1:dR (fun d=>if d=c then u*s+t*s' else r d) (fun l=>f (c::l)) cs=dR r (fun l=>u*fS (c::l)+t*fT (c::l)) cs:=
    ms cs hn' (fun d hd=>by simp[e0 d hd]) (fun l hl hs hl2=>(h (c::l) (by simp;omega) (hsub l hs) (List.nodup_cons.2 ⟨fun h=>hc (hs c h),hl2⟩)).1 List.mem_cons_self)
   have e2:dR (fun d=>if d=c then s else r d) (fun l=>fS (c::l)) cs=dR r (fun l=>fS (c::l)) cs:=ms cs hn' (fun d hd=>by simp[e0 d hd]) (fun _ _ _ _=>rfl);have e3:dR (fun d=>if d=c then s' else r d) (fun l=>fT (c::l)) cs=dR r (fun l=>fT (c::l)) cs:=ms cs hn' (fun d hd=>by simp[e0 d hd]) (fun _ _ _ _=>rfl);rw[e1,e2,e3,vP,h3,h4];simp only[if_pos];grind
  have ha':a∈cs:=by
   rcases List.mem_cons.1 ha with h|h
   ·exact absurd h.symm e
   exact h
  have ih:=GD (u:=u) (t:=t) (s:=s) (s':=s') (r:=r) cs (fun l=>f (c::l)) (fun l=>fS (c::l)) (fun l=>fT (c::l)) hn' ha' (fun l hl hs hl2=>by
   obtain⟨q1,q2⟩:=h (c::l) (by simp;omega) (hsub l hs) (List.nodup_cons.2 ⟨fun h=>hc (hs c h),hl2⟩);exact⟨fun hal=>q1 (List.mem_cons_of_mem _ hal),fun hal=>q2 (fun h=>by
    rcases List.mem_cons.1 h with h|h
    ·exact e h.symm
    exact hal h)⟩)
  rw[ih,h1 ha'];simp only[if_neg e];grind
theorem Mp {R:FF} {a:Nat} {u t:Int} {S T:Nat->Int}: ∀(k:Nat) (cs:List Nat),cs.Nodup->cs.length=k->a∈cs->
  om (dH R a (fun i=>u*S i+t*T i)) k cs=u*om (dH R a S) k cs+t*om (dH R a T) k cs
 |0,cs,_,hl,ha=>by rw[List.length_eq_zero_iff.1 hl]at ha;simp at ha
 |k+1,cs,hn,hl,ha=>by
  refine GD (r:=R k) (s:=S k) (s':=T k) cs _ _ _ hn ha (fun l hl' hs hl2=>⟨fun hal=>Mp k l hl2 (by omega) hal,fun hal=>?_⟩);have hne: ∀c∈l,c≠a:=fun c hc e=>hal (e▸hc)
  exact⟨oW fun i _ c hc=>by simp[dH,hne c hc],oW fun i _ c hc=>by simp[dH,hne c hc]⟩
theorem uf {r:Nat->Int} (p:Nat->Nat): ∀(cs:List Nat) (f:List Nat->Int),dR (fun c=>r (p c)) (fun l=>f (l.map p)) cs=dR r f (cs.map p)
 |[],_=>rfl
 |c::cs,f=>by
  rw[dR,List.map_cons,dR];have:=uf (r:=r) p cs (fun l=>f (p c::l));rw[<- this];rfl
theorem Ad {R:FF} (p:Nat->Nat): ∀(k:Nat) (cs:List Nat),om (fun i c=>R i (p c)) k cs=om R k (cs.map p)
 |0,_=>rfl
 |k+1,cs=>by
  have e:om (fun i c=>R i (p c)) k=fun l=>om R k (l.map p):=funext (Ad p k)
  show dR (fun c=>R k (p c)) (om (fun i c=>R i (p c)) k) cs=_;rw[e,uf p cs (om R k)];rfl
theorem Mq {R:FF} {a b k:Nat} {cs:List Nat} (hn:cs.Nodup) (hl:cs.length=k) (ha:a∈cs) (hb:b∈cs) (hab:a≠b):om (dH R a (fun i=>R i b)) k cs=0:=by
 have e:dH R a (fun i=>R i b)=fun i c=>R i (if c=a then b else c):=by
  funext i c;unfold dH;split<;>rfl
 rw[e,Ad (R:=R) (fun c=>if c=a then b else c)];obtain⟨s,t,rfl⟩:=List.append_of_mem ha;have hb':b∈s\/b∈t:=by
  rcases List.mem_append.1 hb with h|h
  ·exact .inl h
  rcases List.mem_cons.1 h with h|h
  ·exact absurd h.symm hab
  exact .inr h
 rcases hb' with h|h
 ·obtain⟨x,y,rfl⟩:=List.append_of_mem h;simp only[List.map_append,List.map_cons,if_pos,if_neg (Ne.symm hab),List.append_assoc,List.cons_append];exact tT (Ac R k) b _ _ _ (by simp at hl⊢;omega)
 obtain⟨x,y,rfl⟩:=List.append_of_mem h;simp only[List.map_append,List.map_cons,if_pos,if_neg (Ne.symm hab)];exact tT (Ac R k) b _ _ _ (by simp at hl⊢;omega)
theorem qC: ∀n,(jB n).length=n
 |0=>rfl
 |n+1=>by rw[jB,List.length_cons,qC n]
theorem rZ: ∀n,(jB n).Nodup
 |0=>List.nodup_nil
 |n+1=>List.nodup_cons.2 ⟨fun h=>by have:=jv h;omega,rZ n⟩
theorem zp {n c:Nat} (h:c<n):c∈jB n:=by
 induction n with
 |zero=>omega
 |succ n ih=>
  by_cases e:c=n
  ·rw[e];exact List.mem_cons_self
  exact List.mem_cons_of_mem _ (ih (by omega))
theorem Iy {n p:Nat} (h:p<n): ∃hi,jB n=hi++p::jB p/\ ∀c∈hi,p<c:=by
 induction n with
 |zero=>omega
 |succ n ih=>
  by_cases e:p=n
  ·exact⟨[],by rw[e];rfl,fun c hc=>by simp at hc⟩
  obtain⟨hi,h1,h2⟩:=ih (by omega);exact⟨n::hi,by rw[jB,h1];rfl,fun c hc=>by
   rcases List.mem_cons.1 hc with rfl|hc
   ·omega
   exact h2 c hc⟩
section
variable {R:FF} {n a b:Nat} (ha:a<n)
include ha
theorem r6 (u t:Int) (S T:Nat->Int):dk (dH R a (fun i=>u*S i+t*T i)) n=u*dk (dH R a S) n+t*dk (dH R a T) n:=Mp n _ (rZ n) (qC n) (zp ha)
theorem vp (hb:b<n) (hab:a≠b):dk (dH R a (fun i=>R i b)) n=0:=Mq (rZ n) (qC n) (zp ha) (zp hb) hab
theorem Gm {S:Nat->Int} (h: ∀i,i<n->S i=0):dk (dH R a S) n=0:=by
 have h1:=r6 (R:=R) (n:=n) ha 0 0 S S;have h2:dk (dH R a S) n=dk (dH R a (fun i=>0*S i+0*S i)) n:=iu fun i j hi _=>by
  unfold dH;split
  ·show S i=0*S i+0*S i;rw[h i hi];rfl
  rfl
 rw[h2,h1];omega
theorem oH (hb:b<n) (hab:a≠b) (t:Int):dk (dH R a (fun i=>R i a+t*R i b)) n=dk R n:=by
 have h1:=r6 (R:=R) (n:=n) ha 1 t (fun i=>R i a) (fun i=>R i b);rw[oF,vp ha hb hab]at h1;simp only[Int.one_mul,Int.mul_zero,Int.add_zero]at h1;exact h1
theorem xV:dk (dH R a (fun i=> - R i a)) n= - dk R n:=by
 have h1:=r6 (R:=R) (n:=n) ha (-1) 0 (fun i=>R i a) (fun i=>R i a);rw[oF]at h1;have e:(fun i=> -1*R i a+0*R i a)=fun i=> - R i a:=by funext i;omega
 rw[e]at h1;rw[h1];omega
end
theorem vo {R:FF} {n a b:Nat} (ha:a<n) (hb:b<n) (hab:a≠b):dk (fun i c=>if c=a then R i b else if c=b then R i a else R i c) n= - dk R n:=by
 have h1:=oH (R:=R) ha hb hab 1;generalize hR1:dH R a (fun i=>R i a+1*R i b)=R1 at h1;have h2:=oH (R:=R1) hb ha (Ne.symm hab) (-1);generalize hR2:dH R1 b (fun i=>R1 i b+ -1*R1 i a)=R2 at h2;have h3:=oH (R:=R2) ha hb hab 1;generalize hR3:dH R2 a (fun i=>R2 i a+1*R2 i b)=R3 at h3;have h4:=xV (R:=R3) hb;rw[h3,h2,h1]at h4;rw[<- h4]
 congr 1
 funext i c;subst hR3 hR2 hR1;unfold dH;by_cases e1:c=a
 ·subst e1;simp[hab];omega
 by_cases e2:c=b
 ·subst e2;simp[Ne.symm hab];omega
 simp[e1,e2]
/-! Rows exchanged. -/
theorem SW (n:Nat):dk (fun i j=>if i=j then 1 else 0) n=1:=by
 induction n with
 |zero=>rfl
 |succ n ih=>
  rw[ca,bk,dR,oK (jB n) _ (fun c hc=>by have:=jv hc;simp;omega)];unfold dk at ih;rw[ih];simp
end
section
section
variable {ρ ρ':Rho} {H H':OH} {Y Y':Nat->Prop} {w w':World} {d:Nat}
theorem JA {t:TV} {v:Value} (hs:selfTV 0 t) (h:t.rel ρ H Y w v) (k: ∀x v,cW 0 x->AV.rel ρ H Y w x v->AV.rel ρ' H' Y' w' (dq d x) v):(renTV d t).rel ρ' H' Y' w' v:=by
 have agg: ∀cs v,(∀x∈cs,cW 0 x)->bX ρ H Y w cs v->bX ρ' H' Y' w' (cs.map (dq d)) v:=fun cs v hc ⟨vs,g1,g2,g3⟩=>by
  refine⟨vs,g1,by simpa using g2,fun j x hx=>?_⟩;rw[az]at hx;obtain⟨y,hy,rfl⟩:=Option.map_eq_some_iff.1 hx;obtain⟨u,u1,u2,u3⟩:=g3 j y hy;exact⟨u,u1,u2,k y u (hc y (aw hy)) u3⟩
 cases t with
 |one x=>exact k x v hs h
 |agg cs=>exact agg cs v hs h
 |fn f cs=>obtain⟨u,h1,h2⟩:=h;exact⟨u,agg cs u hs h1,h2⟩
 |tup ts=>
  obtain⟨vs,g1,g2,g3⟩:=h;refine⟨vs,g1,by simpa using g2,fun j c cs hj=>?_⟩;rw[az]at hj;obtain⟨⟨c',cs'⟩,hy,e⟩:=Option.map_eq_some_iff.1 hj;simp at e;obtain⟨rfl,rfl⟩:=e;obtain⟨u,u1,u2⟩:=g3 j c' cs' hy;have hsc: ∀x∈cs',cW 0 x:=hs (c',cs') (aw hy);refine⟨u,u1,?_⟩;rcases u2 with⟨u2,u3⟩|⟨u2,x,rfl,u4⟩
  ·exact .inl ⟨u2,agg _ _ hsc u3⟩
  exact .inr ⟨u2,_,rfl,k x u (hsc x (by simp)) u4⟩
theorem ET {t:TV} {v:Value} (hs:selfTV 0 t) (h:(renTV d t).rel ρ H Y w v) (k: ∀x v,cW 0 x->AV.rel ρ H Y w (dq d x) v->AV.rel ρ' H' Y' w' x v):t.rel ρ' H' Y' w' v:=by
 have agg: ∀cs v,(∀x∈cs,cW 0 x)->bX ρ H Y w (cs.map (dq d)) v->bX ρ' H' Y' w' cs v:=fun cs v hc ⟨vs,g1,g2,g3⟩=>by
  refine⟨vs,g1,by simpa using g2,fun j x hx=>?_⟩;obtain⟨u,u1,u2,u3⟩:=g3 j (dq d x) (by rw[az,hx];rfl);exact⟨u,u1,u2,k x u (hc x (aw hx)) u3⟩
 cases t with
 |one x=>exact k x v hs h
 |agg cs=>exact agg cs v hs h
 |fn f cs=>obtain⟨u,h1,h2⟩:=h;exact⟨u,agg cs u hs h1,h2⟩
 |tup ts=>
  obtain⟨vs,g1,g2,g3⟩:=h;refine⟨vs,g1,by simpa using g2,fun j c cs hj=>?_⟩;obtain⟨u,u1,u2⟩:=g3 j c (cs.map (dq d)) (by rw[az,hj];rfl);have hsc: ∀x∈cs,cW 0 x:=hs (c,cs) (aw hj);refine⟨u,u1,?_⟩;rcases u2 with⟨u2,u3⟩|⟨u2,x,e,u4⟩
  ·exact .inl ⟨u2,agg _ _ hsc u3⟩
  cases cs with
  |nil=>cases e
  |cons y l=>
   simp at e;obtain⟨rfl,rfl⟩:=e;exact .inr ⟨u2,y,rfl,k y u (hsc y (by simp)) u4⟩
end
structure qk (P:Program) (f:FuncId) (args:List TV) (F F':List OObj) (r:TV):Prop where
 able:callable P f=true
 sA: ∀t∈args,selfTV 0 t
 sR:selfTV 0 r
 sF: ∀o∈F,selfO 0 o
 sF': ∀o∈F',selfO 0 o
 calls: ∀(X:Nat->Prop) (w:World) (vs:Array Value) (ρ:Rho),Inv w (famB F ρ) X (famH 0 F) ρ w->vs.size=args.length->
  (∀(j:Nat) t,args[j]?=some t-> ∃v:Value,vs[j]?=some v/\t.rel ρ (famH 0 F) (Xo X ρ (famH 0 F)) w v)->
  Calls P f vs w fun e w'=> ∃v,e= .returned v/\ ∃ρ':Rho,Inv w (famB F ρ) X (famH 0 F') ρ' w'/\r.rel ρ' (famH 0 F') (Xo X ρ' (famH 0 F')) w' v
def VA (P:Program) (fn:Func) (F':List OObj) (r:TV) (s:AS):Prop:=s.H=famH 0 F'/\rl P s fn.results.toList=some r
theorem KW {P:Program} {f:FuncId} {fn:Func} {c:Code} {args:List TV} {F F':List OObj} {r:TV} (hf:P.funcs[f]?=some fn) (hb:fn.body=some c) (hn:callable P f=true)
  (sA: ∀t∈args,selfTV 0 t) (sR:selfTV 0 r) (sF: ∀o∈F,selfO 0 o) (sF': ∀o∈F',selfO 0 o)
  (h:bL P c (fun e s=>(e= .normal\/e= .ret)/\ ∃s',ci s s'/\VA P fn F' r s') ⟨args++List.replicate (fn.ntmps-args.length) .undef,famH 0 F⟩):qk P f args F F' r:=by
 refine⟨hn,sA,sR,sF,sF',fun X w vs ρ hinv0 hvs hargs=>?_⟩;refine calls_of_wp hf hb ?_;have hrel:fW w (famB F ρ) X ⟨args++List.replicate (fn.ntmps-args.length) .undef,famH 0 F⟩ {tmps:=vs++Array.replicate (fn.ntmps-vs.size) undef,defers:=[]} w:=by
  refine⟨rfl,by simp[hvs],ρ,hinv0,fun t x hx=>?_⟩;by_cases ht:t<args.length
  ·rw[List.getElem?_append_left ht]at hx;obtain⟨v,v1,v2⟩:=hargs t x hx;exact⟨v,by rw[Array.getElem?_append_left (by omega)];exact v1,v2⟩
  rw[List.getElem?_append_right (by omega),List.getElem?_replicate]at hx;split at hx
  ·rename_i hlt;injection hx with hx
   subst hx;refine⟨undef,?_,ij⟩;rw[Array.getElem?_append_right (by omega),Array.getElem?_replicate,if_pos (by omega)]
  cases hx
 refine wp_mono (h _ _ _ _ _ hrel) fun e a' w' ⟨s1,⟨hee,s2,hw,hW2,hW3⟩,hrel1⟩=>?_
 obtain⟨h1,hsz,ρ',hinv,htm⟩:=hw _ _ _ _ _ hrel1;have htm:bY X ρ' s2 a' w':=htm;rw[hW2]at hinv;obtain⟨v,v1,v2⟩:=kq (by rw[hW2];exact hinv) htm hW3;rw[hW2]at v2;rcases hee with rfl|rfl
 ·exact⟨h1,v,v1,v,rfl,ρ',hinv,v2⟩
 exact⟨h1,v,v1,v,rfl,ρ',hinv,v2⟩
theorem qk.toC {P:Program} {f:FuncId} {args:List TV} {F':List OObj} {r:TV} {k:Nat} {ty:TypeId} {es:Nat} (h:qk P f args [⟨ty,es,[]⟩] F' r) (he:0<es) (hk:args[k]?=some (.one (.sl 0 0 0 0))) (hp:gm k 0 args=true):
  CallC P f (args.set k (.one (.p (.raw (.slice none 0 0))))) ⟨F',r⟩:=by
 refine⟨h.able,fun X w vs hX hvs ha=>?_⟩;have e0:famB [⟨ty,es,[]⟩] (fun _ _=>none)=fun _=>False:=by
  funext j;apply propext;constructor
  ·rintro⟨_,_,_,_,h⟩;cases h
  intro h;exact h.elim
 have eX:Xo X (fun _ _=>none) (famH 0 [⟨ty,es,[]⟩])=X:=by
  funext j;apply propext;constructor
  ·rintro(h|⟨_,_,_,_,_,h⟩)
   ·exact h
   cases h
  exact .inl
 have hl:=(List.getElem?_eq_some_iff.1 hk).1;have:=h.calls X w vs (fun _ _=>none) ⟨Keep.refl w,fun a r o ho=>?_,fun a r a' r' o o' b c c' _ _ h1=>(by cases h1),fun a r o b c _ h1=>(by cases h1),hX,fun a r o ho=>?_⟩ (by simpa using hvs) (fun j t ht=>?_)
 ·rw[e0]at this;exact this
 ·obtain⟨rfl,rfl,rfl⟩:=qI ho;exact⟨fun e he=>(by cases he),he,rfl⟩
 ·obtain⟨rfl,rfl,rfl⟩:=qI ho;exact fun e he=>by cases he
 rw[eX];by_cases hj:j=k
 ·subst hj;obtain⟨v,v1,v2⟩:=ha j _ (List.getElem?_set_self hl);rw[hk]at ht;injection ht with ht
  subst ht;have:=(bO (ρ:=fun _ _=>none) (H:=fun _=>[]) v2).1;exact⟨v,v1,_,rfl,by simp,.inl ⟨rfl,this,rfl,rfl⟩⟩
 obtain⟨v,v1,v2⟩:=ha j t (by rw[List.getElem?_set_ne (Ne.symm hj)];exact ht);exact⟨v,v1,mB (fun _ h=>h) (kW (i:=0) hp (by omega) ht) v2⟩
def kF (fa:Nat):Nat->Nat->Bool:=fun x _=>x==fa
section
variable {P:Program} {s:AS} {a:Act} {w0 w:World} {O X:Nat->Prop}
theorem Lx (hrel:fW w0 O X s a w) {o:Oper} {c:Call} {f:FuncId} (ho:o.op= .call c) (hcal:c.callee= .value (.func f)) {args:List TV} {fa:Nat} {F F':List OObj} {r:TV} (hcon:qk P f args F F' r) (hfa:fa<=4999)
  (hev:f6 s.ev c.args.toList=some (args.map (renTV fa))) (hfam:s.H fa=F.map (renO fa)) {K:Act->World->Prop} {Q:Exit->Act->World->Prop}
  (hK: ∀v w',fW w0 O X (AS.put ⟨s.tmps.map (bo (kF fa)),be s.H fa (F'.map (renO fa))⟩ o.dst (renTV fa r)) (a.put o.dst v) w'->K (a.put o.dst v) w'):o.wp P a w K Q:=by
 obtain⟨h1,hsz,ρ,hinv,htm⟩:=hrel;have htm:bY X ρ s a w:=htm;obtain⟨e1,e2⟩:=dm hev;have hself:=hcon.sF;have hself':=hcon.sF';have hF: ∀(y:Nat) o',(s.H fa)[y]?=some o'↔ ∃o,F[y]?=some o/\o'=renO fa o:=fun y o'=>by
  rw[hfam,az];constructor
  ·intro h;obtain⟨o,g1,g2⟩:=Option.map_eq_some_iff.1 h;exact⟨o,g1,g2.symm⟩
  rintro⟨o,g1,rfl⟩;rw[g1];rfl
 let ρ0:Rho:=fun x y=>if x=0 then ρ fa y else none
 have hρ0: ∀y,ρ0 0 y=ρ fa y:=fun y=>if_pos rfl
 let own:Nat->Prop:=famB F ρ0
 have hown: ∀j,own j↔ ∃(y:Nat) (o':OObj) (c':Nat),(s.H fa)[y]?=some o'/\ρ fa y=some (j,c'):=fun j=>by
  constructor
  ·rintro⟨y,o,c',g1,g2⟩;exact⟨y,_,c',(hF y _).2 ⟨o,g1,rfl⟩,by rw[<- hρ0];exact g2⟩
  rintro⟨y,o',c',g1,g2⟩;obtain⟨o,g3,_⟩:=(hF y o').1 g1;exact⟨y,o,c',g3,by rw[hρ0];exact g2⟩
 have hownX: ∀j,own j->Xo X ρ s.H j:=fun j hj=>by
  obtain⟨y,o',c',g1,g2⟩:=(hown j).1 hj;exact .inr ⟨fa,y,o',c',g1,g2⟩
 let X1:Nat->Prop:=fun j=>Xo X ρ s.H j/\ ¬own j
 have hXlt: ∀j,Xo X ρ s.H j->j<w.heap.size:=fun b hb=>by
  rcases hb with hb|⟨x,y,o',n,g1,g2⟩
  ·exact hinv.bar b hb
  exact bP (hinv.objs x y o' g1) g2
 have hset:Xo X1 ρ0 (famH 0 F)=Xo X ρ s.H:=by
  funext j;apply propext;constructor
  ·rintro(h|⟨x,y,o',c',g1,g2⟩)
   ·exact h.1
   have hx0:x=0:=by
    by_cases h:x=0
    ·exact h
    simp[famH,h]at g1
   subst hx0;exact hownX j ⟨y,o',c',by simpa[famH] using g1,g2⟩
  intro h;by_cases hj:own j
  ·obtain⟨y,o',c',g1,g2⟩:=hj;exact .inr ⟨0,y,o',c',by simpa[famH] using g1,g2⟩
  exact .inl ⟨h,hj⟩
 have f0: ∀(x y:Nat) o',(famH 0 F x)[y]?=some o'->x=0/\F[y]?=some o':=fun x y o' h=>by
  by_cases hx:x=0
  ·subst hx;exact⟨rfl,by simpa[famH] using h⟩
  simp[famH,hx]at h
 have back0: ∀x v,cW 0 x->AV.rel ρ s.H (Xo X ρ s.H) w (dq fa x) v->AV.rel ρ0 (famH 0 F) (Xo X ρ s.H) w x v:=fun x v hs h=>by
  cases x with
  |p x=>exact h
  |junk=>trivial
  |sl z y off len=>
   have hs:z=0:=hs;subst hs;obtain⟨o',g1,g2,g3⟩:=h;obtain⟨o2,g4,rfl⟩:=(hF y o').1 g1;exact⟨o2,by simpa[famH] using g4,by simpa[renO] using g2,ku hfa g3 (hρ0 y)⟩
  |ptr z y i j=>
   have hs:z=0:=hs;subst hs;obtain⟨o',b',c',g1,g2,g3,g5⟩:=h;obtain⟨o2,g4,rfl⟩:=(hF y o').1 g1;exact⟨o2,b',c',by simpa[famH] using g4,by rw[hρ0];exact g2,by simpa[renO] using g3,g5⟩
 have hinv0:Inv w own X1 (famH 0 F) ρ0 w:=by
  refine⟨Keep.refl w,fun x y o' ho'=>?_,fun x y x' y' o1 o2 j c1 c2 ho1 ho2 q1 q2=>?_,fun x y o' j c' ho' q=>?_,fun j hj=>hXlt j hj.1,fun x y o' ho'=>?_⟩
  ·obtain⟨rfl,ho'⟩:=f0 x y o' ho';rw[hset];obtain⟨z1,z2,z3⟩:=hinv.objs fa y (renO fa o') ((hF y _).2 ⟨o',ho',rfl⟩);refine⟨fun e he=>?_,z2,?_⟩
   ·have:=z1 (e.map (dq fa)) (by simp only[renO,ak];exact⟨e,he,rfl⟩);simpa[renO] using this
   rw[hρ0];cases hr:ρ fa y with
   |none=>rw[hr]at z3;simpa[renO] using z3
   |some bc=>
    obtain⟨b',c'⟩:=bc;rw[hr]at z3;obtain⟨cells,p1,p2,p3,p4,p5⟩:=z3;refine⟨cells,p1,p2,by simpa[renO] using p3,p4,fun i e j z he hz=>?_⟩;obtain⟨u,u1,u2,u3⟩:=p5 i (e.map (dq fa)) j (dq fa z) (by simp[renO,he]) (by rw[az,hz];rfl);exact⟨u,u1,u2,back0 z u (hself o' (aw ho') e (aw he) z (aw hz)) u3⟩
  ·obtain⟨rfl,ho1⟩:=f0 x y o1 ho1;obtain⟨rfl,ho2⟩:=f0 x' y' o2 ho2;exact⟨rfl,(hinv.inj fa y fa y' _ _ j c1 c2 ((hF y _).2 ⟨o1,ho1,rfl⟩) ((hF y' _).2 ⟨o2,ho2,rfl⟩) (by rw[<- hρ0];exact q1) (by rw[<- hρ0];exact q2)).2⟩
  ·obtain⟨rfl,ho'⟩:=f0 x y o' ho';have ho2:own j:=⟨y,o',c',ho',q⟩;exact⟨.inr ho2,fun h=>h.2 ho2⟩
  obtain⟨rfl,ho'⟩:=f0 x y o' ho';exact hself o' (aw ho')
 have hrun:=iD (w:=w) ho hcal (e:=a.eval) rfl hcon.able;unfold Oper.wp;rw[hrun];simp only[Oper.upon];have hsize:c.args.size=args.length:=by simpa using e1.symm
 refine(hcon.calls X1 w (c.args.map a.eval) ρ0 hinv0 (by simp[hsize]) ?_).mono ?_
 ·intro j t ht;rw[hset];obtain⟨y,hy,hyt⟩:=e2 j (renTV fa t) (by rw[az,ht];rfl);refine⟨a.eval y,?_,ET (hcon.sA t (aw ht)) (cz htm y _ hyt) back0⟩;rw[Array.getElem?_map];have:c.args[j]?=some y:=by simpa using hy
  rw[this];rfl
 rintro e w1 ⟨v,rfl,ρ',hi,hr1⟩;show K (a.put o.dst v) w1;refine hK v w1 ?_;have f1: ∀(x y:Nat) o',(famH 0 F' x)[y]?=some o'->x=0/\F'[y]?=some o':=fun x y o' h=>by
  by_cases hx:x=0
  ·subst hx;exact⟨rfl,by simpa[famH] using h⟩
  simp[famH,hx]at h
 generalize hH1:be s.H fa (F'.map (renO fa))=H1;generalize hρ1e:(fun x y=>if x=fa then ρ' 0 y else ρ x y:Rho)=ρ1;have hHf:H1 fa=F'.map (renO fa):=by rw[<- hH1];exact bF
 have hHn: ∀x,x≠fa->H1 x=s.H x:=fun x h=>by rw[<- hH1];exact aZ h
 have hρf: ∀y,ρ1 fa y=ρ' 0 y:=fun y=>by rw[<- hρ1e];exact if_pos rfl
 have hρn: ∀x y,x≠fa->ρ1 x y=ρ x y:=fun x y h=>by rw[<- hρ1e];exact if_neg h
 have hF1: ∀(y:Nat) o',(H1 fa)[y]?=some o'↔ ∃o,F'[y]?=some o/\o'=renO fa o:=fun y o'=>by
  rw[hHf,az];constructor
  ·intro h;obtain⟨o,g1,g2⟩:=Option.map_eq_some_iff.1 h;exact⟨o,g1,g2.symm⟩
  rintro⟨o,g1,rfl⟩;rw[g1];rfl
 have hblk: ∀j,j<w.heap.size-> ¬own j->w1.heap[j]?=w.heap[j]?:=fun j hj hno=>hi.keep.block j hj hno
 have hnew: ∀(y:Nat) o' j c',F'[y]?=some o'->ρ' 0 y=some (j,c')->(w.heap.size<=j\/own j)/\ ¬X1 j:=fun y o' j c' g1 g2=>hi.old 0 y o' j c' (by simpa[famH] using g1) g2
 have hXn: ∀j,j<w.heap.size->Xo X ρ1 H1 j->Xo X ρ s.H j:=fun j hj h=>by
  rcases h with h|⟨x,y,o',c',g1,g2⟩
  ·exact .inl h
  by_cases hx:x=fa
  ·subst hx;obtain⟨o2,g3,_⟩:=(hF1 y o').1 g1;rw[hρf]at g2;rcases(hnew y o2 j c' g3 g2).1 with g|g
   ·omega
   exact hownX j g
  rw[hHn x hx]at g1;rw[hρn x y hx]at g2;exact .inr ⟨x,y,o',c',g1,g2⟩
 have monop: ∀x v,cu (Xo X ρ s.H) w x v->cu (Xo X ρ1 H1) w1 x v:=fun x v h=>cu.later (fun j hj hx=>hXn j hj hx) hi.keep.size (fun p v hp hno hc=>by
  rw[<- hc];exact lG (hblk p.block hp fun h=>hno (hownX _ h))) h
 -- what the call says of the family, told of number fa
 have hset1: ∀j,j<w1.heap.size->Xo X ρ1 H1 j->Xo X1 ρ' (famH 0 F') j:=fun j _ h=>by
  rcases h with h|⟨x,y,o',c',g1,g2⟩
  ·have hj:=hinv.bar j h;by_cases ho2:own j
   ·obtain⟨y,o',c',g1,g2⟩:=(hown j).1 ho2;exact absurd h (hinv.old fa y o' j c' g1 g2).2
   exact .inl ⟨.inl h,ho2⟩
  by_cases hx:x=fa
  ·subst hx;obtain⟨o2,g3,_⟩:=(hF1 y o').1 g1;rw[hρf]at g2;exact .inr ⟨0,y,o2,c',by simpa[famH] using g3,g2⟩
  rw[hHn x hx]at g1;rw[hρn x y hx]at g2;by_cases ho2:own j
  ·obtain⟨y',o2,c2,k1,k2⟩:=(hown j).1 ho2;exact absurd (hinv.inj x y fa y' o' o2 j c' c2 g1 k1 g2 k2).1 hx
  exact .inl ⟨.inr ⟨x,y,o',c',g1,g2⟩,ho2⟩
 have fwd: ∀x v,cW 0 x->AV.rel ρ' (famH 0 F') (Xo X1 ρ' (famH 0 F')) w1 x v->AV.rel ρ1 H1 (Xo X ρ1 H1) w1 (dq fa x) v:=fun x v hs h=>by
  cases x with
  |p x=>exact cu.weaken (fun j hj hx=>hset1 j hj hx) h
  |junk=>trivial
  |sl z y off len=>
   have hs:z=0:=hs;subst hs;obtain⟨o',g1,g2,g3⟩:=h;obtain⟨_,g1⟩:=f1 0 y o' g1;exact⟨renO fa o',(hF1 y _).2 ⟨o',g1,rfl⟩,by simpa[renO] using g2,ku (by decide) g3 (hρf y)⟩
  |ptr z y i j=>
   have hs:z=0:=hs;subst hs;obtain⟨o',b',c',g1,g2,g3,g5⟩:=h;obtain⟨_,g1⟩:=f1 0 y o' g1;exact⟨renO fa o',b',c',(hF1 y _).2 ⟨o',g1,rfl⟩,by rw[hρf];exact g2,by simpa[renO] using g3,g5⟩
 have mono: ∀x v,AV.rel ρ s.H (Xo X ρ s.H) w x v->AV.rel ρ1 H1 (Xo X ρ1 H1) w1 (bs (kF fa) x) v:=fun x v h=>by
  cases x with
  |p x=>exact monop x v h
  |junk=>trivial
  |sl z y off len=>
   obtain⟨o',g1,g2,g3⟩:=h;simp only[bs];by_cases hz:z=fa
   ·rw[if_pos (by simp[kF,hz])];trivial
   rw[if_neg (by simp[kF,hz])];exact⟨o',by rw[hHn z hz];exact g1,g2,by rw[hρn z y hz];exact g3⟩
  |ptr z y i j=>
   obtain⟨o',b',c',g1,g2,g3,g5⟩:=h;simp only[bs];by_cases hz:z=fa
   ·rw[if_pos (by simp[kF,hz])];trivial
   rw[if_neg (by simp[kF,hz])];exact⟨o',b',c',by rw[hHn z hz];exact g1,by rw[hρn z y hz];exact g2,g3,g5⟩
 have monoN: ∀(z:Nat) x v,z≠fa->cW z x->AV.rel ρ s.H (Xo X ρ s.H) w x v->AV.rel ρ1 H1 (Xo X ρ1 H1) w1 x v:=fun z x v hz hs h=>by
  have:=mono x v h;cases x with
  |sl y _ _ _=>have hs:y=z:=hs;subst hs;simpa[bs,kF,hz] using this
  |ptr y _ _ _=>have hs:y=z:=hs;subst hs;simpa[bs,kF,hz] using this
  |p x=>exact this
  |junk=>trivial
 have hinv':Inv w0 O X H1 ρ1 w1:=by
  refine⟨⟨hi.keep.os.trans hinv.keep.os,hi.keep.tape.trans hinv.keep.tape,hi.keep.output.trans hinv.keep.output,Nat.le_trans hinv.keep.size hi.keep.size,fun j hj hno=>?_⟩,fun x y o' ho'=>?_,fun x y x' y' o1 o2 j c1 c2 ho1 ho2 q1 q2=>?_,fun x y o' j c' ho' q=>?_,fun j hj=>Nat.lt_of_lt_of_le (hinv.bar j hj) hi.keep.size,fun x y o' ho'=>?_⟩
  ·rw[hblk j (Nat.lt_of_lt_of_le hj hinv.keep.size) fun h=>?_]
   ·exact hinv.keep.block j hj hno
   obtain⟨y,o',c',g1,g2⟩:=(hown j).1 h;rcases(hinv.old fa y o' j c' g1 g2).1 with g|g
   ·omega
   exact hno g
  ·by_cases hx:x=fa
   ·subst hx;obtain⟨o2,g3,rfl⟩:=(hF1 y o').1 ho';obtain⟨z1,z2,z3⟩:=hi.objs 0 y o2 (by simpa[famH] using g3);refine⟨fun e he=>?_,z2,?_⟩
    ·simp only[renO,ak]at he;obtain⟨e',he',rfl⟩:=he;rw[List.length_map];exact z1 e' he'
    rw[hρf];cases hr:ρ' 0 y with
    |none=>rw[hr]at z3;simp[renO,z3]
    |some bc=>
     obtain⟨b',c'⟩:=bc;rw[hr]at z3;obtain⟨cells,p1,p2,p3,p4,p5⟩:=z3;refine⟨cells,p1,p2,by simpa[renO] using p3,p4,fun i e j z he hz=>?_⟩;simp only[renO,az]at he;obtain⟨e',he',rfl⟩:=Option.map_eq_some_iff.1 he;rw[az]at hz;obtain⟨z',hz',rfl⟩:=Option.map_eq_some_iff.1 hz;obtain⟨u,u1,u2,u3⟩:=p5 i e' j z' he' hz';exact⟨u,u1,u2,fwd z' u (hself' o2 (aw g3) e' (aw he') z' (aw hz')) u3⟩
   rw[hHn x hx]at ho';have hob:=hinv.objs x y o' ho';obtain⟨z1,z2,z3⟩:=id hob;refine⟨z1,z2,?_⟩;rw[hρn x y hx];cases hr:ρ x y with
   |none=>rw[hr]at z3;exact z3
   |some bc=>
    obtain⟨b',c'⟩:=bc;rw[hr]at z3;obtain⟨cells,p1,p2,p3,p4,p5⟩:=z3;refine⟨cells,?_,p2,p3,p4,fun i e j z he hz=>?_⟩
    ·rw[hblk b' (bP hob hr) fun h=>?_]
     ·exact p1
     obtain⟨y',o2,c2,k1,k2⟩:=(hown b').1 h;exact hx (hinv.inj x y fa y' o' o2 b' c' c2 ho' k1 hr k2).1
    obtain⟨u,u1,u2,u3⟩:=p5 i e j z he hz;exact⟨u,u1,u2,monoN x z u hx (hinv.self x y o' ho' e (aw he) z (aw hz)) u3⟩
  ·by_cases hx:x=fa
   ·subst hx;obtain⟨o3,g3,_⟩:=(hF1 y o1).1 ho1;rw[hρf]at q1;by_cases hx':x'=x
    ·subst hx';obtain⟨o4,g4,_⟩:=(hF1 y' o2).1 ho2;rw[hρf]at q2;exact⟨rfl,(hi.inj 0 y 0 y' o3 o4 j c1 c2 (by simpa[famH] using g3) (by simpa[famH] using g4) q1 q2).2⟩
    rw[hHn x' hx']at ho2;rw[hρn x' y' hx']at q2;exfalso;have hlt:=bP (hinv.objs x' y' o2 ho2) q2;rcases(hnew y o3 j c1 g3 q1).1 with g|g
    ·omega
    obtain⟨y3,o5,c5,k1,k2⟩:=(hown j).1 g;exact hx' (hinv.inj x' y' x y3 o2 o5 j c2 c5 ho2 k1 q2 k2).1
   rw[hHn x hx]at ho1;rw[hρn x y hx]at q1;by_cases hx':x'=fa
   ·subst hx';obtain⟨o4,g4,_⟩:=(hF1 y' o2).1 ho2;rw[hρf]at q2;exfalso;have hlt:=bP (hinv.objs x y o1 ho1) q1;rcases(hnew y' o4 j c2 g4 q2).1 with g|g
    ·omega
    obtain⟨y3,o5,c5,k1,k2⟩:=(hown j).1 g;exact hx (hinv.inj x y x' y3 o1 o5 j c1 c5 ho1 k1 q1 k2).1
   rw[hHn x' hx']at ho2;rw[hρn x' y' hx']at q2;exact hinv.inj x y x' y' o1 o2 j c1 c2 ho1 ho2 q1 q2
  ·by_cases hx:x=fa
   ·subst hx;obtain⟨o3,g3,_⟩:=(hF1 y o').1 ho';rw[hρf]at q;rcases(hnew y o3 j c' g3 q).1 with g|g
    ·refine⟨.inl (Nat.le_trans hinv.keep.size g),fun hX=>?_⟩;have:=hinv.bar j hX;omega
    obtain⟨y3,o5,c5,k1,k2⟩:=(hown j).1 g;exact hinv.old x y3 o5 j c5 k1 k2
   rw[hHn x hx]at ho';rw[hρn x y hx]at q;exact hinv.old x y o' j c' ho' q
  by_cases hx:x=fa
  ·subst hx;obtain⟨o3,g3,rfl⟩:=(hF1 y o').1 ho';intro e he z hz;simp only[renO,ak]at he;obtain⟨e',he',rfl⟩:=he;simp only[ak]at hz;obtain⟨z',hz',rfl⟩:=hz;exact jp x z'
  rw[hHn x hx]at ho';exact hinv.self x y o' ho'
 have htm':bY X ρ1 ⟨s.tmps.map (bo (kF fa)),H1⟩ a w1:=fun t x hx=>by
  simp only[az]at hx;obtain⟨y,hy,rfl⟩:=Option.map_eq_some_iff.1 hx;obtain⟨u,u1,u2⟩:=htm t y hy;exact⟨u,u1,mr u2 mono⟩
 refine⟨by rw[iS];exact h1,by rw[lT,gB];simpa using hsz,ρ1,by rw[jC];exact hinv',sM (s:=⟨s.tmps.map (bo (kF fa)),H1⟩) (by simpa using hsz) htm' ?_⟩;exact JA hcon.sR hr1 fwd
structure Um (ops:Array Oper) (m:Nat) (f:FuncId) (args:List TV) (fa:Nat) (F:List OObj) (s:AS):Prop where
 ts:cwTs ops m s=some (f,args.map (renTV fa))
 fam:s.H fa=F.map (renO fa)
def Vg (ops:Array Oper) (m:Nat) (r:TV) (fa:Nat) (F':List OObj) (s:AS):AS:=AS.put ⟨s.tmps.map (bo (kF fa)),be s.H fa (F'.map (renO fa))⟩ (cwD ops m) (renTV fa r)
theorem H9 (m:Nat) {f:FuncId} {args:List TV} {F F':List OObj} {r:TV} (hcon:qk P f args F F' r) (fa:Nat) (items:List (aM P)) (ow:List Nat) {id:Nat} {ops:Array Oper} {Q:Exit->AS->Prop} (hfa:fa<=4999) (hm:m<ops.toList.length)
  (h:bD P (items.map aM.a) ow (aY ops (ops.toList.take m) 0) (some s) (fun s1=>Um ops m f args fa F s1/\bD P (items.map aM.a) ow (aY ops (ops.toList.drop (m+1)) (m+1)) (some (Vg ops m r fa F' s1)) (Q .normal))):bL P (.region id ops false) Q s:=fun w0 O X a w r0=>by
 obtain⟨s1,h1,⟨q1,q2⟩,h2⟩:=bK P (items.map aM.a) ow ops _ 0 s _ h;obtain⟨s',h3,h4⟩:=bK P (items.map aM.a) ow ops _ (m+1) _ _ h2;obtain⟨o,ho⟩: ∃o,ops[m]?=some o:=⟨ops[m],by simp at hm;simp[hm]⟩;unfold cwTs at q1;rw[ho]at q1;simp only at q1;split at q1
 ·rename_i c hg hop1;split at q1
  ·rename_i f' hcal;split at q1
   ·rename_i ts hts;injection q1 with q1
    injection q1 with q1 q3
    subst q1 q3;refine wp_region ?_;have hsz:ops.size=(ops.toList.take m).length+(1+(ops.toList.drop (m+1)).length):=by simp at hm⊢;omega
    rw[hsz,List.range_eq_range',<- List.range'_append_1,Nat.zero_add];have hml:(ops.toList.take m).length=m:=by rw[List.length_take];omega
    refine iC (aM.ok items) (ops.toList.take m) 0 s s1 a w (fun j o hj=>?_) h1 r0 fun a' w' r'=>?_
    ·rw[List.getElem?_take]at hj;split at hj
     ·simpa using hj
     cases hj
    rw[hml,Nat.add_comm 1,List.range'_succ];simp only[wpOps,ho];rw[if_pos (by simp[Region.wanted,hg])];refine .inl (Lx r' hop1 hcal hcon hfa hts q2 fun v w1 hr1=>?_);refine eZ (aM.ok items) (Q:=fun e a' w'=> ∃s',Q e s'/\fW w0 O X s' a' w') (ops.toList.drop (m+1)) (m+1) _ s' _ _ (fun j o hj=>?_) h3 ?_ (fun a' w' hr=>⟨s',h4,hr⟩)
    ·rw[List.getElem?_drop]at hj;simpa using hj
    have:cwD ops m=o.dst:=by unfold cwD;rw[ho];rfl
    unfold Vg;rw[this];exact hr1
   cases q1
  cases q1
 cases q1
theorem DI (m:Nat) {f:FuncId} {args:List TV} {F F':List OObj} {r:TV} (hcon:qk P f args F F' r) (fa:Nat) (items:List (aM P)) (ow:List Nat) {id:Nat} {ops:Array Oper} {y:Code} {Q:Exit->AS->Prop} (hfa:fa<=4999) (hm:m<ops.toList.length)
  (h: ∀K:AS->Prop,(∀s1,(Um ops m f args fa F s1/\ ∀K:AS->Prop,(∀s',bL P y Q s'->K s')->bD P (items.map aM.a) ow (aY ops (ops.toList.drop (m+1)) (m+1)) (some (Vg ops m r fa F' s1)) K)->K s1)->bD P (items.map aM.a) ow (aY ops (ops.toList.take m) 0) (some s) K):bL P (.seq (.region id ops false) y) Q s:=
 aF (H9 m hcon fa items ow hfa hm (h _ fun s1 ⟨q1,q3⟩=>⟨q1,q3 _ fun _ h=>h⟩))
end
end
def gO (x:List Int):Int:=match x.find? (fun c=>c !=0)with|none=>0|some c=>if c<0 then -1 else 1
theorem JM (x:List Int) (a:Int):gO (x++[a])=if gO x=0/\a≠0 then(if a<0 then -1 else 1)else gO x:=by
 unfold gO;rw[List.find?_append];cases h:x.find? (fun c=>c !=0)with
 |none=>
  by_cases ha:a=0
  ·simp[ha]
  simp[ha]
 |some c=>
  simp;split<;>simp
theorem qc (x:List Int):gO x=0\/gO x=1\/gO x= -1:=by
 unfold gO;split
 ·simp
 split<;>simp
theorem Fj {x:List Int} {k:Nat} {a:Int} (h:x[k]?=some a):x.take (k+1)=x.take k++[a]:=by
 obtain⟨h1,rfl⟩:=List.getElem?_eq_some_iff.1 h;rw[List.take_succ_eq_append_getElem h1]
theorem ve {x:List Int} (h:uE x=true):zi x=if gO x=0 then none else some (x.map fun a=>gO x*a):=by
 unfold zi gO;rw[h];cases hf:x.find? (fun c=>c !=0)with
 |none=>simp
 |some c=>
  simp only[if_true];by_cases hc:c<0
  ·simp[hc]
  simp[hc]
theorem JN {x:List Int}:gO x=0↔ ∀c∈x,c=0:=by
 unfold gO;split
 ·rename_i h;rw[List.find?_eq_none]at h;exact⟨fun _ c hc=>by simpa using h c hc,fun _=>rfl⟩
 rename_i c h;have h1:=List.find?_some h;have h2:=List.mem_of_find?_eq_some h;constructor
 ·intro hh;split at hh<;>cases hh
 intro hh;have:=hh c h2;simp[this]at h1
theorem C0 {x:List Int} {s:Int} (hs:s=1\/s= -1):gO (x.map fun a=>s*a)=s*gO x:=by
 unfold gO;rw[List.find?_map];have e:((fun c:Int=>c !=0)∘fun a=>s*a)=fun c:Int=>c !=0:=by
  funext c;simp only[Function.comp];rw[Bool.eq_iff_iff];simp only[bne_iff_ne,ne_eq];rcases hs with rfl|rfl<;>omega
 rw[e];cases h:x.find? (fun c=>c !=0)with
 |none=>simp
 |some c=>
  have h1:=List.find?_some h;simp only[Option.map_some];have hc:c≠0:=by simpa using h1
  rcases hs with rfl|rfl
  ·simp
  by_cases h0:c<0
  ·rw[if_neg (by omega),if_pos h0];rfl
  rw[if_pos (by omega),if_neg h0];rfl
end Go.Proofs.YtiollbhgpiiodaaGreatDoor
