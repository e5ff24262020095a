/-
  Part 11 of a proof (walks and plain facts).
-/
import Derived.Test.YtiollbhgpiiodaaGreatDoorP09
import Derived.Shelf.Small.Bits
import Derived.Ground.NamesProg
import Derived.Test.YtiollbhgpiiodaaGreatDoorProg
set_option linter.all false
set_option maxRecDepth 100000
set_option maxHeartbeats 64000000
open Nat renaming reduceAdd → aa
open Nat renaming reduceEqDiff → ae
open Nat renaming le_refl → af
open List renaming replicate → ag
open List renaming mem_of_getElem? → ax
open List renaming getElem?_map → aA
namespace Go.Proofs.YtiollbhgpiiodaaGreatDoor
open Go.RowKit
section
section
variable {P:Program} {k:Nat} {s s':AS} {Q:Exit->AS->Prop}
theorem zV {items:List (dN P)} (hI:fO P items) {ow:List Nat} {ops:Array Oper} (hk:iD k ops=true) {v0:Value} {w0:World} {O X:Nat->Prop} {Q:Exit->Act->World->Prop} {suf:List Nat}: ∀(l:List Oper) (n:Nat) (s s':AS) (a:Act) (w:World),(∀(j:Nat) o,l[j]?=some o->ops[n+j]?=some o)->
  iG P items ow ops (l.zipIdx n) s=some s'->kO k v0 w0 O X s a w->(∀a' w',kO k v0 w0 O X s' a' w'->wpOps P ops Q suf a' w')->wpOps P ops Q (List.range' n l.length++suf) a w
 |[],n,s,s',a,w,_,h,r,hQ=>by
  simp only[List.zipIdx_nil,iG]at h;injection h with h
  subst h;exact hQ a w r
 |o::l,n,s,s',a,w,hl,h,r,hQ=>by
  simp only[List.zipIdx_cons,iG]at h;split at h
  ·rename_i s1 hs1;simp only[List.length_cons,List.range'_succ,List.cons_append,wpOps];have ho:ops[n]?=some o:=by have:=hl 0 o rfl;simpa using this
   rw[ho];simp only;have:=Jg (Q:=Q) hI r (po hk ho) hs1 (K:=wpOps P ops Q (List.range' (n+1) l.length++suf)) (fun v w' hr=>zV hI hk l (n+1) s1 s' _ _ (fun j o hj=>by have:=hl (j+1) o (by simpa using hj);rwa[show n+(j+1)=n+1+j by omega]at this) h hr hQ);split at this
   ·rename_i hw;rw[if_pos hw];exact .inl this
   rename_i hw;rw[if_neg hw];exact this
  cases h
structure M6 (ops:Array Oper) (m:Nat) (f:FuncId) (args:List TV) (k n fa:Nat) (F:List OObj) (s:AS):Prop where
 ts:cwTs ops m s=some (f,args.set k (.one (.sl fa 0 0 n)))
 fam:s.H fa=F.map (renO fa)
def Nz (ops:Array Oper) (m:Nat) (r:TV) (fa:Nat) (F':List OObj) (s:AS):AS:=AS.put ⟨s.tmps.map (bv (kM fa)),bs s.H fa (F'.map (renO fa))⟩ (cwD ops m) r
theorem vj (m:Nat) {f:FuncId} {args:List TV} {ka n:Nat} {F F':List OObj} {r:TV} (hcon:qS P f args ka n F F' r) (fa:Nat) (items:List (aW P)) (ow:List Nat) {id:Nat} {ops:Array Oper} (hkd:iD k ops=true) (hk:ka<args.length) (hlen:0<n) (hpure:iF ka 0 args=true) (hself: ∀o∈F,selfO 0 o) (hself': ∀o∈F',selfO 0 o) (hfa:fa<=4999) (hl:s.tmps.length<=1000000) (hm:m<ops.toList.length)
  (h:cz P (items.map aW.a) ow (bO ops (ops.toList.take m) 0) (some s) (fun s1=>M6 ops m f args ka n fa F s1/\s1.tmps.length<=1000000/\cz P (items.map aW.a) ow (bO ops (ops.toList.drop (m+1)) (m+1)) (some (Nz ops m r fa F' s1)) (Q .normal))):fc P k (.region id ops false) Q s:=fun v0 w0 O X a w r0=>by
 obtain⟨s1,h1,⟨q1,q2⟩,hl1,h2⟩:=cq P (items.map aW.a) ow ops _ 0 s _ h;obtain⟨s',h3,h4⟩:=cq P (items.map aW.a) ow ops _ (m+1) _ _ h2;obtain⟨o,ho⟩: ∃o,ops[m]?=some o:=⟨ops[m],by simp at hm;simp[hm]⟩;unfold cwTs at q1;rw[ho]at q1;simp only at q1;split at q1
 ·rename_i c hg hop1;split at q1
  ·rename_i f' hcal;split at q1
   ·rename_i ts hts;injection q1 with q1
    injection q1 with q1 q3
    subst q1 q3;refine wp_region ?_;have hsz:ops.size=(ops.toList.take m).length+(1+(ops.toList.drop (m+1)).length):=by simp at hm⊢;omega
    rw[hsz,List.range_eq_range',<- List.range'_append_1,Nat.zero_add];have hml:(ops.toList.take m).length=m:=by rw[List.length_take];omega
    refine zV (aW.ok items) hkd (ops.toList.take m) 0 s s1 a w (fun j o hj=>?_) h1 r0 fun a' w' r'=>?_
    ·rw[List.getElem?_take]at hj;split at hj
     ·simpa using hj
     cases hj
    rw[hml,Nat.add_comm 1,List.range'_succ];simp only[wpOps,ho];rw[if_pos (by simp[Region.wanted,hg])];refine .inl (HJ r'.1 hop1 hcal hcon hfa hk hlen hts hpure q2 hself hself' fun v w1 hr1=>?_);refine oJ (aW.ok items) hkd (Q:=fun e a' w'=> ∃s',Q e s'/\kO k v0 w0 O X s' a' w') (ops.toList.drop (m+1)) (m+1) _ s' _ _ (fun j o hj=>?_) h3 ⟨?_,?_⟩ (fun a' w' hr=>⟨s',h4,hr⟩)
    ·rw[List.getElem?_drop]at hj;simpa using hj
    ·have:cwD ops m=o.dst:=by unfold cwD;rw[ho];rfl
     unfold Nz;rw[this];exact hr1
    rw[sG v (po hkd ho)];exact r'.2
   cases q1
  cases q1
 cases q1
theorem AK (m:Nat) {f:FuncId} {args:List TV} {ka n:Nat} {F F':List OObj} {r:TV} (hcon:qS P f args ka n F F' r) (fa:Nat) (items:List (aW P)) (ow:List Nat) {id:Nat} {ops:Array Oper} {y:Code} (hkd:iD k ops=true) (hk:ka<args.length) (hlen:0<n) (hpure:iF ka 0 args=true) (hself: ∀o∈F,selfO 0 o) (hself': ∀o∈F',selfO 0 o) (hfa:fa<=4999) (hl:s.tmps.length<=1000000) (hm:m<ops.toList.length)
  (h: ∀K:AS->Prop,(∀s1,(M6 ops m f args ka n fa F s1/\s1.tmps.length<=1000000/\ ∀K:AS->Prop,(∀s',fc P k y Q s'->K s')->cz P (items.map aW.a) ow (bO ops (ops.toList.drop (m+1)) (m+1)) (some (Nz ops m r fa F' s1)) K)->K s1)->cz P (items.map aW.a) ow (bO ops (ops.toList.take m) 0) (some s) K):fc P k (.seq (.region id ops false) y) Q s:=
 ce (vj m hcon fa items ow hkd hk hlen hpure hself hself' hfa hl hm (h _ fun s1 ⟨q1,q2,q3⟩=>⟨q1,q2,q3 _ fun _ h=>h⟩))
theorem sB (m:Nat) {f:FuncId} {args:List TV} {ka n:Nat} {F F':List OObj} {r:TV} (hcon:qS P f args ka n F F' r) (fa:Nat) (items:List (aW P)) (ow:List Nat) {id:Nat} {ops:Array Oper} (hkd:iD k ops=true) (hk:ka<args.length) (hlen:0<n) (hpure:iF ka 0 args=true) (hself: ∀o∈F,selfO 0 o) (hself': ∀o∈F',selfO 0 o) (hfa:fa<=4999) (hl:s.tmps.length<=1000000) (hm:m<ops.toList.length)
  (h: ∀K:AS->Prop,(∀s1,(M6 ops m f args ka n fa F s1/\s1.tmps.length<=1000000/\ ∀K:AS->Prop,(∀s',Q .normal s'->K s')->cz P (items.map aW.a) ow (bO ops (ops.toList.drop (m+1)) (m+1)) (some (Nz ops m r fa F' s1)) K)->K s1)->cz P (items.map aW.a) ow (bO ops (ops.toList.take m) 0) (some s) K):fc P k (.region id ops false) Q s:=
 vj m hcon fa items ow hkd hk hlen hpure hself hself' hfa hl hm (h _ fun s1 ⟨q1,q2,q3⟩=>⟨q1,q2,q3 _ fun _ h=>h⟩)
theorem Gi {c:Code} (hk:k<s.tmps.length) (h:fc P k c Q s):bu P c Q s:=fun w0 O X a w r=>by
 obtain⟨v0,hv⟩: ∃v0,a.tmps[k]?=some v0:=⟨a.tmps[k]'(by rw[r.2.1];exact hk),by simp⟩;exact wp_mono (h v0 w0 O X a w ⟨r,hv⟩) fun e a' w' ⟨s',h1,h2⟩=>⟨s',h1,h2.1⟩
end
def wZ (m:Nat):AV->Prop
 | .sl _ r _ _=>r<m
 | .ptr _ r _ _=>r<m
 |_=>True
theorem Eb {s:AS} (a:Nat) {F:List OObj} {o:OObj} (hH:s.H a=F++[o]) (hself: ∀q∈F,∀e∈q.elems,∀x∈e,wZ F.length x):
  cj s ⟨s.tmps.map (bv fun x y=>x==a&&y==F.length),bs s.H a F⟩:=by
 rintro w0 O X act w ⟨h1,hsz,ρ,hinv,htm⟩;have htm:b7 X ρ s act w:=htm;generalize hH1:bs s.H a F=H1;have hHa:H1 a=F:=by rw[<- hH1];exact bF
 have hHn: ∀x,x≠a->H1 x=s.H x:=fun x h=>by rw[<- hH1];exact bo h
 have back: ∀(x y:Nat) q,(H1 x)[y]?=some q->(s.H x)[y]?=some q/\(x=a->y<F.length/\q∈F):=fun x y q h=>by
  by_cases hx:x=a
  ·subst hx;rw[hHa]at h;have hlt:=(List.getElem?_eq_some_iff.1 h).1;exact⟨by rw[hH,List.getElem?_append_left hlt];exact h,fun _=>⟨hlt,ax h⟩⟩
  rw[hHn x hx]at h;exact⟨h,fun e=>absurd e hx⟩
 have fwd: ∀(x y:Nat) q,(s.H x)[y]?=some q-> ¬(x=a/\y=F.length)->(H1 x)[y]?=some q:=fun x y q h hne=>by
  by_cases hx:x=a
  ·subst hx;rw[hH]at h;rw[hHa];have hlt:=(List.getElem?_eq_some_iff.1 h).1;simp at hlt;rw[List.getElem?_append_left (by have:y≠F.length:=fun e=>hne ⟨rfl,e⟩;omega)]at h;exact h
  rw[hHn x hx];exact h
 have hXo: ∀c,Xo X ρ H1 c->Xo X ρ s.H c:=fun c hc=>by
  rcases hc with hc|⟨x,y,q,n,g1,g2⟩
  ·exact .inl hc
  exact .inr ⟨x,y,q,n,(back x y q g1).1,g2⟩
 have hav: ∀x v,AV.rel ρ s.H (Xo X ρ s.H) w x v->AV.rel ρ H1 (Xo X ρ H1) w (bA (fun x y=>x==a&&y==F.length) x) v:=fun x v h=>by
  cases x with
  |p x=>exact cu.weaken (fun c _ hc=>hXo c hc) h
  |junk=>trivial
  |sl x y off len=>
   simp only[bA];by_cases hc:x=a/\y=F.length
   ·rw[if_pos (by simp[hc])];trivial
   rw[if_neg (by simpa using hc)];obtain⟨q,g1,g2⟩:=h;exact⟨q,fwd x y q g1 hc,g2⟩
  |ptr x y i j=>
   simp only[bA];by_cases hc:x=a/\y=F.length
   ·rw[if_pos (by simp[hc])];trivial
   rw[if_neg (by simpa using hc)];obtain⟨q,b,c,g1,g2⟩:=h;exact⟨q,b,c,fwd x y q g1 hc,g2⟩
 refine⟨h1,by simpa using hsz,ρ,⟨hinv.keep,fun x y q hq=>?_,fun x y x' y' q q' c n n' hq hq'=>hinv.inj x y x' y' q q' c n n' (back x y q hq).1 (back x' y' q' hq').1,fun x y q c n hq=>hinv.old x y q c n (back x y q hq).1,hinv.bar,fun x y q hq=>hinv.self x y q (back x y q hq).1⟩,fun t x hx=>?_⟩
 ·obtain⟨hb1,hb2⟩:=back x y q hq;obtain⟨q1,q2,q3⟩:=hinv.objs x y q hb1;refine⟨q1,q2,?_⟩;cases hr:ρ x y with
  |none=>rw[hr]at q3;exact q3
  |some bc=>
   obtain⟨b',c⟩:=bc;rw[hr]at q3;obtain⟨cells,p1,p2,p3,p4,p5⟩:=q3;refine⟨cells,p1,p2,p3,p4,fun i e j z he hz=>?_⟩;obtain⟨u,u1,u2,u3⟩:=p5 i e j z he hz;refine⟨u,u1,u2,?_⟩;have hs:=hinv.self x y q hb1 e (ax he) z (ax hz);have hk:=hav z u u3;have hlt:x=a->wZ F.length z:=fun hx=>hself q (hb2 hx).2 e (ax he) z (ax hz)
   cases z with
   |p z=>exact hk
   |junk=>trivial
   |sl z r off len=>
    have hs:z=x:=hs;subst hs;rw[show bA (fun x y=>x==a&&y==F.length) (.sl z r off len)= .sl z r off len from if_neg (by
     simp only[Bool.and_eq_true,beq_iff_eq];rintro⟨e1,e2⟩;have hl:r<F.length:=hlt e1;omega)]at hk
    exact hk
   |ptr z r i' j'=>
    have hs:z=x:=hs;subst hs;rw[show bA (fun x y=>x==a&&y==F.length) (.ptr z r i' j')= .ptr z r i' j' from if_neg (by
     simp only[Bool.and_eq_true,beq_iff_eq];rintro⟨e1,e2⟩;have hl:r<F.length:=hlt e1;omega)]at hk
    exact hk
 simp only[aA]at hx;obtain⟨y,hy,rfl⟩:=Option.map_eq_some_iff.1 hx;obtain⟨v,v1,v2⟩:=htm t y hy;exact⟨v,v1,ox v2 hav⟩
end
section
structure MD (P:Program) (b:Nat) (ty:TypeId) (cs:List PV) where
 i:Nat
 f:FuncId
 args:List TV
 res:CallRes
 h:CallT P b ty f args cs res cs
 ok:lentOk args res cs=true
def MD.a {P:Program} {b:Nat} {ty:TypeId} {cs:List PV} (it:MD P b ty cs):dN P:=⟨it.i,it.f,it.args,it.res⟩
section
variable {P:Program} {b:Nat} {ty:TypeId} {cs:List PV} {Q:Exit->AS->List PV->Prop} {s:AS}
end
end
section
def wK (b:Nat) (_ty:TypeId) (cs:List PV) (w:World):Prop:=
 b<w.heap.size/\ ∀(j:Nat) x,cs[j]?=some x-> ∃v:Value,x= .raw v/\w.cell? ⟨b,j,none⟩=some v/\v.oneCell'=true
theorem wK.lt {b:Nat} {ty:TypeId} {cs:List PV} {w:World} (h:wK b ty cs w):b<w.heap.size:=h.1
def lW (b:Nat) (ty:TypeId) (w0:World) (O X:Nat->Prop) (s:AS) (cs:List PV) (a:Act) (w:World):Prop:=gu w0 O X s a w/\wK b ty cs w0/\ ¬O b
theorem lW.box {b:Nat} {ty:TypeId} {w0 w:World} {O X:Nat->Prop} {s:AS} {cs:List PV} {a:Act} (h:lW b ty w0 O X s cs a w):wK b ty cs w:=by
 obtain⟨⟨_,_,ρ,hinv,_⟩,hb,hO⟩:=h;have hlt:=hb.lt;refine⟨Nat.lt_of_lt_of_le hlt hinv.keep.size,fun j x hx=>?_⟩;obtain⟨v,h1,h2,h3⟩:=hb.2 j x hx;exact⟨v,h1,by rw[nd (hinv.keep.block b hlt hO)];exact h2,h3⟩
section
variable {P:Program} {b:Nat} {ty:TypeId} {cs cs':List PV} {s s':AS} {w0 w:World} {O X:Nat->Prop} {a:Act}
def dG (P:Program) (b:Nat) (ty:TypeId) (c:Code) (Q:Exit->AS->List PV->Prop) (s:AS) (cs:List PV):Prop:=
 ∀(w0:World) (O X:Nat->Prop) (a:Act) (w:World),lW b ty w0 O X s cs a w->c.wp P (fun e a' w'=> ∃s' cs',Q e s' cs'/\lW b ty w0 O X s' cs' a' w') a w
variable {Q:Exit->AS->List PV->Prop}
theorem kU {c:Code} (h:bu P c (fun e s'=>Q e s' cs) s):dG P b ty c Q s cs:=fun w0 O X a w r=>
 wp_mono (h _ _ _ _ _ r.1) fun e a' w' ⟨s',g1,g2⟩=>⟨s',cs,g1,g2,r.2⟩
theorem lW.weak (h:cj s s') (r:lW b ty w0 O X s cs a w):lW b ty w0 O X s' cs a w:=⟨h _ _ _ _ _ r.1,r.2⟩
theorem dG.weak {c:Code} (h:cj s s') (k:dG P b ty c Q s' cs):dG P b ty c Q s cs:=fun _ _ _ _ _ r=>k _ _ _ _ _ (r.weak h)
theorem dG.mono {c:Code} {Q':Exit->AS->List PV->Prop} (h:dG P b ty c Q s cs) (k: ∀e s' cs',Q e s' cs'->Q' e s' cs'):dG P b ty c Q' s cs:=fun _ _ _ _ _ r=>
 wp_mono (h _ _ _ _ _ r) fun _ _ _ ⟨s',cs',h1,h2⟩=>⟨s',cs',k _ _ _ h1,h2⟩
theorem ef (h:Q .normal s cs):dG P b ty .skip Q s cs:=fun _ _ _ _ _ r=>wp_skip ⟨s,cs,h,r⟩
theorem sA {id:Nat} (h:Q (.exit id) s cs):dG P b ty (.exit id) Q s cs:=fun _ _ _ _ _ r=>wp_exit ⟨s,cs,h,r⟩
theorem fo (h:Q .ret s cs):dG P b ty .ret Q s cs:=fun _ _ _ _ _ r=>wp_ret ⟨s,cs,h,r⟩
theorem bI {x y:Code} (h:dG P b ty x (rl (dG P b ty y Q) Q) s cs):dG P b ty (.seq x y) Q s cs:=fun _ _ _ _ _ r=>
 wp_seq (wp_mono (h _ _ _ _ _ r) fun e a w ⟨s',cs',h1,h2⟩=>by
  cases e with
  |normal=>exact h1 _ _ _ _ _ h2
  |_=>exact⟨s',cs',h1,h2⟩)
theorem cB {id:Nat} {x:Code} (h:dG P b ty x (qh id Q) s cs):dG P b ty (.block id x) Q s cs:=fun _ _ _ _ _ r=>
 wp_block (wp_mono (h _ _ _ _ _ r) fun e a w ⟨s',cs',h1,h2⟩=>by
  cases e with
  |exit id'=>
   simp only[qh]at h1;simp only[Exit.inBlock];split at h1
   ·rename_i hid;rw[if_pos hid];exact⟨s',cs',h1,h2⟩
   rename_i hid;rw[if_neg hid];exact⟨s',cs',h1,h2⟩
  |_=>exact⟨s',cs',h1,h2⟩)
theorem yx {c:Operand} {x y:Code} {v:Bool} (hc:s.ev c=some (.raw (.bool v))) (ht:v=true->dG P b ty x Q s cs) (hf:v=false->dG P b ty y Q s cs):dG P b ty (.cond c x y) Q s cs:=fun _ _ _ _ _ r=>by
 obtain⟨⟨h1,hsz,ρ,hinv,htm⟩,_⟩:=id r;have hb:=(bY (db htm c _ hc)).1;exact wp_cond_split hb (fun h=>ht h _ _ _ _ _ r) (fun h=>hf h _ _ _ _ _ r)
theorem jb {c:Operand} {x y:Code} (hc:s.ev c=some (.raw (.bool true))) (h:dG P b ty x Q s cs):dG P b ty (.cond c x y) Q s cs:=yx hc (fun _=>h) (fun h=>by cases h)
theorem gz {c:Operand} {x y:Code} (hc:s.ev c=some (.raw (.bool false))) (h:dG P b ty y Q s cs):dG P b ty (.cond c x y) Q s cs:=yx hc (fun h=>by cases h) (fun _=>h)
theorem gA {c:Operand} {y z:Code} (hc:s.ev c=some (.raw (.bool true))) (h:dG P b ty z Q s cs):dG P b ty (.seq (.cond c .skip y) z) Q s cs:=bI (jb hc (ef h))
theorem jc {c:Operand} {x z:Code} {id:Nat} (hc:s.ev c=some (.raw (.bool false))) (h:Q (.exit id) s cs):dG P b ty (.seq (.cond c x (.exit id)) z) Q s cs:=bI (gz hc (sA h))
theorem Gj {G:Type} (St:G->AS) (Sc:G->List PV) (μ:G->Nat) (g0:G) {c:Code} (h0:cj s (St g0)) (h0':Sc g0=cs)
  (round: ∀g,dG P b ty c (rl (fun s' cs'=> ∃g',μ g'<μ g/\cj s' (St g')/\Sc g'=cs') Q) (St g) (Sc g)):dG P b ty (.loop c) Q s cs:=fun w0 O X a w r=>by
 classical
 subst h0'
 let p:Act->World->Nat->Prop:=fun a w n=> ∃g,μ g=n/\lW b ty w0 O X (St g) (Sc g) a w
 let m:Act->World->Nat:=fun a w=>if h: ∃n,p a w n then Classical.choose (bN h)else 0
 refine wp_loop (fun a w=> ∃n,p a w n) m ⟨_,g0,rfl,r.weak h0⟩ ?_;intro a w hI;have hm:m a w=Classical.choose (bN hI):=dif_pos hI;obtain⟨hp,hleast⟩:=Classical.choose_spec (bN hI);rw[<- hm]at hp;obtain⟨g,hg,hr⟩:=hp;refine wp_mono (round g _ _ _ _ _ hr) fun e a' w' ⟨s',cs',h1,h2⟩=>?_
 cases e with
 |normal=>
  obtain⟨g',hlt,hw,hcs⟩:=h1;subst hcs;have hr':=h2.weak hw;have hI': ∃n,p a' w' n:=⟨_,g',rfl,hr'⟩;refine⟨hI',?_⟩;have hm':m a' w'=Classical.choose (bN hI'):=dif_pos hI';obtain⟨_,hl'⟩:=Classical.choose_spec (bN hI');have:=hl' (μ g') ⟨g',rfl,hr'⟩;rw[hm'];omega
 |_=>exact⟨s',cs',h1,h2⟩
theorem dO {G:Type} (St:G->AS) (Sc:G->List PV) (μ:G->Nat) (g0:G) {id:Nat} {x:Code} (h0:cj s (St g0)) (h0':Sc g0=cs)
  (round: ∀g,dG P b ty x (rl (fun s' cs'=> ∃g',μ g'<μ g/\cj s' (St g')/\Sc g'=cs') (qh id Q)) (St g) (Sc g)):dG P b ty (.block id (.loop x)) Q s cs:=
 cB (Gj St Sc μ g0 h0 h0' round)
/-! Regions. -/
theorem ik {y:Code} (items:List (aW P)) (ow:List Nat) {id:Nat} {ops:Array Oper} (h: ∀K:AS->Prop,(∀s',dG P b ty y Q s' cs->K s')->cz P (items.map aW.a) ow (bO ops ops.toList 0) (some s) K):dG P b ty (.seq (.region id ops false) y) Q s cs:=
 bI (kU (mZ items ow (h _ fun _ h=>h)))
theorem Gk (items:List (aW P)) (ow:List Nat) {id:Nat} {ops:Array Oper} (h: ∀K:AS->Prop,(∀s',Q .normal s' cs->K s')->cz P (items.map aW.a) ow (bO ops ops.toList 0) (some s) K):dG P b ty (.region id ops false) Q s cs:=
 kU (mZ items ow (h _ fun _ h=>h))
theorem kf (hm:P.follows .mixedOrders=true) (items:List (aW P)) (ow:List Nat) {id:Nat} {y:Code} {ops:Array Oper} (hd:cY [] ops=true) (h: ∀K:AS->Prop,(∀s',dG P b ty y Q s' cs->K s')->cz P (items.map aW.a) ow (bO ops ops.toList 0) (some s) K):dG P b ty (.seq (.region id ops true) y) Q s cs:=
 bI (kU (iU hm items ow hd (by simp) (fun x hx=>by simp at hx) (h _ fun _ h=>h)))
theorem Eg (hm:P.follows .mixedOrders=true) (items:List (aW P)) (ow:List Nat) {id:Nat} {ops:Array Oper} (hd:cY [] ops=true) (h: ∀K:AS->Prop,(∀s',Q .normal s' cs->K s')->cz P (items.map aW.a) ow (bO ops ops.toList 0) (some s) K):dG P b ty (.region id ops true) Q s cs:=
 kU (iU hm items ow hd (by simp) (fun x hx=>by simp at hx) (h _ fun _ h=>h))
theorem aQ {y:Code} {id:Nat} {ops:Array Oper} (h: ∀K:AS->Prop,(∀s',dG P b ty y Q s' cs->K s')->cz P [] [] (bO ops ops.toList 0) (some s) K):dG P b ty (.seq (.region id ops false) y) Q s cs:=ik [] [] h
theorem cC {id:Nat} {ops:Array Oper} (h: ∀K:AS->Prop,(∀s',Q .normal s' cs->K s')->cz P [] [] (bO ops ops.toList 0) (some s) K):dG P b ty (.region id ops false) Q s cs:=Gk [] [] h
theorem gS (hm:P.follows .mixedOrders=true) {y:Code} {id:Nat} {ops:Array Oper} (hd:cY [] ops=true) (h: ∀K:AS->Prop,(∀s',dG P b ty y Q s' cs->K s')->cz P [] [] (bO ops ops.toList 0) (some s) K):dG P b ty (.seq (.region id ops true) y) Q s cs:=kf hm [] [] hd h
theorem kT (hm:P.follows .mixedOrders=true) {id:Nat} {ops:Array Oper} (hd:cY [] ops=true) (h: ∀K:AS->Prop,(∀s',Q .normal s' cs->K s')->cz P [] [] (bO ops ops.toList 0) (some s) K):dG P b ty (.region id ops true) Q s cs:=Eg hm [] [] hd h
def CallG (P:Program) (b:Nat) (ty:TypeId) (f:FuncId) (args:List TV) (cs:List PV) (res:CallRes):Prop:=callable P f=true/\ ∀w,wK b ty cs w->Az P f args res w
theorem gD {f:FuncId} {fn:Func} {c:Code} {args:List TV} {res:CallRes} (hf:P.funcs[f]?=some fn) (hb:fn.body=some c) (hn:callable P f=true)
  (h:dG P b ty c (fun e s k=>(e= .normal\/e= .ret)/\k=cs/\ ∃s',cj s s'/\nP P fn res s') ⟨args++ag (fn.ntmps-args.length) .undef,fun _=>[]⟩ cs):CallG P b ty f args cs res:=
 ⟨hn,fun w hw=>sN (wK b ty cs) hf hb hn (fun w0 X a hG r=>wp_mono (h w0 _ X a w0 ⟨r,hG,fun h=>h⟩) fun e a' w' ⟨s',k,⟨g1,_,g2⟩,g3⟩=>⟨s',⟨g1,g2⟩,g3.1⟩) w hw⟩
end
structure dV (P:Program) (b:Nat) (ty:TypeId) (cs:List PV) where
 i:Nat
 f:FuncId
 args:List TV
 res:CallRes
 h:CallG P b ty f args cs res
 ok:cs=cs
def dV.a {P:Program} {b:Nat} {ty:TypeId} {cs:List PV} (it:dV P b ty cs):dN P:=⟨it.i,it.f,it.args,it.res⟩
section
variable {P:Program} {b:Nat} {ty:TypeId} {cs cs':List PV} {s s':AS} {w0 w:World} {O X:Nat->Prop} {a:Act} {Q:Exit->AS->List PV->Prop}
theorem ET (items:List (aW P)) (lents:List (dV P b ty cs)) (hw:wK b ty cs w):kN P (items.map aW.a++lents.map dV.a) w:=fun it hit=>by
 rcases List.mem_append.1 hit with h|h
 ·exact(aW.ok items).at w it h
 obtain⟨x,_,rfl⟩:=List.mem_map.1 h;exact x.h.2 w hw
theorem Jh (items:List (aW P)) (lents:List (dV P b ty cs)) {ow:List Nat} {ops:Array Oper} {i:Nat} {o:Oper} {s1:AS} (hrel:lW b ty w0 O X s cs a w) (h:cf P (items.map aW.a++lents.map dV.a) ow ops i o s=some s1) {K:Act->World->Prop} {Q:Exit->Act->World->Prop}
  (hK: ∀v w',lW b ty w0 O X s1 cs (a.put o.dst v) w'->K (a.put o.dst v) w'):if Region.wanted o (yielded ops a.tmps)then o.wp P a w K Q else K (a.put o.dst undef) w:=
 qX (ET items lents hrel.box) hrel.1 h fun v w' hr=>hK v w' ⟨hr,hrel.2⟩
theorem IL (items:List (aW P)) (lents:List (dV P b ty cs)) {ow:List Nat} {ops:Array Oper} {Q:Exit->Act->World->Prop}:
  ∀(l:List Oper) (k:Nat) (s s':AS) (a:Act) (w:World),(∀(j:Nat) o,l[j]?=some o->ops[k+j]?=some o)->iG P (items.map aW.a++lents.map dV.a) ow ops (l.zipIdx k) s=some s'->lW b ty w0 O X s cs a w->
   (∀a' w',lW b ty w0 O X s' cs a' w'->Q .normal a' w')->wpOps P ops Q (List.range' k l.length) a w
 |[],k,s,s',a,w,_,h,r,hQ=>by
  simp only[List.zipIdx_nil,iG]at h;injection h with h
  subst h;exact hQ a w r
 |o::l,k,s,s',a,w,hl,h,r,hQ=>by
  simp only[List.zipIdx_cons,iG]at h;split at h
  ·rename_i s1 hs1;simp only[List.length_cons,List.range'_succ,wpOps];have ho:ops[k]?=some o:=by have:=hl 0 o rfl;simpa using this
   rw[ho];simp only;have:=Jh (Q:=Q) items lents r hs1 (K:=wpOps P ops Q (List.range' (k+1) l.length)) (fun v w' hr=>IL items lents l (k+1) s1 s' _ _ (fun j o hj=>by have:=hl (j+1) o (by simpa using hj);rwa[show k+(j+1)=k+1+j by omega]at this) h hr hQ);split at this
   ·rename_i hw;rw[if_pos hw];exact .inl this
   rename_i hw;rw[if_neg hw];exact this
  cases h
theorem Eh (lents:List (dV P b ty cs)) (items:List (aW P)) (ow:List Nat) {id:Nat} {ops:Array Oper}
  (h:cz P (items.map aW.a++lents.map dV.a) ow (bO ops ops.toList 0) (some s) (fun s'=>Q .normal s' cs)):dG P b ty (.region id ops false) Q s cs:=fun w0 O X a w r=>by
 obtain⟨s',h1,h2⟩:=cq P _ ow ops ops.toList 0 s _ h;refine wp_region ?_;rw[List.range_eq_range'];have:=IL (w0:=w0) (O:=O) (X:=X) items lents (Q:=fun e a' w'=> ∃s' k,Q e s' k/\lW b ty w0 O X s' k a' w') ops.toList 0 s s' a w (fun j o hj=>by simpa using hj) h1 r (fun a' w' hr=>⟨s',cs,h2,hr⟩);simpa using this
theorem AI (hmx:P.follows .mixedOrders=true) (lents:List (dV P b ty cs)) (items:List (aW P)) (ow:List Nat) {id:Nat} {ops:Array Oper} (hd:cY [] ops=true)
  (h:cz P (items.map aW.a++lents.map dV.a) ow (bO ops ops.toList 0) (some s) (fun s'=>Q .normal s' cs)):dG P b ty (.region id ops true) Q s cs:=fun w0 O X a w r=>by
 obtain⟨sF,h1,h2⟩:=cq P _ ow ops ops.toList 0 s _ h;refine wp_region_any hmx ?_;have hrun:f9 P (items.map aW.a++lents.map dV.a) ow ops (List.range ops.size) s=some sF:=by
  rw[List.range_eq_range'];have:=kF (P:=P) (items:=items.map aW.a++lents.map dV.a) (ow:=ow) ops.toList 0 s (fun j o hj=>by simpa using hj);rw[h1]at this;simpa using this.symm
 have hr':lW b ty w0 O X s cs a {w with drawn:=w.drawn+1}:=by
  obtain⟨⟨q1,q2,ρ,hinv,htm⟩,g⟩:=r;have e:Ext w {w with drawn:=w.drawn+1}:=⟨rfl,rfl,rfl,af _,fun _ _=>rfl⟩;have htm:b7 X ρ s a w:=htm;exact⟨⟨q1,q2,ρ,hinv.grow e,htm.grow e⟩,g⟩
 refine kX (sep:=[]) (o9 hd (by simp)) hd (Q:=fun e a' w'=> ∃s' k,Q e s' k/\lW b ty w0 O X s' k a' w') (fun _ s a w=>lW b ty w0 O X s cs a w) ⟨jH r.1,fun x hx=>by simp at hx⟩ hrun (fun p a w _ hr=>⟨sF,cs,h2,hr⟩) (fun p i o s s1 a w K ho hpi _ hs hr hK=>Jh items lents hr hs hK) ops.size (Array.replicate ops.size false) s a _ (by simp) ?_ ?_ ?_ hr'
 ·intro j o ho hp;have hj:j<ops.size:=(Array.getElem?_eq_some_iff.1 ho).1;simp[hj]at hp
 ·exact Nat.le_trans (List.length_filter_le _ _) (by simp)
 have:ri ops.size (fun j=>(Array.replicate ops.size false).getD j true)=[]:=by
  unfold ri;rw[List.filter_eq_nil_iff];intro j hj;have:=List.mem_range.1 hj;simp[this]
 rw[this];rfl
theorem dY (lents:List (dV P b ty cs)) (items:List (aW P)) (ow:List Nat) {id:Nat} {ops:Array Oper} {y:Code}
  (h: ∀K:AS->Prop,(∀s',dG P b ty y Q s' cs->K s')->cz P (items.map aW.a++lents.map dV.a) ow (bO ops ops.toList 0) (some s) K):dG P b ty (.seq (.region id ops false) y) Q s cs:=
 bI (Eh lents items ow (h _ fun _ h=>h))
theorem yy (hmx:P.follows .mixedOrders=true) (lents:List (dV P b ty cs)) (items:List (aW P)) (ow:List Nat) {id:Nat} {ops:Array Oper} {y:Code} (hd:cY [] ops=true)
  (h: ∀K:AS->Prop,(∀s',dG P b ty y Q s' cs->K s')->cz P (items.map aW.a++lents.map dV.a) ow (bO ops ops.toList 0) (some s) K):dG P b ty (.seq (.region id ops true) y) Q s cs:=
 bI (AI hmx lents items ow hd (h _ fun _ h=>h))
theorem Gl (m j d:Nat) (T:TV) (items:List (aW P)) (ow:List Nat) {id:Nat} {ops:Array Oper} (hl:s.tmps.length<=1000000) (hm:m<ops.toList.length)
  (h:cz P (items.map aW.a) ow (bO ops (ops.toList.take m) 0) (some s) (fun s1=>O6 P b cs ops m j d T s1/\s1.tmps.length<=1000000/\cz P (items.map aW.a) ow (bO ops (ops.toList.drop (m+1)) (m+1)) (some (s1.put (some d) T)) (fun s'=>Q .normal s' cs))):dG P b ty (.region id ops false) Q s cs:=fun w0 O X a w r0=>by
 obtain⟨s1,h1,⟨⟨t,x,o,ho,hop,hdst,hg,hx,hT⟩⟩,hl1,h2⟩:=cq P (items.map aW.a) ow ops _ 0 s _ h;obtain⟨s',h3,h4⟩:=cq P (items.map aW.a) ow ops _ (m+1) _ _ h2;refine wp_region ?_;have hsz:ops.size=(ops.toList.take m).length+(1+(ops.toList.drop (m+1)).length):=by simp at hm⊢;omega
 rw[hsz,List.range_eq_range',<- List.range'_append_1,Nat.zero_add];have hml:(ops.toList.take m).length=m:=by rw[List.length_take];omega
 refine mM (aW.ok items) (ops.toList.take m) 0 s s1 a w (fun j o hj=>?_) h1 r0.1 fun a' w' r'=>?_
 ·rw[List.getElem?_take]at hj;split at hj
  ·simpa using hj
  cases hj
 rw[hml,Nat.add_comm 1,List.range'_succ];simp only[wpOps,ho];rw[if_pos (by simp[Region.wanted,hg])];refine .inl ?_;have rG:lW b ty w0 O X s1 cs a' w':=⟨r',r0.2⟩;have p6:=rG.box.2;obtain⟨k1,k2,ρ,hinv,htm⟩:=r';have htm:b7 X ρ s1 a' w':=htm;have hv:=(bY (db htm x _ hx)).1;have hcs:ld ρ s1.H (Xo X ρ s1.H) w' b j ((cs.drop j).map AV.p):=fun i y hy=>by
  rw[aA]at hy;obtain⟨z,hz,rfl⟩:=Option.map_eq_some_iff.1 hy;rw[List.getElem?_drop]at hz;obtain⟨v,rfl,v1,v2⟩:=p6 _ z hz;exact⟨v,v1,v2,cu.raw _ v2⟩
 obtain⟨v,g1,g2⟩:=lB hT hcs;have hrun:(execOp a'.eval o).run P w'= .ok (.value v) w':=by
  unfold execOp;rw[hop];refine dL ?_;rw[hv];exact g1
 unfold Oper.wp;rw[hrun];simp only[Oper.upon];rw[hdst];refine gZ (aW.ok items) (Q:=fun e a' w'=> ∃s' cs',Q e s' cs'/\lW b ty w0 O X s' cs' a' w') (ops.toList.drop (m+1)) (m+1) _ s' _ _ (fun j o hj=>?_) h3 (gI k1 k2 hinv htm g2) (fun a' w' hr=>⟨s',cs,h4,hr,r0.2⟩);rw[List.getElem?_drop]at hj;simpa using hj
theorem Ei (m j d:Nat) (T:TV) (items:List (aW P)) (ow:List Nat) {id:Nat} {ops:Array Oper} {y:Code} (hl:s.tmps.length<=1000000) (hm:m<ops.toList.length)
  (h: ∀K:AS->Prop,(∀s1,(O6 P b cs ops m j d T s1/\s1.tmps.length<=1000000/\ ∀K:AS->Prop,(∀s',dG P b ty y Q s' cs->K s')->cz P (items.map aW.a) ow (bO ops (ops.toList.drop (m+1)) (m+1)) (some (s1.put (some d) T)) K)->K s1)->cz P (items.map aW.a) ow (bO ops (ops.toList.take m) 0) (some s) K):dG P b ty (.seq (.region id ops false) y) Q s cs:=
 bI (Gl m j d T items ow hl hm (h _ fun s1 ⟨q1,q2,q3⟩=>⟨q1,q2,q3 _ fun _ h=>h⟩))
end
end
end Go.Proofs.YtiollbhgpiiodaaGreatDoor
namespace Go.Proofs
open Go.Shelf
def Tryz.lays133_ren:Go.Shelf.Ren:=⟨fun|133=>168|128=>172|n=>n,fun|51=>56|3=>3|4=>4|46=>57|5=>5|9=>9|n=>n,fun|n=>n⟩
theorem Tryz.lays133:Go.Proofs.Lays.n133 Tryz.prog Tryz.lays133_ren:={
 mixed:=by kernel_rfl
 f128:=Tryz.func172.trans (congrArg some (by kernel_rfl))
 f133:=Tryz.func168.trans (congrArg some (by kernel_rfl))
 t3:=Tryz.underlying3
 a3:=Tryz.isAgg3
 z3:=Tryz.sizeOf3
 v3:=Tryz.zeroValue3
 t4:=Tryz.underlying4
 a4:=Tryz.isAgg4
 z4:=Tryz.sizeOf4
 v4:=Tryz.zeroValue4
 t5:=Tryz.underlying5
 a5:=Tryz.isAgg5
 z5:=Tryz.sizeOf5
 v5:=Tryz.zeroValue5
 t9:=Tryz.underlying9
 a9:=Tryz.isAgg9
 z9:=Tryz.sizeOf9
 v9:=Tryz.zeroValue9
 t46:=Tryz.underlying57
 a46:=Tryz.isAgg57
 z46:=Tryz.sizeOf57
 v46:=Tryz.zeroValue57
 t51:=Tryz.underlying56
 a51:=Tryz.isAgg56
 z51:=Tryz.sizeOf56
 v51:=Tryz.zeroValue56}
end Go.Proofs
namespace Go.Proofs.YtiollbhgpiiodaaGreatDoor
open Go.RowKit
theorem vz: ∀x:List Int,lY x x=0
 |[]=>rfl
 |a::x=>by simp[lY,vz x]
theorem CU: ∀{x y:List Int},lY x y=0->x=y
 |[],[],_=>rfl
 |[],_::_,h=>by simp[lY]at h
 |_::_,[],h=>by simp[lY]at h
 |a::x,b::y,h=>by
  unfold lY at h;split at h
  ·omega
  split at h
  ·omega
  rw[CU h,show a=b from by omega]
theorem IT (A B:Option Addr) (c d:Nat) (a b:List (List Int)) (w:World) (ha:rA .i64 w A a) (hb:rA .i64 w B b) (la:a.length<=9223372036854775807) (lb:b.length<=9223372036854775807):
  Calls Tryz.prog 32 #[.slice A a.length c,.slice B b.length d] w fun e w'=>e= .returned (.bool (decide (a=b)))/\Ext w w':=by
 have HA:=Lib.hid ha;have HB:=Lib.hid hb;clear ha hb;by_cases hl:a.length=b.length
 ·have hlb:((a.length:Int) !=(b.length:Int))=false:=by simp[hl]
  have HL:=Lib.hid hl;have hle:a.length<=b.length:=by omega
  clear hl
  go_enter Tryz.func32,Tryz.ntmps32
  go_wp2_with fail
  clear hlb
  go_loopw [13,5] (fun i _ wr=> ∃k:Nat,k<=a.length/\i= .int .i64 k/\Hid (Ext w wr)/\Hid (∀j,j<k->a[j]?=b[j]?)) (fun i _ _=>a.length-(intOf i).toNat)
  case atStart=>exact⟨0,Nat.zero_le _,rfl,Lib.hid (Ext.refl _),Lib.hid (fun j h=>by omega)⟩
  case round=>
   obtain⟨k,hk,rfl,HE,HQ⟩:=hrel;by_cases hlt:k<a.length
   ·obtain⟨x,hx⟩:=getElem?_of_lt hlt;obtain⟨y,hy⟩:=getElem?_of_lt (l:=b) (k:=k) (by omega);obtain⟨b1,o1,B1,c1,rfl,hc1,hcl1,hlx,hr1⟩:=(HA.out.ext HE.out.drew).at_ hx;obtain⟨b2,o2,B2,c2,rfl,hc2,hcl2,hly,hr2⟩:=(HB.out.ext HE.out.drew).at_ hy;have HX:=Lib.hid hx;have HY:=Lib.hid hy;have HR1:=Lib.hid hr1;have HR2:=Lib.hid hr2;have HE1:=Lib.hid HE.out.drew;have hkb:(k:Int)<(b.length:Int):=by omega
    clear hx hy hr1 hr2 HE
    go_wp2_with fail
    refine pF 8 (by kernel_rfl) (by kernel_rfl) ?_;simp only[List.take_succ_cons,List.take_zero,List.drop_succ_cons,List.drop_zero];generalize wr.drew=w3 at*
    iterate 8 still_step
    refine wpStill_nil ?_;have HC:=Lib.hid (ug B1 B2 c1 c2 x y w3 HR1.out HR2.out hlx hly);clear hc1 hc2;by_cases h0:lY x y=0
    ·have h0':(lY x y !=0)=false:=by simp[h0]
     have H0:=Lib.hid h0;clear h0
     go_wp2_with fail
     refine HC.out.mono ?_;rintro e w4 ⟨rfl,n,rfl⟩
     go_wp2_with fail
     go_roundw
     case rel=>
      refine⟨k+1,by omega,by go_num,Lib.hid (HE1.out.drewN n),Lib.hid (fun j hj=>?_)⟩;by_cases e:j=k
      ·subst e;rw[HX.out,HY.out,CU H0.out]
      exact HQ.out j (by omega)
     case measure=>simp[intOf];omega
    have h0':(lY x y !=0)=true:=by simp[h0]
    go_wp2_with fail
    refine HC.out.mono ?_;rintro e w4 ⟨rfl,n,rfl⟩
    go_wp2_with fail
    go_ret
    refine⟨dU (fun h=>?_),HE1.out.drewN n⟩;subst h;have h1:=HX.out;rw[HY.out]at h1;cases h1;exact h0 (vz _)
   go_wp2_with fail
   go_ret
   refine⟨xO ?_,HE.out⟩;apply List.ext_getElem?;intro j;rcases Nat.lt_or_ge j a.length with h|h
   ·exact HQ.out j (by omega)
   rw[List.getElem?_eq_none h,List.getElem?_eq_none (by have:=HL.out;omega)]
 have hlb:((a.length:Int) !=(b.length:Int))=true:=by simp;omega
 go_enter Tryz.func32,Tryz.ntmps32
 go_wp2_with fail
 go_ret
 exact⟨dU (fun h=>hl (by rw[h])),Ext.refl _⟩
theorem NQ {s:AS} {w0 w:World} {O X:Nat->Prop} {ρ:Rho} {act:Act} (a:Nat) (hok:uU s.H a) (hinv:Inv w0 O X s.H ρ w) (htm:b7 X ρ s act w):Inv w0 O X (bs s.H a []) ρ w/\b7 X ρ ⟨s.tmps.map (gO s.H a),bs s.H a []⟩ act w:=by
 have hna: ∀(x y:Nat) o,(bs s.H a [] x)[y]?=some o->x≠a/\(s.H x)[y]?=some o:=fun x y o ho=>by
  by_cases hx:x=a
  ·subst hx;rw[bF]at ho;simp at ho
  rw[bo hx]at ho;exact⟨hx,ho⟩
 have hXo: ∀b,Xo X ρ (bs s.H a []) b->Xo X ρ s.H b:=fun b hb=>by
  rcases hb with hb|⟨x,y,o,n,g1,g2⟩
  ·exact .inl hb
  exact .inr ⟨x,y,o,n,(hna x y o g1).2,g2⟩
 have hZb: ∀(r:Nat) o,(s.H a)[r]?=some o-> ∀b c,ρ a r=some (b,c)-> ¬Xo X ρ (bs s.H a []) b:=fun r o ho b c hr hX=>by
  rcases hX with hX|⟨x,y,o',n,g1,g2⟩
  ·exact(hinv.old a r o b c ho hr).2 hX
  obtain⟨hx,g1'⟩:=hna x y o' g1;exact hx (hinv.inj x y a r o' o b n c g1' ho g2 hr).1
 have hpure: ∀x u,isPure x=true->AV.rel ρ s.H (Xo X ρ s.H) w x u->cu (Xo X ρ (bs s.H a [])) w (yd x) u:=fun x u hp h=>by
  cases x<;>first|exact cu.weaken (fun b _ hb=>hXo b hb) h|cases hp
 have hcell: ∀(r:Nat) o,(s.H a)[r]?=some o-> ∀e∈o.elems,∀x∈e,∀u,AV.rel ρ s.H (Xo X ρ s.H) w x u->cu (Xo X ρ (bs s.H a [])) w (jC s.H a x) u:=fun r o ho e he x hx u hu=>by
  rcases hok r o ho e he x hx with hp|⟨r',off,len,o',rfl,ho',hpr⟩
  ·have:=hpure x u hp hu;cases x<;>first|exact this|cases hp
  simp only[jC,ho'];exact nG (hinv.objs a r' o' ho') ho' (fun e he y hy u hu=>hpure y u (hpr e he y hy) hu) (hZb r' o' ho') hu
 have hmap: ∀x v,AV.rel ρ s.H (Xo X ρ s.H) w x v->AV.rel ρ (bs s.H a []) (Xo X ρ (bs s.H a [])) w (fj s.H a x) v:=fun x v h=>by
  cases x with
  |p x=>exact cu.weaken (fun b _ hb=>hXo b hb) h
  |sl b r off len=>
   simp only[fj];by_cases hb:b=a
   ·subst hb;rw[if_pos rfl];have h':=h;obtain⟨o,g1,g2,g3⟩:=h;rw[g1];exact nG (hinv.objs b r o g1) g1 (hcell r o g1) (hZb r o g1) h'
   rw[if_neg hb];obtain⟨o,g1,g2⟩:=h;exact⟨o,by rw[bo hb];exact g1,g2⟩
  |ptr b r i j=>
   simp only[fj];by_cases hb:b=a
   ·subst hb;rw[if_pos rfl];trivial
   rw[if_neg hb];obtain⟨o,b',c,g1,g2⟩:=h;exact⟨o,b',c,by rw[bo hb];exact g1,g2⟩
  |junk=>trivial
 have hagg: ∀cs v,b6 ρ s.H (Xo X ρ s.H) w cs v->b6 ρ (bs s.H a []) (Xo X ρ (bs s.H a [])) w (cs.map (fj s.H a)) v:=fun cs v h=>by
  obtain⟨vs,g1,g2,g3⟩:=h;refine⟨vs,g1,by simpa using g2,fun j x hx=>?_⟩;rw[aA]at hx;obtain⟨y,hy,rfl⟩:=Option.map_eq_some_iff.1 hx;obtain⟨u,u1,u2,u3⟩:=g3 j y hy;exact⟨u,u1,u2,hmap y u u3⟩
 refine⟨⟨hinv.keep,fun x y o ho=>?_,fun x y x' y' o o' b c c' ho ho'=>hinv.inj x y x' y' o o' b c c' (hna x y o ho).2 (hna x' y' o' ho').2,fun x y o b c ho=>hinv.old x y o b c (hna x y o ho).2,hinv.bar,fun x y o ho=>hinv.self x y o (hna x y o ho).2⟩,fun t x hx=>?_⟩
 ·obtain⟨hx,ho'⟩:=hna x y o ho;obtain⟨q1,q2,q3⟩:=hinv.objs x y o ho';refine⟨q1,q2,?_⟩;cases hr:ρ x y with
  |none=>rw[hr]at q3;exact q3
  |some bc=>
   obtain⟨b,c⟩:=bc;rw[hr]at q3;obtain⟨cells,p1,p2,p3,p4,p5⟩:=q3;refine⟨cells,p1,p2,p3,p4,fun i e j z he hz=>?_⟩;obtain⟨u,u1,u2,u3⟩:=p5 i e j z he hz;have hs:=hinv.self x y o ho' e (ax he) z (ax hz);have:=hmap z u u3;refine⟨u,u1,u2,?_⟩;cases z with
   |sl z _ _ _=>have hs:z=x:=hs;subst hs;simpa[fj,hx] using this
   |ptr z _ _ _=>have hs:z=x:=hs;subst hs;simpa[fj,hx] using this
   |p z=>exact this
   |junk=>trivial
 simp only[aA]at hx;obtain⟨y,hy,rfl⟩:=Option.map_eq_some_iff.1 hx;obtain⟨v,v1,v2⟩:=htm t y hy;refine⟨v,v1,?_⟩;cases y with
 |one x=>exact hmap x v v2
 |agg cs=>exact hagg cs v v2
 |fn f cs=>obtain⟨u,h1,h2⟩:=v2;exact⟨u,hagg cs u h1,h2⟩
 |tup ts=>
  obtain⟨vs,g1,g2,g3⟩:=v2;refine⟨vs,g1,by simpa using g2,fun j b cs hj=>?_⟩;rw[aA]at hj;obtain⟨z,hz,hzz⟩:=Option.map_eq_some_iff.1 hj;obtain⟨b',cs'⟩:=z;simp at hzz;obtain⟨rfl,rfl⟩:=hzz;obtain⟨u,u1,u2⟩:=g3 j b' cs' hz;refine⟨u,u1,?_⟩;rcases u2 with⟨u2,u3⟩|⟨u2,q,rfl,u4⟩
  ·exact .inl ⟨u2,hagg _ _ u3⟩
  exact .inr ⟨u2,_,rfl,hmap q u u4⟩
theorem l9 {s:AS} (a k:Nat) {ty:TypeId} {es:Nat} {cs:List PV} (hH:s.H a=[⟨ty,es,[cs.map AV.p]⟩]) (hk:s.tmps[k]?=some (.one (.ptr a 0 0 0))):cj s ⟨(s.tmps.map (gO s.H a)).set k (.one (.p (.ptr cs))),bs s.H a []⟩:=by
 rintro w0 O X act w ⟨h1,hsz,ρ,hinv,htm⟩;have htm:b7 X ρ s act w:=htm;have hrow:(s.H a)[0]?=some ⟨ty,es,[cs.map AV.p]⟩:=by rw[hH];rfl
 have hok:uU s.H a:=fun r o ho e he x hx=>by
  rw[hH]at ho;cases r with
  |succ r=>simp at ho
  |zero=>
   simp at ho;subst ho;simp at he;subst he;obtain⟨y,_,rfl⟩:=List.mem_map.1 hx;exact .inl rfl
 obtain⟨hinv',htm'⟩:=NQ a hok hinv htm;refine⟨h1,by simpa using hsz,ρ,hinv',fun t x hx=>?_⟩;by_cases e:t=k
 ·subst e;simp only at hx;have hlt:=(List.getElem?_eq_some_iff.1 hk).1;rw[List.getElem?_set_self (by simpa using hlt)]at hx;injection hx with hx
  subst hx;obtain⟨v,v1,o,b,c,g1,g2,g3,rfl⟩:=htm t _ hk;rw[hrow]at g1;injection g1 with g1
  subst g1;refine⟨_,v1,?_⟩;obtain⟨q1,q2,q3⟩:=hinv.objs a 0 _ hrow;rw[g2]at q3;obtain⟨cells,p1,p2,p3,p4,p5⟩:=q3;have hXo: ∀b,Xo X ρ (bs s.H a []) b->Xo X ρ s.H b:=fun b hb=>by
   rcases hb with hb|⟨x,y,o,n,g1,g2⟩
   ·exact .inl hb
   by_cases hx:x=a
   ·subst hx;rw[bF]at g1;simp at g1
   rw[bo hx]at g1;exact .inr ⟨x,y,o,n,g1,g2⟩
  have hnb: ¬Xo X ρ (bs s.H a []) b:=fun hX=>by
   rcases hX with hX|⟨x,y,o',n,g1,g3⟩
   ·exact(hinv.old a 0 _ b c hrow g2).2 hX
   by_cases hx:x=a
   ·subst hx;rw[bF]at g1;simp at g1
   rw[bo hx]at g1;exact hx (hinv.inj x y a 0 o' _ b n c g1 hrow g3 g2).1
  show cu _ w (.ptr cs) _;rw[show(0:Nat)*(⟨ty,es,[cs.map AV.p]⟩:OObj).es+0=0 by simp];have hkey: ∀(j:Nat) x,cs[j]?=some x-> ∃u:Value,cells[j]?=some u/\cu (Xo X ρ (bs s.H a [])) w x u:=fun j x hx=>by
   obtain⟨u,u1,u2,u3⟩:=p5 0 (cs.map AV.p) j (.p x) rfl (by rw[aA,hx];rfl);refine⟨u,by simpa using u1,cu.weaken (fun b _ hb=>hXo b hb) u3⟩
  refine cu.ptr b 0 cs (fun j=>(cells[j]?).getD undef) hnb (Array.getElem?_eq_some_iff.1 p1).1 (fun j x hx=>?_) (fun j x hx=>?_)
  ·obtain⟨u,u1,u2⟩:=hkey j x hx;rw[cell_of_row _ b _ cells _ _ p1,Nat.zero_add,u1];rfl
  obtain⟨u,u1,u2⟩:=hkey j x hx;simp only[u1,Option.getD_some];exact u2
 simp only at hx;rw[List.getElem?_set_ne (Ne.symm e)]at hx;exact htm' t x hx
section
def OO (k:Nat) (f:List Nat->Int):Prop:= ∀xs c d ys,xs.length+ys.length+2=k->f (xs++c::d::ys)= - f (xs++d::c::ys)
theorem OO.cons {k:Nat} {f:List Nat->Int} (h:OO (k+1) f) (c:Nat):OO k (fun l=>f (c::l)):=fun xs a b ys hl=>h (c::xs) a b ys (by simp;omega)
theorem Dn {r:Nat->Int}: ∀(cs:List Nat) {f g:List Nat->Int},(∀l,l.length+1=cs.length->f l= - g l)->dn r f cs= - dn r g cs
 |[],_,_,_=>rfl
 |c::cs,f,g,h=>by
  rw[dn,dn,h cs rfl,Dn cs (f:=fun l=>f (c::l)) (g:=fun l=>g (c::l)) (fun l hl=>h (c::l) (by simp;omega))];grind
theorem CN {r:Nat->Int}: ∀(xs:List Nat) (k:Nat) (f:List Nat->Int),OO k f-> ∀c d ys,xs.length+ys.length+2=k+1->dn r f (xs++c::d::ys)= - dn r f (xs++d::c::ys)
 |[],k,f,h,c,d,ys,hl=>by
  have e:=Dn (r:=r) ys (f:=fun l=>f (c::d::l)) (g:=fun l=>f (d::c::l)) (fun l hl'=>h [] c d l (by simp at hl⊢;omega));simp only[List.nil_append,dn];rw[e];grind
 |x::xs,k,f,h,c,d,ys,hl=>by
  obtain⟨k,rfl⟩: ∃k',k=k'+1:=⟨k-1,by simp at hl;omega⟩;simp only[List.cons_append,dn];rw[CN xs k _ (h.cons x) c d ys (by simp at hl;omega),h xs c d ys (by simp at hl;omega)];grind
theorem BP (R:FF): ∀k,OO k (om R k)
 |0=>fun xs c d ys h=>by omega
 |k+1=>fun xs c d ys h=>CN xs k _ (BP R k) c d ys h
theorem wU {k:Nat} {f:List Nat->Int} (h:OO k f) (c:Nat) (ys:List Nat): ∀(xs zs:List Nat),zs.length+xs.length+ys.length+2=k->f (zs++c::(xs++c::ys))=0
 |[],zs,hl=>by
  have:=h zs c c ys (by simp at hl;omega);simp only[List.nil_append];omega
 |x::xs,zs,hl=>by
  have h1:=h zs c x (xs++c::ys) (by simp at hl⊢;omega);have h2:=wU h c ys xs (zs++[x]) (by simp at hl⊢;omega);rw[List.append_assoc]at h2;simp only[List.cons_append,List.nil_append]at h1 h2⊢;rw[h1,h2];rfl
/-! Columns. -/
theorem lw {r s:Nat->Int}: ∀(cs:List Nat) {f g:List Nat->Int},cs.Nodup->(∀c∈cs,r c=s c)->(∀l,l.length+1=cs.length->(∀c∈l,c∈cs)->l.Nodup->f l=g l)->dn r f cs=dn s g cs
 |[],_,_,_,_,_=>rfl
 |c::cs,f,g,hn,h,hf=>by
  obtain⟨hc,hn'⟩:=List.nodup_cons.1 hn;rw[dn,dn,h c List.mem_cons_self,hf cs rfl (fun d hd=>List.mem_cons_of_mem _ hd) hn',lw cs hn' (fun d hd=>h d (List.mem_cons_of_mem _ hd)) (fun l hl hs hl2=>hf (c::l) (by simp;omega) (fun d hd=>by
   rcases List.mem_cons.1 hd with rfl|hd
   ·exact List.mem_cons_self
   exact List.mem_cons_of_mem _ (hs d hd)) (List.nodup_cons.2 ⟨fun h=>hc (hs c h),hl2⟩))]
def di (R:FF) (a:Nat) (S:Nat->Int):Nat->Nat->Int:=fun i c=>if c=a then S i else R i c
theorem ni (R:FF) (a:Nat):di R a (fun i=>R i a)=R:=by
 funext i c;unfold di;split
 ·rename_i h;rw[h]
 rfl
theorem Dm {a:Nat} {u t s s':Int} {r:Nat->Int}: ∀(cs:List Nat) (f fS fT:List Nat->Int),cs.Nodup->a∈cs->
  (∀l,l.length+1=cs.length->(∀c∈l,c∈cs)->l.Nodup->(a∈l->f l=u*fS l+t*fT l)/\(a∉l->fS l=f l/\fT l=f l))->
  dn (fun c=>if c=a then u*s+t*s' else r c) f cs=u*dn (fun c=>if c=a then s else r c) fS cs+t*dn (fun c=>if c=a then s' else r c) fT cs
 |[],_,_,_,_,h,_=>by simp at h
 |c::cs,f,fS,fT,hn,ha,h=>by
  obtain⟨hc,hn'⟩:=List.nodup_cons.1 hn;have hsub: ∀l:List Nat,(∀c∈l,c∈cs)-> ∀d∈c::l,d∈c::cs:=fun l hs d hd=>by
   rcases List.mem_cons.1 hd with rfl|hd
   ·exact List.mem_cons_self
   exact List.mem_cons_of_mem _ (hs d hd)
  obtain⟨h1,h2⟩:=h cs rfl (fun d hd=>List.mem_cons_of_mem _ hd) hn';rw[dn,dn,dn];by_cases e:c=a
  ·subst e;obtain⟨h3,h4⟩:=h2 hc;have e0: ∀d∈cs,d≠c:=fun d hd e=>hc (e▸hd)
   have e1:dn (fun d=>if d=c then u*s+t*s' else r d) (fun l=>f (c::l)) cs=dn r (fun l=>u*fS (c::l)+t*fT (c::l)) cs:=
    lw cs hn' (fun d hd=>by simp[e0 d hd]) (fun l hl hs hl2=>(h (c::l) (by simp;omega) (hsub l hs) (List.nodup_cons.2 ⟨fun h=>hc (hs c h),hl2⟩)).1 List.mem_cons_self)
   have e2:dn (fun d=>if d=c then s else r d) (fun l=>fS (c::l)) cs=dn r (fun l=>fS (c::l)) cs:=lw cs hn' (fun d hd=>by simp[e0 d hd]) (fun _ _ _ _=>rfl);have e3:dn (fun d=>if d=c then s' else r d) (fun l=>fT (c::l)) cs=dn r (fun l=>fT (c::l)) cs:=lw cs hn' (fun d hd=>by simp[e0 d hd]) (fun _ _ _ _=>rfl);rw[e1,e2,e3,tw,h3,h4];simp only[if_pos];grind
  have ha':a∈cs:=by
   rcases List.mem_cons.1 ha with h|h
   ·exact absurd h.symm e
   exact h
  have ih:=Dm (u:=u) (t:=t) (s:=s) (s':=s') (r:=r) cs (fun l=>f (c::l)) (fun l=>fS (c::l)) (fun l=>fT (c::l)) hn' ha' (fun l hl hs hl2=>by
   obtain⟨q1,q2⟩:=h (c::l) (by simp;omega) (hsub l hs) (List.nodup_cons.2 ⟨fun h=>hc (hs c h),hl2⟩);exact⟨fun hal=>q1 (List.mem_cons_of_mem _ hal),fun hal=>q2 (fun h=>by
    rcases List.mem_cons.1 h with h|h
    ·exact e h.symm
    exact hal h)⟩)
  rw[ih,h1 ha'];simp only[if_neg e];grind
theorem Id {R:FF} {a:Nat} {u t:Int} {S T:Nat->Int}: ∀(k:Nat) (cs:List Nat),cs.Nodup->cs.length=k->a∈cs->
  om (di R a (fun i=>u*S i+t*T i)) k cs=u*om (di R a S) k cs+t*om (di R a T) k cs
 |0,cs,_,hl,ha=>by rw[List.length_eq_zero_iff.1 hl]at ha;simp at ha
 |k+1,cs,hn,hl,ha=>by
  refine Dm (r:=R k) (s:=S k) (s':=T k) cs _ _ _ hn ha (fun l hl' hs hl2=>⟨fun hal=>Id k l hl2 (by omega) hal,fun hal=>?_⟩);have hne: ∀c∈l,c≠a:=fun c hc e=>hal (e▸hc)
  exact⟨nF fun i _ c hc=>by simp[di,hne c hc],nF fun i _ c hc=>by simp[di,hne c hc]⟩
theorem Do {r:Nat->Int} (p:Nat->Nat): ∀(cs:List Nat) (f:List Nat->Int),dn (fun c=>r (p c)) (fun l=>f (l.map p)) cs=dn r f (cs.map p)
 |[],_=>rfl
 |c::cs,f=>by
  rw[dn,List.map_cons,dn];have:=Do (r:=r) p cs (fun l=>f (p c::l));rw[<- this];rfl
theorem Ie {R:FF} (p:Nat->Nat): ∀(k:Nat) (cs:List Nat),om (fun i c=>R i (p c)) k cs=om R k (cs.map p)
 |0,_=>rfl
 |k+1,cs=>by
  have e:om (fun i c=>R i (p c)) k=fun l=>om R k (l.map p):=funext (Ie p k)
  show dn (fun c=>R k (p c)) (om (fun i c=>R i (p c)) k) cs=_;rw[e,Do p cs (om R k)];rfl
theorem If {R:FF} {a b k:Nat} {cs:List Nat} (hn:cs.Nodup) (hl:cs.length=k) (ha:a∈cs) (hb:b∈cs) (hab:a≠b):om (di R a (fun i=>R i b)) k cs=0:=by
 have e:di R a (fun i=>R i b)=fun i c=>R i (if c=a then b else c):=by
  funext i c;unfold di;split<;>rfl
 rw[e,Ie (R:=R) (fun c=>if c=a then b else c)];obtain⟨s,t,rfl⟩:=List.append_of_mem ha;have hb':b∈s\/b∈t:=by
  rcases List.mem_append.1 hb with h|h
  ·exact .inl h
  rcases List.mem_cons.1 h with h|h
  ·exact absurd h.symm hab
  exact .inr h
 rcases hb' with h|h
 ·obtain⟨x,y,rfl⟩:=List.append_of_mem h;simp only[List.map_append,List.map_cons,if_pos,if_neg (Ne.symm hab),List.append_assoc,List.cons_append];exact wU (BP R k) b _ _ _ (by simp at hl⊢;omega)
 obtain⟨x,y,rfl⟩:=List.append_of_mem h;simp only[List.map_append,List.map_cons,if_pos,if_neg (Ne.symm hab)];exact wU (BP R k) b _ _ _ (by simp at hl⊢;omega)
theorem sZ: ∀n,(jV n).length=n
 |0=>rfl
 |n+1=>by rw[jV,List.length_cons,sZ n]
theorem qi: ∀n,(jV n).Nodup
 |0=>List.nodup_nil
 |n+1=>List.nodup_cons.2 ⟨fun h=>by have:=jW h;omega,qi n⟩
theorem xc {n c:Nat} (h:c<n):c∈jV n:=by
 induction n with
 |zero=>omega
 |succ n ih=>
  by_cases e:c=n
  ·rw[e];exact List.mem_cons_self
  exact List.mem_cons_of_mem _ (ih (by omega))
section
variable {R:FF} {n a b:Nat} (ha:a<n)
include ha
theorem qj (u t:Int) (S T:Nat->Int):dk (di R a (fun i=>u*S i+t*T i)) n=u*dk (di R a S) n+t*dk (di R a T) n:=Id n _ (qi n) (sZ n) (xc ha)
theorem s7 (hb:b<n) (hab:a≠b):dk (di R a (fun i=>R i b)) n=0:=If (qi n) (sZ n) (xc ha) (xc hb) hab
theorem C7 {S:Nat->Int} (h: ∀i,i<n->S i=0):dk (di R a S) n=0:=by
 have h1:=qj (R:=R) (n:=n) ha 0 0 S S;have h2:dk (di R a S) n=dk (di R a (fun i=>0*S i+0*S i)) n:=eg fun i j hi _=>by
  unfold di;split
  ·show S i=0*S i+0*S i;rw[h i hi];rfl
  rfl
 rw[h2,h1];omega
theorem nj (hb:b<n) (hab:a≠b) (t:Int):dk (di R a (fun i=>R i a+t*R i b)) n=dk R n:=by
 have h1:=qj (R:=R) (n:=n) ha 1 t (fun i=>R i a) (fun i=>R i b);rw[ni,s7 ha hb hab]at h1;simp only[Int.one_mul,Int.mul_zero,Int.add_zero]at h1;exact h1
theorem vE:dk (di R a (fun i=> - R i a)) n= - dk R n:=by
 have h1:=qj (R:=R) (n:=n) ha (-1) 0 (fun i=>R i a) (fun i=>R i a);rw[ni]at h1;have e:(fun i=> -1*R i a+0*R i a)=fun i=> - R i a:=by funext i;omega
 rw[e]at h1;rw[h1];omega
end
theorem oh {R:FF} {n a b:Nat} (ha:a<n) (hb:b<n) (hab:a≠b):dk (fun i c=>if c=a then R i b else if c=b then R i a else R i c) n= - dk R n:=by
 have h1:=nj (R:=R) ha hb hab 1;generalize hR1:di R a (fun i=>R i a+1*R i b)=R1 at h1;have h2:=nj (R:=R1) hb ha (Ne.symm hab) (-1);generalize hR2:di R1 b (fun i=>R1 i b+ -1*R1 i a)=R2 at h2;have h3:=nj (R:=R2) ha hb hab 1;generalize hR3:di R2 a (fun i=>R2 i a+1*R2 i b)=R3 at h3;have h4:=vE (R:=R3) hb;rw[h3,h2,h1]at h4;rw[<- h4]
 congr 1
 funext i c;subst hR3 hR2 hR1;unfold di;by_cases e1:c=a
 ·subst e1;simp[hab];omega
 by_cases e2:c=b
 ·subst e2;simp[Ne.symm hab];omega
 simp[e1,e2]
/-! Rows exchanged. -/
theorem NL (n:Nat):dk (fun i j=>if i=j then 1 else 0) n=1:=by
 induction n with
 |zero=>rfl
 |succ n ih=>
  rw[b8,bk,dn,np (jV n) _ (fun c hc=>by have:=jW hc;simp;omega)];unfold dk at ih;rw[ih];simp
end
abbrev jk:TV:= .one .junk
def j4 (l:List TV):List TV:=jk::jk::jk::jk::l
def j16 (l:List TV):List TV:=j4 (j4 (j4 (j4 l)))
def rN (n:Nat):TV:= .raw (.int .i64 (n:Int))
theorem QD:Hm []=fun _=>[]:=rfl
theorem QE (k:Nat) (F:List OObj) (l:List (Nat×List OObj)):Hm ((k,F)::l)=fun a=>if a=k then F else Hm l a:=rfl
def wk:=And.intro @OX.eq_1<|And.intro @OX.eq_2<|And.intro @OX.eq_3<|And.intro @Lg.eq_def<|And.intro @zB.eq_def<|And.intro @j4.eq_1<|And.intro @j16.eq_1<|And.intro @rN.eq_1<|True.intro
def kd:=And.intro @AS.ev.eq_def<|And.intro @AS.put.eq_def<|And.intro @Bool.and_false<|And.intro @Bool.and_self<|And.intro @Bool.and_true<|And.intro @Bool.false_and<|And.intro @Bool.false_eq_true<|And.intro @Bool.not_false<|And.intro @Bool.not_true<|And.intro @Bool.or_false<|And.intro @Bool.or_true<|And.intro @Bool.true_and<|And.intro @aW.a.eq_1<|And.intro @CallRes.plain.eq_1<|And.intro @QD<|And.intro @QE<|And.intro @Int.natCast_nonneg<|And.intro @Int.toNat_natCast<|And.intro @List.all_cons.{0}<|And.intro @List.all_nil.{0}<|And.intro @List.append_nil.{0}<|And.intro @List.cons_append.{0}<|And.intro @List.contains_nil.{0}<|And.intro @List.drop_succ_cons.{0}<|And.intro @List.drop_zero.{0}<|And.intro @List.find?_cons.{0}<|And.intro @List.find?_nil.{0}<|And.intro @List.getElem?_cons_succ.{0}<|And.intro @List.getElem?_cons_zero.{0}<|And.intro @List.getElem?_toArray.{0}<|And.intro @List.isEmpty_cons.{0}<|And.intro @List.isEmpty_nil.{0}<|And.intro @List.isEmpty_toArray.{0}<|And.intro @List.length_cons.{0}<|And.intro @List.length_map.{0,0}<|And.intro @List.length_nil.{0}<|And.intro @List.map_cons.{0,0}<|And.intro @List.map_nil.{0,0}<|And.intro @List.nil_append.{0}<|And.intro @List.set_cons_succ.{0}<|And.intro @List.set_cons_zero.{0}<|And.intro @List.take_succ_cons.{0}<|And.intro @List.take_zero.{0}<|And.intro @Nat.add_zero<|And.intro @af<|And.intro @Nat.zero_add<|And.intro @Option.bind_some.{0,0}<|And.intro @Option.map_none.{0,0}<|And.intro @Option.map_some.{0,0}<|And.intro @Tryz.underlying2<|And.intro @Tryz.underlying5<|And.intro @Tryz.underlying55<|And.intro @Tryz.underlying56<|And.intro @Value.oneCell'.eq_def<|And.intro @Ko<|And.intro @Nm<|And.intro @and_false<|And.intro @and_self<|And.intro @and_true<|And.intro @Pf.eq_def<|And.intro @beq_self_eq_true.{0}<|And.intro @dW.eq_def<|And.intro @Er.eq_def<|And.intro @cellsOf.eq_def<|And.intro @Qk<|And.intro @Ql<|And.intro @decide_false<|And.intro @decide_true<|And.intro @da.eq_def<|And.intro @fJ.eq_def<|And.intro @jh.eq_def<|And.intro @ca.eq_def<|And.intro @vH.eq_def<|And.intro @fK.eq_1<|And.intro @fK.eq_2<|And.intro @vI.eq_def<|And.intro @EG.eq_def<|And.intro @fI.eq_1<|And.intro @fN.eq_1<|And.intro @fU.eq_1<|And.intro @false_and<|And.intro @ip.eq_1<|And.intro @ip.eq_2<|And.intro @fj.eq_def<|And.intro @gO.eq_def<|And.intro @QR<|And.intro @QS<|And.intro @if_false.{1}<|And.intro @if_true.{1}<|And.intro @Bw.eq_def<|And.intro @isPure.eq_def<|And.intro @bA.eq_def<|And.intro @gF.eq_1<|And.intro @bv.eq_def<|And.intro @K1<|And.intro @gG<|And.intro @BA<|And.intro @xr<|And.intro @BB<|And.intro @rK<|And.intro @xt<|And.intro @fP<|And.intro @oB.eq_1<|And.intro @oB.eq_2<|And.intro @gH<|And.intro @ff<|And.intro @N2<|And.intro @N3<|And.intro @K3<|And.intro @J3.eq_def<|And.intro @E9<|And.intro @uZ.eq_def<|And.intro @f5.eq_def<|And.intro @v8.eq_def<|And.intro @tJ.eq_def<|And.intro @fh.eq_def<|And.intro @noRefTV.eq_def<|And.intro @gn.eq_def<|And.intro @eo.eq_def<|And.intro @nE.eq_def<|And.intro @Fh<|And.intro @BQ<|And.intro @BS<|And.intro @Lh<|And.intro @Li<|And.intro @Fi<|And.intro @tQ<|And.intro @Ig<|And.intro @Fj<|And.intro @Ih<|And.intro @zC<|And.intro @Fk<|And.intro @u5<|And.intro @u6<|And.intro @Lj<|And.intro @Ii<|And.intro @xF<|And.intro @u7<|And.intro @Lk<|And.intro @Ij<|And.intro @Ik<|And.intro @Fl<|And.intro @Fm<|And.intro @Oc<|And.intro @packT.eq_def<|And.intro @zI.eq_1<|And.intro @bO.eq_1<|And.intro @bO.eq_2<|And.intro @cW.eq_1<|And.intro @pD.eq_def<|And.intro @mJ.eq_def<|And.intro @dS.eq_def<|And.intro @renO.eq_1<|And.intro @fA.eq_def<|And.intro @rt.eq_def<|And.intro @um.eq_1<|And.intro @um.eq_2<|And.intro @qA.eq_def<|And.intro @ws<|And.intro @IM<|And.intro @FE<|And.intro @true_and<|And.intro @yb.eq_def<|And.intro @Jx<|And.intro @FM<|And.intro @L8<|And.intro @Jy<|And.intro @Jz<|And.intro @JA<|And.intro @L9<|And.intro @pW<|And.intro @pX<|And.intro @JB<|And.intro @JC<|And.intro @rZ<|And.intro @Ma<|And.intro @JD<|And.intro @JE<|And.intro @JF<|And.intro @FN<|And.intro @JG<|And.intro @pY<|And.intro @OF<|And.intro @OG<|And.intro @Mb<|And.intro @Mc<|And.intro @Md<|And.intro @Me<|And.intro @Mf<|And.intro @Am<|And.intro @An<|And.intro @Cq<|And.intro @Cr<|And.intro @Cs<|And.intro @lO<|And.intro @lP<|And.intro @Mg<|And.intro @Mh<|And.intro @Mi<|And.intro @JH<|And.intro @JI<|And.intro @FO<|And.intro @JJ<|And.intro @FP<|And.intro @pZ<|And.intro @JK<|And.intro @JL<|And.intro @Ao<|And.intro @Ap<|And.intro @Ct<|And.intro @lQ<|And.intro @Cu<|And.intro @Cv<|And.intro @Cw<|And.intro @JM<|And.intro @OI<|And.intro @Mj<|And.intro @Mk<|And.intro @Ml<|And.intro @OJ<|And.intro @r6<|And.intro @r7<|And.intro @Mm<|And.intro @Mn<|And.intro @yc<|And.intro @OK<|And.intro @Mo<|And.intro @Mp<|And.intro @Mq<|And.intro @Cx<|And.intro @JN<|And.intro @JO<|And.intro @nO<|And.intro @FQ<|And.intro @FR<|And.intro @FS<|And.intro @FT<|And.intro @FU<|And.intro @FV<|And.intro @yd.eq_def<|And.intro @bs.eq_1<|And.intro @PT.eq_def<|And.intro @j4.eq_1<|And.intro @j16.eq_1<|And.intro @rN.eq_1<|True.intro
abbrev bC (l:List Nat):TV:= .one (.p (.sl (ls fU l)))
theorem iN (l:List Nat) (hb:l.length<=1073741824):CallC Tryz.prog 31 [bC l] ⟨[],bC (dI l)⟩:=by
 refine aJ Tryz.func31 rfl (by kernel_rfl) ?_;rw[Tryz.ntmps31];refine aF fun _ K=>?_;simp only[kd,ag];apply K
 refine aF fun _ K=>?_;simp only[kd,aa];apply K
 refine Kl (G:={n:Nat//n<=l.length/\dI l=dI (l.take n)}) (fun n=>⟨(bC l::jk::.raw (.slice none 0 0)::.raw (.int .i64 n.1)::j16 (jk::jk::[])),Hm []⟩) (fun n=>n.1) ⟨l.length,af _,by simp⟩ ?_ ?_
 ·refine aG trivial ?_;simp[wk]
 rintro⟨n,hn,hT⟩;simp only;by_cases h0:0<n
 ·obtain⟨a,ha⟩:=getElem?_of_lt (l:=l) (k:=n-1) (by omega);have e1:((n:Int)-1).toNat=n-1:=by omega
  refine aH (aF fun _ K=>?_);simp(disch:=omega) only[kd,aa,aT,e1,ha];apply K;have htk:l.take n=l.take (n-1)++[a]:=by
   have:=List.take_succ_eq_append_getElem (i:=n-1) (l:=l) (by omega);rw[show n-1+1=n by omega]at this;rw[this,(List.getElem?_eq_some_iff.1 ha).2]
  refine bU rfl (fun hz=>aO ?_) (fun hz=>bK ?_)
  ·have hz':a=0:=by simpa using hz
   refine aM ?_;refine aN fun _ K=>?_;simp(disch:=omega) only[kd,aa,aT];apply K
   refine⟨⟨n-1,by omega,?_⟩,by simp only;omega,aG trivial ?_⟩
   ·rw[hT,htk,hz',mW]
   have e:((n-1:Nat):Int)=(n:Int)-1:=by omega
   simp[wk,e]
  have hz':a≠0:=by intro e;simp[e]at hz
  have hfin:dI l=l.take n:=by rw[hT,htk,wE hz']
  show bu _ _ _ _;have hlen:(l.take n).length=n:=by simp;omega
  refine aF fun _ K=>?_;simp(disch:=omega) only[kd,aa,Nat.zero_le,BE xj,hlen,N1 xj];apply K
  refine aK ⟨.inr rfl,lI 21 (cJ rfl) ?_ rfl⟩;simp(disch:=omega) only[kd,Tryz.results31,hfin];simp[List.take_take]
 have hn0:n=0:=by omega
 subst hn0;have hfin:dI l=[]:=by rw[hT];simp[dI]
 refine aH (aF fun _ K=>?_);simp(disch:=omega) only[kd,aa];apply K;refine bU rfl (fun hz=>by cases hz) (fun hz=>bK ?_);show bu _ _ _ _;refine aF fun _ K=>?_;simp(disch:=omega) only[kd,aa,Nat.zero_le,BE xj,Nat.reduceMul];apply K
 refine aK ⟨.inr rfl,lI 21 (cJ (f:=fU) (l:=[]) rfl) ?_ rfl⟩;simp(disch:=omega) only[kd,Tryz.results31,hfin];simp[ls]
theorem ns {n:Nat} (h: ¬n=0):n/4294967296<n:=Nat.div_lt_self (by omega) (by omega)
def aR (n:Nat):List Nat:=if n=0 then[]else n%4294967296::aR (n/4294967296)
termination_by n
decreasing_by exact ns (by assumption)
theorem cw:aR 0=[]:=by rw[aR];simp
theorem nt {n:Nat} (h:n≠0):aR n=n%4294967296::aR (n/4294967296):=by rw[aR];simp[h]
theorem aP (n:Nat):natV (aR n)=n:=by
 induction n using Nat.strongRecOn with
 |_ n ih=>
  by_cases h:n=0
  ·subst h;rw[cw];rfl
  rw[nt h,natV,ih _ (ns h)];omega
theorem aV (n:Nat):Lmb (aR n):=by
 induction n using Nat.strongRecOn with
 |_ n ih=>
  by_cases h:n=0
  ·subst h;rw[cw];intro a ha;simp at ha
  rw[nt h];intro a ha;rcases List.mem_cons.1 ha with rfl|ha
  ·omega
  exact ih _ (ns h) a ha
theorem cd (n:Nat):nX (aR n):=by
 induction n using Nat.strongRecOn with
 |_ n ih=>
  by_cases h:n=0
  ·subst h;rw[cw];simp[nX]
  rw[nt h];by_cases h2:n/4294967296=0
  ·rw[h2,cw];simp[nX];omega
  have:=ih _ (ns h);rw[nt h2]at this⊢;unfold nX at*
  rw[List.getLast?_cons_cons];exact this
theorem Hc {l:List Nat} (h1:Lmb l) (h2:nX l):l=aR (natV l):=
 Kw h1 (aV _) h2 (cd _) (aP _).symm
theorem d7 {l:List Nat} (h1:Lmb l):dI l=aR (natV l):=by
 rw[Hc (Jv h1) (Jt l),Fc]
theorem gJ (n:Nat):dI (aR n)=aR n:=rm (cd n)
theorem xv {n:Nat}:aR n=[]↔n=0:=⟨fun h=>by rw[<- aP n,h];rfl,fun h=>by rw[h,cw]⟩
theorem iX {n k:Nat} (h:n<4294967296^k):(aR n).length<=k:=AU (cd n) (by rw[aP];exact h)
theorem fk {n:Nat}:(aR n).length=0↔n=0:=by rw[List.length_eq_zero_iff,xv]
def Sz (z:Int) (k:Nat):Prop:=z.natAbs<4294967296^k
theorem Sz.len {z:Int} {k:Nat} (h:Sz z k):(aR z.natAbs).length<=k:=iX h
theorem Sz.mono {z:Int} {k l:Nat} (h:Sz z k) (hl:k<=l):Sz z l:=Nat.lt_of_lt_of_le h (Nat.pow_le_pow_right (by omega) hl)
def fZ (z:Int):List PV:=[.raw (.bool (decide (z<0))),.sl (ls fU (aR z.natAbs))]
def cZ (z:Int):List AV:=[.p (.raw (.bool (decide (z<0)))),.p (.sl (ls fU (aR z.natAbs)))]
abbrev tZ (z:Int):TV:= .agg [.p (.raw (.bool (decide (z<0)))),.p (.sl (ls fU (aR z.natAbs)))]
theorem mP (neg:Bool) (n:Nat):(fD neg n).natAbs=n:=by unfold fD;split<;>simp
theorem xY (neg:Bool) (n:Nat):decide (fD neg n<0)=(neg&&decide (0<n)):=by
 unfold fD;cases neg with
 |true=>simp
 |false=>simp
theorem jl (neg:Bool) (l:List Nat) (h:Lmb l) (hb:l.length<=1073741824):CallC Tryz.prog 23 [.raw (.bool neg),bC l] ⟨[],tZ (fD neg (natV l))⟩:=by
 have ht:=iN l hb;rw[d7 h]at ht;have hlen:(aR (natV l)).length<=1073741824:=by rw[<- d7 h];exact Nat.le_trans (Ju l) hb
 refine aJ Tryz.func23 rfl (by kernel_rfl) ?_;rw[Tryz.ntmps23];refine aF fun _ K=>?_;simp(disch:=omega) only[kd,bC,aa,ag];apply K
 refine aI [⟨1,_,_,_,ht⟩] [] fun _ K=>?_;simp only[kd,bC,aa];apply K
 cases neg with
 |false=>
  refine aF fun _ K=>?_;simp(disch:=omega) only[kd,aa,Nat.reduceLeDiff];apply K
  refine aK ⟨.inr rfl,aL rfl ?_ rfl⟩;simp(disch:=omega) only[kd,Tryz.results23,aa,tZ];simp[tZ,mP,xY]
 |true=>
  refine aF fun _ K=>?_;simp(disch:=omega) only[kd,aa,Nat.reduceLeDiff];apply K
  refine aK ⟨.inr rfl,aL rfl ?_ rfl⟩;simp(disch:=omega) only[kd,Tryz.results23,aa,tZ];have:(0<(aR (natV l)).length)↔0<natV l:=by
   have:=fk (n:=natV l);omega
  simp[tZ,mP,xY,this]
abbrev Bg (z:Int):Prop:=Sz z 1073741824
theorem Bg.len {z:Int} (h:Bg z):(aR z.natAbs).length<=1073741824:=iX h
theorem HW (z:Int):fD (!decide (z<0)) z.natAbs= -z:=by unfold fD;by_cases h:z<0<;>simp[h]<;>omega
theorem xB (z:Int):fD (decide (z<0)) z.natAbs=z:=by unfold fD;by_cases h:z<0<;>simp[h]<;>omega
theorem H8 (z:Int) (h:Bg z):CallC Tryz.prog 28 [tZ z] ⟨[],tZ (-z)⟩:=by
 have ht:=jl (!decide (z<0)) (aR z.natAbs) (aV _) h.len;rw[aP,HW]at ht;refine aJ Tryz.func28 rfl (by kernel_rfl) ?_;rw[Tryz.ntmps28];refine aF fun _ K=>?_;simp(disch:=omega) only[kd,tZ,ag,aa,ae];apply K
 refine aI [⟨5,_,_,_,ht⟩] [] fun _ K=>?_;simp(disch:=omega) only[kd,bC,tZ,aa,ae];apply K
 (refine aK ⟨.inr rfl,aL rfl ?_ rfl⟩;simp(disch:=omega) only[kd,Tryz.results28,ae,aa,tZ])
theorem Gu (z:Int) (h:Bg z):CallC Tryz.prog 111 [tZ z] ⟨[],tZ z.natAbs⟩:=by
 have ht:=jl false (aR z.natAbs) (aV _) h.len;rw[aP,show fD false z.natAbs=z.natAbs from rfl]at ht;refine aJ Tryz.func111 rfl (by kernel_rfl) ?_;rw[Tryz.ntmps111];refine aF fun _ K=>?_;simp(disch:=omega) only[kd,tZ,ag,aa,ae];apply K
 refine aI [⟨2,_,_,_,ht⟩] [] fun _ K=>?_;simp(disch:=omega) only[kd,bC,tZ,aa,ae];apply K
 (refine aK ⟨.inr rfl,aL rfl ?_ rfl⟩;simp(disch:=omega) only[kd,Tryz.results111,ae,aa,tZ])
theorem H9 (z:Int) (h:Bg z):CallC Tryz.prog 61 [tZ z] ⟨[],tZ z⟩:=by
 have ht:=jl (decide (z<0)) (aR z.natAbs) (aV _) h.len;rw[aP,xB]at ht;refine aJ Tryz.func61 rfl (by kernel_rfl) ?_;rw[Tryz.ntmps61];refine aF fun _ K=>?_;simp(disch:=omega) only[kd,tZ,ag,aa,ae];apply K
 refine aI [⟨4,_,_,_,ht⟩] [] fun _ K=>?_;simp(disch:=omega) only[kd,bC,tZ,aa,ae];apply K
 (refine aK ⟨.inr rfl,aL rfl ?_ rfl⟩;simp(disch:=omega) only[kd,Tryz.results61,ae,aa,tZ])
theorem yf (neg:Bool) (u:Nat) (hu:u<18446744073709551616):CallC Tryz.prog 22 [.raw (.bool neg),.raw (.int .u64 u)] ⟨[],tZ (fD neg u)⟩:=by
 have ht:=jl neg [u%4294967296,u/4294967296] (by intro a ha;simp at ha;omega) (by simp);rw[wF]at ht;have e1:IntKind.u32.wrap (u:Int)=((u%4294967296:Nat):Int):=by rw[IntKind.wrap_u32];omega
 have e2:IntKind.u32.wrap ((u:Int).fdiv (2^(min (32:Int).toNat IntKind.u64.bits)))=((u/4294967296:Nat):Int):=by
  rw[IntKind.wrap_u32];show(Int.fdiv (u:Int) 4294967296)%4294967296=_;rw[Int.fdiv_eq_ediv_of_nonneg _ (by omega)];omega
 simp only[Int.reduceToNat]at e2;refine aJ Tryz.func22 rfl (by kernel_rfl) ?_;rw[Tryz.ntmps22];refine aF fun _ K=>?_;simp(disch:=omega) only[kd,aa,ag];apply K
 refine aI [⟨7,_,_,_,ht⟩] [] fun _ K=>?_;simp(disch:=omega) only[kd,bC,Dr,tZ,aa,e1,Int.reduceLE,Int.reduceToNat,e2,Nat.reduceMul,Nat.reduceLeDiff];apply K
 (refine aK ⟨.inr rfl,aL rfl ?_ rfl⟩;simp(disch:=omega) only[kd,Tryz.results22,aa,tZ])
theorem ee (n:Int) (h1: -9223372036854775808<=n) (h2:n<=9223372036854775807):CallC Tryz.prog 7 [.raw (.int .i64 n)] ⟨[],tZ n⟩:=by
 by_cases hn:n<0
 ·have ht:=yf true n.natAbs (by omega);have e1:IntKind.u64.wrap (0-IntKind.u64.wrap n)=((n.natAbs:Nat):Int):=by rw[IntKind.wrap_u64,IntKind.wrap_u64];omega
  rw[show fD true n.natAbs=n by unfold fD;simp;omega]at ht;refine aJ Tryz.func7 rfl (by kernel_rfl) ?_;rw[Tryz.ntmps7];refine aF fun _ K=>?_;simp(disch:=omega) only[kd,ag,aa];apply K
  refine aH (aF fun _ K=>?_);simp(disch:=omega) only[kd];apply K;refine bf rfl ?_;refine aI [⟨3,_,_,_,ht⟩] [] fun _ K=>?_;simp(disch:=omega) only[kd,tZ,aa,e1];apply K
  (refine aK ⟨.inr rfl,aL rfl ?_ rfl⟩;simp(disch:=omega) only[kd,Tryz.results7,aa,tZ])
 have ht:=yf false n.natAbs (by omega);have e1:IntKind.u64.wrap n=((n.natAbs:Nat):Int):=by rw[IntKind.wrap_u64];omega
 rw[show fD false n.natAbs=n by unfold fD;simp;omega]at ht;refine aJ Tryz.func7 rfl (by kernel_rfl) ?_;rw[Tryz.ntmps7];refine aF fun _ K=>?_;simp(disch:=omega) only[kd,ag,aa];apply K
 refine aH (aF fun _ K=>?_);simp(disch:=omega) only[kd];apply K;refine aU rfl (aO ?_);show bu _ _ _ _;refine aI [⟨2,_,_,_,ht⟩] [] fun _ K=>?_;simp(disch:=omega) only[kd,tZ,aa,e1];apply K
 (refine aK ⟨.inr rfl,aL rfl ?_ rfl⟩;simp(disch:=omega) only[kd,Tryz.results7,aa,tZ])
theorem mQ (z:Int) (h:Bg z):CallC Tryz.prog 25 [tZ z] ⟨[],.raw (.int .i64 (sg z))⟩:=by
 have ht:=iN (aR z.natAbs) h.len;rw[gJ]at ht;have hl:=fk (n:=z.natAbs);rcases Int.lt_trichotomy z 0 with hz|hz|hz
 ·have e:sg z= -1:=by simp[sg,hz]
  have hl':(aR z.natAbs).length≠0:=by omega
  rw[e];refine aJ Tryz.func25 rfl (by kernel_rfl) ?_;rw[Tryz.ntmps25];refine aF fun _ K=>?_;simp(disch:=omega) only[kd,tZ,ag,aa];apply K
  refine aH (aM ?_);refine aI [⟨2,_,_,_,ht⟩] [] fun _ K=>?_;simp(disch:=omega) only[kd,bC,aa];apply K
  refine aU rfl ?_;refine aF fun _ K=>?_;simp only[kd,aa];apply K
  refine bf rfl ?_;refine aF fun _ K=>?_;simp only[kd];apply K
  (refine aK ⟨.inr rfl,aL rfl ?_ rfl⟩;simp(disch:=omega) only[kd,Tryz.results25])
 ·subst hz;rw[show sg 0=0 from rfl];rw[Int.natAbs_zero,cw]at ht;rw[show tZ 0= .agg [.p (.raw (.bool false)),.p (.sl (ls fU []))]from by simp[tZ,cw]];refine aJ Tryz.func25 rfl (by kernel_rfl) ?_;rw[Tryz.ntmps25];refine aF fun _ K=>?_;simp(disch:=omega) only[kd,ag,aa];apply K
  refine aH (aM ?_);refine aI [⟨2,_,_,_,ht⟩] [] fun _ K=>?_;simp(disch:=omega) only[kd,bC,aa];apply K
  refine bf rfl ?_;refine aF fun _ K=>?_;simp only[kd];apply K
  (refine aK ⟨.inr rfl,aL rfl ?_ rfl⟩;simp(disch:=omega) only[kd,Tryz.results25])
 have e:sg z=1:=by unfold sg;rw[if_neg (by omega),if_neg (by omega)]
 have hl':(aR z.natAbs).length≠0:=by omega
 rw[e];refine aJ Tryz.func25 rfl (by kernel_rfl) ?_;rw[Tryz.ntmps25];refine aF fun _ K=>?_;simp(disch:=omega) only[kd,tZ,ag,aa];apply K
 refine aH (aM ?_);refine aI [⟨2,_,_,_,ht⟩] [] fun _ K=>?_;simp(disch:=omega) only[kd,bC,aa];apply K
 refine aU rfl ?_;refine aF fun _ K=>?_;simp only[kd,aa];apply K
 refine aU rfl (aO ?_);show bu _ _ _ _;refine aF fun _ K=>?_;simp only[kd];apply K
 (refine aK ⟨.inr rfl,aL rfl ?_ rfl⟩;simp(disch:=omega) only[kd,Tryz.results25])
theorem CY (l m:List Nat) (ll:Lmb l) (lm:Lmb m) (cl:nX l) (cm:nX m) (bl:l.length<=1073741824) (bm:m.length<=1073741824):
  CallC Tryz.prog 30 [bC l,bC m] ⟨[],.raw (.int .i64 (fB (natV l) (natV m)))⟩:=by
 rcases Nat.lt_trichotomy l.length m.length with hlt|heq|hgt
 ·rw[ng (iz ll cm hlt)];refine aJ Tryz.func30 rfl (by kernel_rfl) ?_;rw[Tryz.ntmps30];refine aF fun _ K=>?_;simp only[kd,bC,aa,ag];apply K
  refine aH (aF fun _ K=>?_);simp(disch:=omega) only[kd,aa];apply K;refine bf rfl ?_;refine aH (aF fun _ K=>?_);simp(disch:=omega) only[kd,aa];apply K;refine bf rfl ?_;refine aF fun _ K=>?_;simp only[kd];apply K
  (refine aK ⟨.inr rfl,aL rfl ?_ rfl⟩;simp(disch:=omega) only[kd,Tryz.results30])
 ·refine aJ Tryz.func30 rfl (by kernel_rfl) ?_;rw[Tryz.ntmps30];refine aF fun _ K=>?_;simp only[kd,bC,aa,ag];apply K
  refine aH (aF fun _ K=>?_);simp(disch:=omega) only[kd,aa];apply K;refine aU rfl (aO ?_);show bu _ _ _ _;refine aH (aF fun _ K=>?_);simp(disch:=omega) only[kd,aa,aT];apply K;refine aZ (G:={k:Nat//k<=l.length/\l.drop k=m.drop k}) (fun k=>⟨(bC l::bC m::jk::jk::.raw (.int .i64 0)::.raw (.int .i64 ((k.1:Int)-1))::j16 (j16 (jk::jk::jk::[]))),Hm []⟩) (fun k=>k.1) ⟨l.length,af _,by rw[List.drop_length,heq,List.drop_length]⟩ ?_ ?_
  ·refine aG trivial ?_;simp[wk]
  rintro⟨k,hk,hd⟩;simp only;by_cases h0:0<k
  ·obtain⟨a,ha⟩:=getElem?_of_lt (l:=l) (k:=k-1) (by omega);obtain⟨b,hb⟩:=getElem?_of_lt (l:=m) (k:=k-1) (by omega);have e1:((k:Int)-1).toNat=k-1:=by omega
   have hd':l.drop (k-1+1)=m.drop (k-1+1):=by rw[show k-1+1=k by omega];exact hd
   refine aH (aF fun _ K=>?_);simp(disch:=omega) only[kd,bC];apply K;refine bf rfl (aO ?_);refine aH (aM ?_);refine dF bj (by kernel_rfl) fun _ K=>?_;simp(disch:=omega) only[kd,aa,e1,ha,hb];apply K
   rcases Nat.lt_trichotomy a b with hab|hab|hab
   ·rw[ng (lF ll ha hb hd' hab)];refine bU rfl (fun _=>?_) (fun h=>by simp at h<;>omega);refine aH (dF bj (by kernel_rfl) fun _ K=>?_);simp(disch:=omega) only[kd,aa,e1,ha,hb];apply K;refine bf rfl ?_;refine aF fun _ K=>?_;simp only[kd];apply K
    (refine aK ⟨.inr rfl,aL rfl ?_ rfl⟩;simp(disch:=omega) only[kd,Tryz.results30])
   ·subst hab;refine bU rfl (fun h=>by simp at h<;>omega) (fun _=>aO ?_);show bu _ _ _ _;refine aN fun _ K=>?_;simp(disch:=omega) only[kd,aa,aT];apply K
    refine⟨⟨k-1,by omega,vF ha hb hd'⟩,by simp only;omega,aG trivial ?_⟩;have e2:((k-1:Nat):Int)=(k:Int)-1:=by omega
    simp[wk,e2]
   rw[rF (lF lm hb ha hd'.symm hab)];refine bU rfl (fun _=>?_) (fun h=>by simp at h<;>omega);refine aH (dF bj (by kernel_rfl) fun _ K=>?_);simp(disch:=omega) only[kd,aa,e1,ha,hb];apply K;refine aU rfl (aO ?_);show bu _ _ _ _;refine aF fun _ K=>?_;simp only[kd];apply K
   (refine aK ⟨.inr rfl,aL rfl ?_ rfl⟩;simp(disch:=omega) only[kd,Tryz.results30])
  have hk0:k=0:=by omega
  subst hk0;have hlm:l=m:=by simpa using hd
  rw[show fB (natV l) (natV m)=0 by rw[hlm];simp[fB]];refine aH (aF fun _ K=>?_);simp(disch:=omega) only[kd,bC];apply K;refine aU rfl (bK ?_);show bu _ _ _ _;refine aF fun _ K=>?_;simp only[kd];apply K
  (refine aK ⟨.inr rfl,aL rfl ?_ rfl⟩;simp(disch:=omega) only[kd,Tryz.results30])
 rw[rF (iz lm cl hgt)];refine aJ Tryz.func30 rfl (by kernel_rfl) ?_;rw[Tryz.ntmps30];refine aF fun _ K=>?_;simp only[kd,bC,aa,ag];apply K
 refine aH (aF fun _ K=>?_);simp(disch:=omega) only[kd,aa];apply K;refine bf rfl ?_;refine aH (aF fun _ K=>?_);simp(disch:=omega) only[kd,aa];apply K;refine aU rfl (aO ?_);show bu _ _ _ _;refine aF fun _ K=>?_;simp only[kd];apply K
 (refine aK ⟨.inr rfl,aL rfl ?_ rfl⟩;simp(disch:=omega) only[kd,Tryz.results30])
def km (a b:Int):Int:=if a<b then -1 else if a=b then 0 else 1
theorem pN (z:Int): -1<=sg z/\sg z<=1:=by unfold sg;split<;>(try split)<;>omega
theorem sY (a b:Nat): -1<=fB a b/\fB a b<=1:=by unfold fB;split<;>(try split)<;>omega
theorem CX {a b:Int} (h:sg a≠sg b):km a b=if sg a<sg b then -1 else 1:=by
 unfold sg km at*
 (repeat' split at*)<;>omega
theorem CW {a b:Int} (h:sg a=sg b):km a b=sg a*fB a.natAbs b.natAbs:=by
 unfold sg km fB at*
 (repeat' split at*)<;>omega
theorem r9 (a b:Int) (ha:Bg a) (hb:Bg b):CallC Tryz.prog 11 [tZ a,tZ b] ⟨[],.raw (.int .i64 (km a b))⟩:=by
 have h1:=mQ a ha;have h2:=mQ b hb;have t1:=iN (aR a.natAbs) ha.len;have t2:=iN (aR b.natAbs) hb.len;rw[gJ]at t1 t2;have h3:=CY (aR a.natAbs) (aR b.natAbs) (aV _) (aV _) (cd _) (cd _) ha.len hb.len;rw[aP,aP]at h3;have r1:=pN a;have r2:=pN b;have r3:=sY a.natAbs b.natAbs;have r4: -1<=sg a*fB a.natAbs b.natAbs/\sg a*fB a.natAbs b.natAbs<=1:=by
  have:sg a= -1\/sg a=0\/sg a=1:=by omega
  rcases this with h|h|h<;>rw[h]<;>omega
 by_cases hs:sg a=sg b
 ·rw[CW hs];refine aJ Tryz.func11 rfl (by kernel_rfl) ?_;rw[Tryz.ntmps11];refine aF fun _ K=>?_;simp(disch:=omega) only[kd,aa,tZ,ag,ae];apply K
  refine bz bj [⟨1,_,_,_,h1⟩,⟨3,_,_,_,h2⟩] [] (by kernel_rfl) fun _ K=>?_;simp only[kd,tZ,aa,ae,Nat.reduceBEq];apply K
  refine aH (aF fun _ K=>?_);simp(disch:=omega) only[kd,aa];apply K;refine aU rfl (aO ?_);show bu _ _ _ _;refine bz bj [⟨3,_,_,_,t1⟩,⟨6,_,_,_,t2⟩,⟨7,_,_,_,h3⟩] [] (by kernel_rfl) fun _ K=>?_;simp(disch:=omega) only[kd,bC,aa,ae,Nat.reduceBEq,aT];apply K
  (refine aK ⟨.inr rfl,aL rfl ?_ rfl⟩;simp(disch:=omega) only[kd,Tryz.results11])
 rw[CX hs];refine aJ Tryz.func11 rfl (by kernel_rfl) ?_;rw[Tryz.ntmps11];refine aF fun _ K=>?_;simp(disch:=omega) only[kd,aa,tZ,ag,ae];apply K
 refine bz bj [⟨1,_,_,_,h1⟩,⟨3,_,_,_,h2⟩] [] (by kernel_rfl) fun _ K=>?_;simp only[kd,tZ,aa,ae,Nat.reduceBEq];apply K
 refine aH (aF fun _ K=>?_);simp(disch:=omega) only[kd,aa];apply K;refine bf rfl ?_;refine aH (aF fun _ K=>?_);simp only[kd,aa];apply K;by_cases hlt:sg a<sg b
 ·rw[if_pos hlt];refine bU rfl (fun _=>?_) (fun h=>by simp at h<;>omega);refine aF fun _ K=>?_;simp(disch:=omega) only[kd];apply K
  (refine aK ⟨.inr rfl,aL rfl ?_ rfl⟩;simp(disch:=omega) only[kd,Tryz.results11])
 rw[if_neg hlt];refine bU rfl (fun h=>by simp at h<;>omega) (fun _=>aO ?_);show bu _ _ _ _;refine aF fun _ K=>?_;simp(disch:=omega) only[kd];apply K
 (refine aK ⟨.inr rfl,aL rfl ?_ rfl⟩;simp(disch:=omega) only[kd,Tryz.results11])
end Go.Proofs.YtiollbhgpiiodaaGreatDoor
