/-
  Part 12 of a proof (walks and plain facts).
-/
import Derived.Test.YtalmoejhjceflaaGreatP10
import Derived.Shelf.SlSortCmp.WholeK
import Derived.Ground.SlsfProg
import Derived.Test.YtalmoejhjceflaaGreatProg
import Derived.Deep.RegionHeld3
import Derived.Deep.RegionLaw
set_option linter.all false
set_option maxRecDepth 100000
set_option maxHeartbeats 64000000
open List renaming getElem?_append_left → aq
open List renaming getElem?_append_right → ar
open List renaming mem_of_getElem? → ax
open List renaming getElem?_map → az
namespace Go.Proofs.YtalmoejhjceflaaGreat
open Go.RowKit
theorem iH {s:AS} (a r i j:Nat) (ty:TypeId) (es:Nat) (hes:0<es) {o:OObj} {e:List AV} (ho:(s.H a)[r]?=some o) (he:o.elems[i]?=some e) (hj:e[j]?=some (.raw (.slice none 0 0))):
  bW s ⟨s.tmps,aJ s.H a ((s.H a).set r {o with elems:=o.elems.set i (e.set j (.sl a (s.H a).length 0 0))}++[⟨ty,es,[]⟩])⟩:=by
 rintro w0 O X act w ⟨h1,hsz,ρ,hinv,htm⟩;have htm:bq X ρ s act w:=htm;generalize hn:(s.H a).length=n;have hrl:r<n:=by rw[<- hn];exact(List.getElem?_eq_some_iff.1 ho).1
 generalize ho1:({o with elems:=o.elems.set i (e.set j (.sl a n 0 0))}:OObj)=o';have hes':o'.es=o.es:=by rw[<- ho1]
 have hlen':o'.elems.length=o.elems.length:=by rw[<- ho1];simp
 have hty':o'.ty=o.ty:=by rw[<- ho1]
 generalize hH1:aJ s.H a ((s.H a).set r o'++[⟨ty,es,[]⟩])=H1
 let ρ':Rho:=fun x y=>if x=a/\y=n then none else ρ x y
 have hHa:H1 a=(s.H a).set r o'++[⟨ty,es,[]⟩]:=by rw[<- hH1,aX]
 have hHn: ∀x,x≠a->H1 x=s.H x:=fun x h=>by rw[<- hH1,aN h]
 have hof: ∀(x y:Nat) q,(s.H x)[y]?=some q-> ∃q',(H1 x)[y]?=some q'/\q'.es=q.es/\q'.elems.length=q.elems.length/\ρ' x y=ρ x y:=fun x y q h=>by
  by_cases hx:x=a
  ·subst hx;have hy:y<n:=by rw[<- hn];exact(List.getElem?_eq_some_iff.1 h).1
   have e1:ρ' x y=ρ x y:=if_neg (by omega);rw[hHa,aq (by simp;omega),pg ho];by_cases hyr:y=r
   ·subst hyr;rw[ho]at h;injection h with h
    subst h;exact⟨o',if_pos rfl,hes',hlen',e1⟩
   exact⟨q,by rw[if_neg hyr];exact h,rfl,rfl,e1⟩
  exact⟨q,by rw[hHn x hx];exact h,rfl,rfl,if_neg fun h=>hx h.1⟩
 have hget: ∀(x y:Nat) q,(H1 x)[y]?=some q->(x=a/\y=r/\q=o'/\ρ' x y=ρ x y)\/(x=a/\y=n/\q=⟨ty,es,[]⟩/\ρ' x y=none)\/((s.H x)[y]?=some q/\ρ' x y=ρ x y):=fun x y q h=>by
  by_cases hx:x=a
  ·subst hx;rw[hHa]at h;by_cases hy:y<n
   ·rw[aq (by simp;omega),pg ho]at h;split at h
    ·rename_i hyr;injection h with h;exact .inl ⟨rfl,hyr,h.symm,if_neg (by omega)⟩
    exact .inr (.inr ⟨h,if_neg (by omega)⟩)
   rw[ar (by simp;omega)]at h;have hy0:y-((s.H x).set r o').length=0:=by
    have:=(List.getElem?_eq_some_iff.1 h).1;simp at this⊢;omega
   rw[hy0]at h;injection h with h
   simp at hy0;exact .inr (.inl ⟨rfl,by omega,h.symm,if_pos ⟨rfl,by omega⟩⟩)
  rw[hHn x hx]at h;exact .inr (.inr ⟨h,if_neg fun h=>hx h.1⟩)
 have hXo: ∀c,Xo X ρ' H1 c->Xo X ρ s.H c:=fun c hc=>by
  rcases hc with hc|⟨x,y,q,m,g1,g2⟩
  ·exact .inl hc
  rcases hget x y q g1 with⟨rfl,rfl,rfl,g3⟩|⟨_,_,_,g3⟩|⟨g4,g3⟩
  ·exact .inr ⟨_,_,o,m,ho,by rw[<- g3];exact g2⟩
  ·rw[g3]at g2;cases g2
  exact .inr ⟨x,y,q,m,g4,by rw[<- g3];exact g2⟩
 have mono: ∀x v,AV.rel ρ s.H (Xo X ρ s.H) w x v->AV.rel ρ' H1 (Xo X ρ' H1) w x v:=n9 fun x v hn h=>by
  cases x with
  |fn=>cases hn
  |p x=>exact bX.weaken (fun c _ hc=>hXo c hc) h
  |junk=>trivial
  |sl x y off len=>
   obtain⟨q,g1,g2,g3⟩:=h;obtain⟨q',k1,k2,k3,k4⟩:=hof x y q g1;exact⟨q',k1,by omega,by rw[k4,k2];exact g3⟩
  |ptr x y i j=>
   obtain⟨q,b,c,g1,g2,g3,g4⟩:=h;obtain⟨q',k1,k2,k3,k4⟩:=hof x y q g1;exact⟨q',b,c,k1,by rw[k4];exact g2,by omega,by rw[k2];exact g4⟩
 refine⟨h1,hsz,ρ',⟨hinv.keep,fun x y q h=>?_,fun x y x' y' q q' b c1 c2 h h' e1 e2=>?_,fun x y q b c h e1=>?_,hinv.bar,fun x y q h=>?_⟩,fun t x hx=>?_⟩
 ·rcases hget x y q h with⟨rfl,rfl,rfl,g3⟩|⟨rfl,rfl,rfl,g3⟩|⟨g4,g3⟩
  ·obtain⟨q1,q2,q3⟩:=hinv.objs x y o ho;refine⟨fun e' he'=>?_,by omega,?_⟩
   ·rw[<- ho1]at he'⊢;rcases List.mem_or_eq_of_mem_set he' with he'|rfl
    ·exact q1 e' he'
    rw[List.length_set];exact q1 e (ax he)
   rw[g3];cases hr:ρ x y with
   |none=>
    rw[hr]at q3;rw[q3]at he;simp at he
   |some bc=>
    obtain⟨b,c⟩:=bc;rw[hr]at q3;obtain⟨cells,p1,p2,p3,p4,p5⟩:=q3;refine⟨cells,by rw[hty'];exact p1,by rw[hes'];exact p2,by omega,p4,fun i' e' j' z hz1 hz2=>?_⟩;rw[hes'];rw[<- ho1]at hz1;simp only at hz1;rw[List.getElem?_set]at hz1;split at hz1
    ·rename_i hii;subst hii;split at hz1
     ·injection hz1 with hz1
      subst hz1;rw[List.getElem?_set]at hz2;split at hz2
      ·rename_i hjj;subst hjj;split at hz2
       ·injection hz2 with hz2
        subst hz2;obtain⟨u,u1,u2,u3⟩:=p5 i e j _ he hj;refine⟨u,u1,u2,⟨ty,es,[]⟩,?_,by simp,.inl ⟨if_pos ⟨rfl,rfl⟩,?_,rfl,rfl⟩⟩
        ·show(H1 x)[n]?=_;rw[hHa,ar (by simp;omega)];simp[hn]
        exact(bs (ρ:=ρ) (H:=s.H) u3).1
       cases hz2
      obtain⟨u,u1,u2,u3⟩:=p5 i e j' z he hz2;exact⟨u,u1,u2,mono z u u3⟩
     cases hz1
    obtain⟨u,u1,u2,u3⟩:=p5 i' e' j' z hz1 hz2;exact⟨u,u1,u2,mono z u u3⟩
  ·exact⟨fun e' he'=>(by cases he'),hes,(by rw[g3])⟩
  obtain⟨q1,q2,q3⟩:=hinv.objs x y q g4;refine⟨q1,q2,?_⟩;rw[g3];cases hr:ρ x y with
  |none=>rw[hr]at q3;exact q3
  |some bc=>
   obtain⟨b,c⟩:=bc;rw[hr]at q3;obtain⟨cells,p1,p2,p3,p4,p5⟩:=q3;exact⟨cells,p1,p2,p3,p4,fun i e j z he hz=>by obtain⟨u,u1,u2,u3⟩:=p5 i e j z he hz;exact⟨u,u1,u2,mono z u u3⟩⟩
 ·have back: ∀(x y:Nat) q b c,(H1 x)[y]?=some q->ρ' x y=some (b,c)-> ∃q0,(s.H x)[y]?=some q0/\ρ x y=some (b,c):=fun x y q b c h e=>by
   rcases hget x y q h with⟨rfl,rfl,rfl,g3⟩|⟨_,_,_,g3⟩|⟨g4,g3⟩
   ·exact⟨o,ho,by rw[<- g3];exact e⟩
   ·rw[g3]at e;cases e
   exact⟨q,g4,by rw[<- g3];exact e⟩
  obtain⟨q0,k1,k2⟩:=back x y q b c1 h e1;obtain⟨q0',k3,k4⟩:=back x' y' q' b c2 h' e2;exact hinv.inj x y x' y' q0 q0' b c1 c2 k1 k3 k2 k4
 ·rcases hget x y q h with⟨rfl,rfl,rfl,g3⟩|⟨_,_,_,g3⟩|⟨g4,g3⟩
  ·exact hinv.old _ _ o b c ho (by rw[<- g3];exact e1)
  ·rw[g3]at e1;cases e1
  exact hinv.old x y q b c g4 (by rw[<- g3];exact e1)
 ·rcases hget x y q h with⟨rfl,rfl,rfl,g3⟩|⟨rfl,rfl,rfl,g3⟩|⟨g4,g3⟩
  ·have hso:=hinv.self x y o ho;rw[<- ho1];intro e' he' z hz;rcases List.mem_or_eq_of_mem_set he' with he'|rfl
   ·exact hso e' he' z hz
   rcases List.mem_or_eq_of_mem_set hz with hz|rfl
   ·exact hso e (ax he) z hz
   rfl
  ·exact fun e' he'=>by cases he'
  exact hinv.self x y q g4
 obtain⟨v,v1,v2⟩:=htm t x hx;exact⟨v,v1,TV.rel_map v2 mono⟩
section
section
variable {P:Program} {γ:Type} {L:jd γ} {g g':γ} {w0 w w':World} {O X:Nat->Prop} {s s':AS} {a:Act} {ks:List Nat} {vf:Nat->Option Value}
def rF (ks:List Nat) (a a':Act):Prop:= ∀k∈ks,a'.tmps[k]?=a.tmps[k]?
def dC (ks:List Nat) (ops:Array Oper):Bool:=ks.all fun k=>kX k ops
theorem iM {ks:List Nat} {ops:Array Oper} (h:dC ks ops=true) {m:Nat} {o:Oper} (ho:ops[m]?=some o) (v:Value):rF ks a (a.put o.dst v):=fun k hk=>by
 unfold dC at h;rw[List.all_eq_true]at h;exact rU v (th (h k hk) ho)
theorem rF.trans {a1 a2 a3:Act} (h:rF ks a1 a2) (g:rF ks a2 a3):rF ks a1 a3:=fun k hk=>(g k hk).trans (h k hk)
theorem rz {n:Nat} {items:List (aH P)} {ow:List Nat} {ops:Array Oper} (hk:dC ks ops=true) {Q:Exit->Act->World->Prop} {suf:List Nat}: ∀(l:List Oper) (m:Nat) (s s':AS) (a:Act) (w:World),(∀(j:Nat) o,l[j]?=some o->ops[m+j]?=some o)->
  eD P (items.map aH.a) ow ops (l.zipIdx m) s=some s'->cW w0 O X s a w->(∀a' w',rF ks a a'->cW w0 O X s' a' w'->wpOpsIn (FW none) n P ops Q suf a' w')->wpOpsIn (FW none) n P ops Q (List.range' m l.length++suf) a w
 |[],m,s,s',a,w,_,h,r,hQ=>by
  simp only[List.zipIdx_nil,eD]at h;injection h with h
  subst h;exact hQ a w (fun _ _=>rfl) r
 |o::l,m,s,s',a,w,hl,h,r,hQ=>by
  simp only[List.zipIdx_cons,eD]at h;split at h
  ·rename_i s1 hs1;simp only[List.length_cons,List.range'_succ,List.cons_append];rw[wpOpsIn_cons];have ho:ops[m]?=some o:=by have:=hl 0 o rfl;simpa using this
   exact kT ho hs1 r fun v w' hr=>rz hk l (m+1) s1 s' _ _ (fun j o hj=>by have:=hl (j+1) o (by simpa using hj);rwa[show m+(j+1)=m+1+j by omega]at this) h hr fun a' w' e r'=>hQ a' w' ((iM hk ho v).trans e) r'
  cases h
def u6 (ks:List Nat) (R:AS->Act->World->Prop):Prop:= ∀s a w,R s a w-> ∃(w1:World) (O1 X1:Nat->Prop),cW w1 O1 X1 s a w/\ ∀s' a' w',rF ks a a'->cW w1 O1 X1 s' a' w'->R s' a' w'
theorem uw {R1 R2:AS->Act->World->Prop} (M1:u6 ks R1) (M2:u6 ks R2) (m:Nat) (items:List (aH P)) (ow:List Nat) {id:Nat} {ops:Array Oper} (hk:dC ks ops=true) (hm:m<ops.toList.length) {s s1 s2 s3:AS} (h1:eD P (items.map aH.a) ow ops ((ops.toList.take m).zipIdx 0) s=some s1)
  (hsp:nR P ops m (R1 s1) (R2 s2)) (h2:eD P (items.map aH.a) ow ops ((ops.toList.drop (m+1)).zipIdx (m+1)) s2=some s3) {Q:Exit->Act->World->Prop} (hr:R1 s a w) (hQ: ∀a' w',R2 s3 a' w'->Q .normal a' w'):(Code.region id ops false).wp P Q a w:=by
 refine(wpIn_wide (n:=0)).1 (wpIn_region (F:=FW none) ?_);obtain⟨wa,Oa,Xa,ra,ka⟩:=M1 s a w hr;obtain⟨o,ho,hg,hso⟩:=hsp;have hsz:ops.size=(ops.toList.take m).length+(1+(ops.toList.drop (m+1)).length):=by simp at hm⊢;omega
 rw[hsz,List.range_eq_range',<- List.range'_append_1,Nat.zero_add];have hml:(ops.toList.take m).length=m:=by rw[List.length_take];omega
 refine rz hk (ops.toList.take m) 0 s s1 a w (fun j o hj=>?_) h1 ra fun a' w' e' r'=>?_
 ·rw[List.getElem?_take]at hj;split at hj
  ·simpa using hj
  cases hj
 rw[hml,Nat.add_comm 1,List.range'_succ,wpOpsIn_cons];unfold wpOpIn;rw[ho];simp only;rw[if_pos (by simp[Region.wanted,hg])];refine hso a' w' _ _ (ka _ _ _ e' r') fun v w1 hr1=>?_
 obtain⟨wb,Ob,Xb,rb,kb⟩:=M2 _ _ _ hr1;have:=rz (n:=0) (Q:=Q) (suf:=[]) hk (ops.toList.drop (m+1)) (m+1) s2 s3 _ w1 (fun j o hj=>by
  rw[List.getElem?_drop]at hj;simpa using hj) h2 rb (fun a2 w2 e2 r2=>hQ a2 w2 (kb _ _ _ e2 r2))
 rwa[List.append_nil]at this
def iR (L:jd γ) (ks:List Nat) (vf:Nat->Option Value) (w0:World) (O X:Nat->Prop) (g:γ) (s:AS) (a:Act) (w:World):Prop:=ee L w0 O X g s a w/\ ∀k∈ks,a.tmps[k]?=vf k
theorem fb:u6 ks (iR L ks vf w0 O X g):=fun s a w ⟨h,hv⟩=>by
 obtain⟨w1,O1,X1,h1,h2⟩:=pW s a w h;exact⟨w1,O1,X1,h1,fun s' a' w' e r=>⟨h2 s' a' w' r,fun k hk=>(e k hk).trans (hv k hk)⟩⟩
theorem nJ {ops:Array Oper} {m:Nat} (hk:dC ks ops=true) {s1 s2:AS} (h:nR P ops m (ee L w0 O X g s1) (ee L w0 O X g' s2)):nR P ops m (iR L ks vf w0 O X g s1) (iR L ks vf w0 O X g' s2):=by
 obtain⟨o,ho,hg,hs⟩:=h;exact⟨o,ho,hg,fun a w K Q ⟨h1,h2⟩ hK=>hs a w K Q h1 fun v w' r=>hK v w' ⟨r,fun k hk2=>(iM hk ho v k hk2).trans (h2 k hk2)⟩⟩
def dY (P:Program) (L:jd γ) (ks:List Nat) (c:Code) (Q:Exit->AS->γ->Prop) (s:AS) (g:γ):Prop:=
 ∀(vf:Nat->Option Value) (w0:World) (O X:Nat->Prop) (a:Act) (w:World),iR L ks vf w0 O X g s a w->c.wp P (fun e a' w'=> ∃s' g',Q e s' g'/\iR L ks vf w0 O X g' s' a' w') a w
variable {Q:Exit->AS->γ->Prop}
theorem iR.weak (h:bW s s') (r:iR L ks vf w0 O X g s a w):iR L ks vf w0 O X g s' a w:=⟨r.1.weak h,r.2⟩
theorem dY.weak {c:Code} (h:bW s s') (q:dY P L ks c Q s' g):dY P L ks c Q s g:=fun _ _ _ _ _ _ r=>q _ _ _ _ _ _ (r.weak h)
theorem bY (h:Q .normal s g):dY P L ks .skip Q s g:=fun _ _ _ _ _ _ r=>wp_skip ⟨s,g,h,r⟩
theorem d5 {id:Nat} (h:Q (.exit id) s g):dY P L ks (.exit id) Q s g:=fun _ _ _ _ _ _ r=>wp_exit ⟨s,g,h,r⟩
theorem jl (h:Q .ret s g):dY P L ks .ret Q s g:=fun _ _ _ _ _ _ r=>wp_ret ⟨s,g,h,r⟩
theorem bN {x y:Code} (h:dY P L ks x (ux (dY P L ks y Q) Q) s g):dY P L ks (.seq x y) Q s g:=fun _ _ _ _ _ _ r=>
 wp_seq (wp_mono (h _ _ _ _ _ _ r) fun e a w ⟨s',g',h1,h2⟩=>by
  cases e with
  |normal=>exact h1 _ _ _ _ _ _ h2
  |_=>exact⟨s',g',h1,h2⟩)
theorem eQ {id:Nat} {x:Code} (h:dY P L ks x (Bs id Q) s g):dY P L ks (.block id x) Q s g:=fun _ _ _ _ _ _ r=>
 wp_block (wp_mono (h _ _ _ _ _ _ r) fun e a w ⟨s',g',h1,h2⟩=>by
  cases e with
  |exit id'=>
   simp only[Bs]at h1;simp only[Exit.inBlock];split at h1
   ·rename_i hid;rw[if_pos hid];exact⟨s',g',h1,h2⟩
   rename_i hid;rw[if_neg hid];exact⟨s',g',h1,h2⟩
  |_=>exact⟨s',g',h1,h2⟩)
theorem bI {c:Operand} {x y:Code} {v:Bool} (hc:s.ev c=some (.raw (.bool v))) (ht:v=true->dY P L ks x Q s g) (hf:v=false->dY P L ks y Q s g):dY P L ks (.cond c x y) Q s g:=fun _ _ _ _ _ _ r=>by
 obtain⟨h1,hsz,ρ,hinv,htm⟩:=id r.1.1;have hb:=(bs (bD htm c _ hc)).1;exact wp_cond_split hb (fun h=>ht h _ _ _ _ _ _ r) (fun h=>hf h _ _ _ _ _ _ r)
theorem fP {c:Operand} {x y:Code} (hc:s.ev c=some (.raw (.bool true))) (h:dY P L ks x Q s g):dY P L ks (.cond c x y) Q s g:=bI hc (fun _=>h) (fun h=>by cases h)
theorem fw {c:Operand} {x y:Code} (hc:s.ev c=some (.raw (.bool false))) (h:dY P L ks y Q s g):dY P L ks (.cond c x y) Q s g:=bI hc (fun h=>by cases h) (fun _=>h)
theorem Bf {c:Operand} {y z:Code} (hc:s.ev c=some (.raw (.bool true))) (h:dY P L ks z Q s g):dY P L ks (.seq (.cond c .skip y) z) Q s g:=bN (fP hc (bY h))
theorem Bc {c:Operand} {x z:Code} {id:Nat} (hc:s.ev c=some (.raw (.bool false))) (h:Q (.exit id) s g):dY P L ks (.seq (.cond c x (.exit id)) z) Q s g:=bN (fw hc (d5 h))
theorem Hw {G:Type} (St:G->AS) (Sc:G->γ) (μ:G->Nat) (g0:G) {c:Code} (h0:bW s (St g0)) (h0':Sc g0=g)
  (round: ∀i,dY P L ks c (ux (fun s' g'=> ∃i',μ i'<μ i/\bW s' (St i')/\Sc i'=g') Q) (St i) (Sc i)):dY P L ks (.loop c) Q s g:=fun vf w0 O X a w r=>by
 classical
 subst h0'
 let p:Act->World->Nat->Prop:=fun a w n=> ∃i,μ i=n/\iR L ks vf w0 O X (Sc i) (St i) a w
 let m:Act->World->Nat:=fun a w=>if h: ∃n,p a w n then Classical.choose (bF h)else 0
 refine wp_loop (fun a w=> ∃n,p a w n) m ⟨_,g0,rfl,r.weak h0⟩ ?_;intro a w hI;have hm:m a w=Classical.choose (bF hI):=dif_pos hI;obtain⟨hp,hleast⟩:=Classical.choose_spec (bF hI);rw[<- hm]at hp;obtain⟨i,hg,hr⟩:=hp;refine wp_mono (round i _ _ _ _ _ _ hr) fun e a' w' ⟨s',cs',h1,h2⟩=>?_
 cases e with
 |normal=>
  obtain⟨i',hlt,hw,hcs⟩:=h1;subst hcs;have hr':=h2.weak hw;have hI': ∃n,p a' w' n:=⟨_,i',rfl,hr'⟩;refine⟨hI',?_⟩;have hm':m a' w'=Classical.choose (bF hI'):=dif_pos hI';obtain⟨_,hl'⟩:=Classical.choose_spec (bF hI');have:=hl' (μ i') ⟨i',rfl,hr'⟩;rw[hm'];omega
 |_=>exact⟨s',cs',h1,h2⟩
theorem iS {G:Type} (St:G->AS) (Sc:G->γ) (μ:G->Nat) (g0:G) {id:Nat} {x:Code} (h0:bW s (St g0)) (h0':Sc g0=g)
  (round: ∀i,dY P L ks x (ux (fun s' g'=> ∃i',μ i'<μ i/\bW s' (St i')/\Sc i'=g') (Bs id Q)) (St i) (Sc i)):dY P L ks (.block id (.loop x)) Q s g:=
 eQ (Hw St Sc μ g0 h0 h0' round)
theorem Dn (items:List (aH P)) (ow:List Nat) {id:Nat} {ops:Array Oper} (hk:dC ks ops=true) (h:ca P (items.map aH.a) ow (bC ops ops.toList 0) (some s) (fun s=>Q .normal s g)):dY P L ks (.region id ops false) Q s g:=fun vf w0 O X a w r=>by
 obtain⟨s',h1,h2⟩:=bi P (items.map aH.a) ow ops ops.toList 0 s _ h;obtain⟨wa,Oa,Xa,ra,ka⟩:=fb s a w r;refine(wpIn_wide (n:=0)).1 (wpIn_region (F:=FW none) ?_);have:=rz (n:=0) (suf:=[]) (Q:=fun e a' w'=> ∃s' g',Q e s' g'/\iR L ks vf w0 O X g' s' a' w') hk ops.toList 0 s s' a w (fun j o hj=>by simpa using hj) h1 ra (fun a' w' e r'=>⟨s',g,h2,ka _ _ _ e r'⟩);rw[List.append_nil,<- List.range_eq_range',Array.length_toList]at this;exact this
theorem iT {y:Code} (items:List (aH P)) (ow:List Nat) {id:Nat} {ops:Array Oper} (hk:dC ks ops=true) (h: ∀K:AS->Prop,(∀s',dY P L ks y Q s' g->K s')->ca P (items.map aH.a) ow (bC ops ops.toList 0) (some s) K):dY P L ks (.seq (.region id ops false) y) Q s g:=
 bN (Dn items ow hk (h _ fun _ h=>h))
theorem Hx (items:List (aH P)) (ow:List Nat) {id:Nat} {ops:Array Oper} (hk:dC ks ops=true) (h: ∀K:AS->Prop,(∀s',Q .normal s' g->K s')->ca P (items.map aH.a) ow (bC ops ops.toList 0) (some s) K):dY P L ks (.region id ops false) Q s g:=
 Dn items ow hk (h _ fun _ h=>h)
theorem aS {y:Code} {id:Nat} {ops:Array Oper} (hk:dC ks ops=true) (h: ∀K:AS->Prop,(∀s',dY P L ks y Q s' g->K s')->ca P [] [] (bC ops ops.toList 0) (some s) K):dY P L ks (.seq (.region id ops false) y) Q s g:=iT [] [] hk h
theorem b9 {id:Nat} {ops:Array Oper} (hk:dC ks ops=true) (h: ∀K:AS->Prop,(∀s',Q .normal s' g->K s')->ca P [] [] (bC ops ops.toList 0) (some s) K):dY P L ks (.region id ops false) Q s g:=Hx [] [] hk h
theorem yz (m:Nat) {l:Nat} {args:List Value} {b:Bool} (hy:pG P L l args g g' b) (items:List (aH P)) (ow:List Nat) {id:Nat} {ops:Array Oper} (hk:dC ks ops=true) (hm:m<ops.toList.length)
  (h: ∀K:AS->Prop,(∀s1,(Q6 ops m s1=some (l,args)/\ ∀K:AS->Prop,(∀s',Q .normal s' g'->K s')->ca P (items.map aH.a) ow (bC ops (ops.toList.drop (m+1)) (m+1)) (some (yS ops m b s1)) K)->K s1)->ca P (items.map aH.a) ow (bC ops (ops.toList.take m) 0) (some s) K):dY P L ks (.region id ops false) Q s g:=fun vf w0 O X a w r0=>by
 obtain⟨s1,h1,q,h2⟩:=bi P (items.map aH.a) ow ops _ 0 s _ (h (fun s1=>Q6 ops m s1=some (l,args)/\ca P (items.map aH.a) ow (bC ops (ops.toList.drop (m+1)) (m+1)) (some (yS ops m b s1)) (fun s=>Q .normal s g')) fun s1 ⟨q1,q3⟩=>⟨q1,q3 _ fun _ h=>h⟩);obtain⟨s',h3,h4⟩:=bi P (items.map aH.a) ow ops _ (m+1) _ _ h2;exact uw (R1:=iR L ks vf w0 O X g) (R2:=iR L ks vf w0 O X g') fb fb m items ow hk hm h1 (nJ hk (ur hy q)) h3 r0 fun a' w' r'=>⟨s',g',h4,r'⟩
/-! Row 0 stays where it lies. -/
def k8 (fa:Nat) (rs:List Nat):AV->AV
 | .sl x r off len=>if x=fa then .junk else .sl x r off len
 | .ptr x r i j=>if x=fa then(if rs.contains r=true then .ptr x r i j else .junk)else .ptr x r i j
 | .fn f x qs=>if x=fa then .junk else .fn f x qs
 |x=>x
theorem Ji (fa:Nat) (rs:List Nat):lf (k8 fa rs):=fun f b qs=>by
 by_cases h:b=fa
 ·exact .inl (if_pos h)
 exact .inr ⟨b,qs,if_neg h,rfl,fun n q hn=>⟨q,hn,if_neg h⟩⟩
def oH (fa:Nat) (rs:List Nat):TV->TV
 | .one x=> .one (k8 fa rs x)
 | .agg cs=> .agg (cs.map (k8 fa rs))
 | .fn f cs=> .fn f (cs.map (k8 fa rs))
 | .tup ts=> .tup (ts.map fun t=>(t.1,t.2.map (k8 fa rs)))
theorem I1 {fa:Nat} {rs:List Nat} {ρ ρ':Rho} {H H':OH} {Y Y':Nat->Prop} {t:TV} {v:Value} (h:t.rel ρ H Y w v) (hk: ∀x v,x.rel ρ H Y w v->AV.rel ρ' H' Y' w' (k8 fa rs x) v):(oH fa rs t).rel ρ' H' Y' w' v:=by
 have hagg: ∀cs v,bJ ρ H Y w cs v->bJ ρ' H' Y' w' (cs.map (k8 fa rs)) v:=fun cs v ⟨vs,g1,g2,g3⟩=>by
  refine⟨vs,g1,by simpa using g2,fun j x hx=>?_⟩;rw[az]at hx;obtain⟨y,hy,rfl⟩:=Option.map_eq_some_iff.1 hx;obtain⟨u,u1,u2,u3⟩:=g3 j y hy;exact⟨u,u1,u2,hk y u u3⟩
 cases t with
 |one x=>exact hk x v h
 |agg cs=>exact hagg cs v h
 |fn f cs=>obtain⟨u,h1,h2⟩:=h;exact⟨u,hagg cs u h1,h2⟩
 |tup ts=>
  obtain⟨vs,g1,g2,g3⟩:=h;refine⟨vs,g1,by simpa using g2,fun j c cs hj=>?_⟩;rw[az]at hj;obtain⟨z,hz,hzz⟩:=Option.map_eq_some_iff.1 hj;obtain⟨c',cs'⟩:=z;simp at hzz;obtain⟨rfl,rfl⟩:=hzz;obtain⟨u,u1,u2⟩:=g3 j c' cs' hz;refine⟨u,u1,?_⟩;rcases u2 with⟨u2,u3⟩|⟨u2,q',rfl,u4⟩
  ·exact .inl ⟨u2,hagg _ _ u3⟩
  exact .inr ⟨u2,_,rfl,hk _ _ u4⟩
structure jT (P:Program) (L:jd γ) (rs:List Nat) (f:FuncId) (args:List TV) (F F':List OObj) (g g':γ) (r:TV):Prop where
 able:callable P f=true
 sA: ∀t∈args,selfTV 0 t
 sR:selfTV 0 r
 sF: ∀o∈F,selfO 0 o
 sF': ∀o∈F',selfO 0 o
 sh: ∀r∈rs,∀o,F[r]?=some o-> ∃o',F'[r]?=some o'/\o'.es=o.es/\o.elems.length<=o'.elems.length
 calls: ∀(X:Nat->Prop) (w:World) (vs:Array Value) (ρ:Rho),Inv w (fun j=>famB F ρ j\/L.B j) X (famH 0 F) ρ w->(∀j,L.B j->X j)->L.G g w->vs.size=args.length->
  (∀(j:Nat) t,args[j]?=some t-> ∃v:Value,vs[j]?=some v/\t.rel ρ (famH 0 F) (Xo X ρ (famH 0 F)) w v)->
  Calls P f vs w fun e w'=> ∃v,e= .returned v/\ ∃ρ':Rho,Inv w (fun j=>famB F ρ j\/L.B j) X (famH 0 F') ρ' w'/\L.G g' w'/\r.rel ρ' (famH 0 F') (Xo X ρ' (famH 0 F')) w' v/\ ∀r∈rs,∀b c,ρ 0 r=some (b,c)-> ∃c',ρ' 0 r=some (b,c')
theorem jT.toL {f:FuncId} {args:List TV} {F F':List OObj} {r:TV} {rs:List Nat} (h:jT P L rs f args F F' g g' r):mM P L f args F F' g g' r:=
 ⟨h.able,h.sA,h.sR,h.sF,h.sF',fun X w vs ρ h1 h2 h3 h4 h5=>(h.calls X w vs ρ h1 h2 h3 h4 h5).mono fun _ _ ⟨v,k1,ρ',k2,k3,k4,_⟩=>⟨v,k1,ρ',k2,k3,k4⟩⟩
theorem oc {f:FuncId} {fn:Func} {c:Code} {args:List TV} {F F':List OObj} {r:TV} (hf:P.funcs[f]?=some fn) (hb:fn.body=some c) (hn:callable P f=true) (pl:List (Nat×Nat)) (ha: ∀p∈pl,args[p.2]?=some (.one (.ptr 0 p.1 0 0)))
  (sA: ∀t∈args,selfTV 0 t) (sR:selfTV 0 r) (sF: ∀o∈F,selfO 0 o) (sF': ∀o∈F',selfO 0 o) (sh: ∀r∈pl.map Prod.fst,∀o,F[r]?=some o-> ∃o',F'[r]?=some o'/\o'.es=o.es/\o.elems.length<=o'.elems.length)
  (h:dY P L (pl.map Prod.snd) c (fun e s k=>(e= .normal\/e= .ret)/\k=g'/\ ∃s',bW s s'/\Rg P fn F' r s'/\ ∀p∈pl,s'.tmps[p.2]?=some (.one (.ptr 0 p.1 0 0))) ⟨args++List.replicate (fn.ntmps-args.length) .undef,famH 0 F⟩ g):jT P L (pl.map Prod.fst) f args F F' g g' r:=by
 refine⟨hn,sA,sR,sF,sF',sh,fun X w vs ρ hinv0 hB hG hvs hargs=>?_⟩;refine calls_of_wp hf hb ?_;have hrel:cW w (fun j=>famB F ρ j\/L.B j) X ⟨args++List.replicate (fn.ntmps-args.length) .undef,famH 0 F⟩ {tmps:=vs++Array.replicate (fn.ntmps-vs.size) undef,defers:=[]} w:=by
  refine⟨rfl,by simp[hvs],ρ,hinv0,fun t x hx=>?_⟩;by_cases ht:t<args.length
  ·rw[aq ht]at hx;obtain⟨v,v1,v2⟩:=hargs t x hx;exact⟨v,by rw[Array.getElem?_append_left (by omega)];exact v1,v2⟩
  rw[ar (by omega),List.getElem?_replicate]at hx;split at hx
  ·rename_i hlt;injection hx with hx
   subst hx;refine⟨undef,?_,dX⟩;rw[Array.getElem?_append_right (by omega),Array.getElem?_replicate,if_pos (by omega)]
  cases hx
 refine wp_mono (h (fun k=>(vs++Array.replicate (fn.ntmps-vs.size) undef)[k]?) _ _ _ _ _ ⟨⟨hrel,fun j hj=>⟨.inr hj,hB j hj⟩,hG⟩,fun _ _=>rfl⟩) fun e a' w' ⟨s1,k,⟨hee,hk,s2,hw,⟨hW2,hW3⟩,ht0⟩,⟨hrel1,_,hG1⟩,hv0⟩=>?_
 subst hk;obtain⟨h1,hsz,ρ',hinv,htm⟩:=hw _ _ _ _ _ hrel1;have htm:bq X ρ' s2 a' w':=htm;rw[hW2]at hinv;obtain⟨v,v1,v2⟩:=eL (by rw[hW2];exact hinv) htm hW3;rw[hW2]at v2;have hpl: ∀q∈pl.map Prod.fst,∀b c,ρ 0 q=some (b,c)-> ∃c',ρ' 0 q=some (b,c'):=fun q hq b c hbc=>by
  obtain⟨p,hp,rfl⟩:=List.mem_map.1 hq;obtain⟨u0,hu0,o0,b0,c0,y1,y2,y3,y4⟩:=hargs p.2 _ (ha p hp);have hpos:p.2<vs.size:=(Array.getElem?_eq_some_iff.1 hu0).1;obtain⟨u,u1,o1,b1,c1,z1,z2,z3,z4⟩:=htm p.2 _ (ht0 p hp);rw[hv0 p.2 (List.mem_map.2 ⟨p,hp,rfl⟩)]at u1;simp only[Array.getElem?_append_left hpos,hu0]at u1;injection u1 with u1
  rw[<- u1,y4]at z4;injection z4 with z4
  injection z4 with z4
  injection z4 with z4 _ _
  rw[y2]at hbc;injection hbc with hbc
  injection hbc with hbc _
  exact⟨c1,by rw[z2,<- z4,hbc]⟩
 rcases hee with rfl|rfl
 ·exact⟨h1,v,v1,v,rfl,ρ',hinv,hG1,v2,hpl⟩
 exact⟨h1,v,v1,v,rfl,ρ',hinv,hG1,v2,hpl⟩
def BB (ops:Array Oper) (m:Nat) (r:TV) (fa:Nat) (rs:List Nat) (F':List OObj) (s:AS):AS:=AS.put ⟨s.tmps.map (oH fa rs),aJ s.H fa (F'.map (renO fa))⟩ (jY ops m) (renTV fa r)
theorem CC {f:FuncId} {args:List TV} {F F':List OObj} {r:TV} {rs:List Nat} (hcon:jT P L rs f args F F' g g' r) {fa:Nat} (hfa:fa<=4999) {o:Oper} {s1:AS} (hts:nf o s1=some (f,args.map (renTV fa))) (hfam:s1.H fa=F.map (renO fa)):
  wJ P o (ee L w0 O X g s1) (ee L w0 O X g' (AS.put ⟨s1.tmps.map (oH fa rs),aJ s1.H fa (F'.map (renO fa))⟩ o.dst (renTV fa r))):=fun a w K Q ⟨⟨h1,hsz,ρ,hinv,htm⟩,hB,hG⟩ hK=>by
 have htm:bq X ρ s1 a w:=htm;obtain⟨X1,ρ0,g1,g2,g3,_,g5,g6⟩:=vD (B:=L.B) h1 hsz hinv htm hB hcon.sR hcon.sF hcon.sF' hfa hfam;refine iF (.inl rfl) ?_;have key: ∀vs:Array Value,(execOp a.eval o).run P w= .ok (.enter f vs) w->vs.size=args.length->(∀(j:Nat) t,args[j]?=some t-> ∃v:Value,vs[j]?=some v/\(renTV fa t).rel ρ s1.H (Xo X ρ s1.H) w v)->o.wp P a w K Q:=fun vs hrun hvs hargs=>by
  unfold Oper.wp;rw[hrun];simp only[Oper.upon];refine(hcon.calls X1 w vs ρ0 g1 g2 hG hvs fun j t ht=>?_).mono ?_
  ·obtain⟨v,v1,v2⟩:=hargs j t ht;exact⟨v,v1,g3 t v (hcon.sA t (ax ht)) v2⟩
  rintro e w1 ⟨v,rfl,ρ',hi,hG1,hr1,hpl⟩;obtain⟨ρ1,q0,q1,q2,q3⟩:=g6 v w1 ρ' hi hr1;have htm':bq X ρ1 ⟨s1.tmps.map (oH fa rs),aJ s1.H fa (F'.map (renO fa))⟩ a w1:=fun t x hx=>by
   simp only[az]at hx;obtain⟨y,hy,rfl⟩:=Option.map_eq_some_iff.1 hx;obtain⟨u,u1,u2⟩:=htm t y hy;refine⟨u,u1,I1 u2 (fo (Ji fa rs) fun x v hn h=>?_)⟩;have hk:=q2 x v h;cases x with
   |fn=>cases hn
   |p x=>exact hk
   |junk=>trivial
   |sl z y off len=>
    simp only[k8];by_cases hz:z=fa
    ·rw[if_pos hz];trivial
    rw[if_neg hz];simpa[a6,kF,hz] using hk
   |ptr z y i j=>
    simp only[k8];by_cases hz:z=fa
    ·rw[if_pos hz];by_cases hy:rs.contains y=true
     ·rw[if_pos hy];have hy:y∈rs:=by simpa using hy
      subst hz;obtain⟨o1,b,c,z1,z2,z3,z4⟩:=h;rw[hfam,az]at z1;obtain⟨o2,z5,rfl⟩:=Option.map_eq_some_iff.1 z1;obtain⟨o3,z6,z7,z8⟩:=hcon.sh y hy o2 z5;obtain⟨c',z9⟩:=hpl y hy b c (by rw[g5];exact z2);refine⟨renO z o3,b,c',by rw[aX,az,z6];rfl,by rw[q0];exact z9,?_,?_⟩
      ·have:i<o2.elems.length:=by simpa[renO] using z3
       simp only[renO,List.length_map];omega
      rw[z4];simp[renO,z7]
     rw[if_neg hy];trivial
    rw[if_neg hz];simpa[a6,kF,hz] using hk
  refine hK v w1 ⟨⟨by rw[fB];exact h1,by rw[i6,eA];simpa using hsz,ρ1,by rw[eK];exact q1,nC (s:=⟨s1.tmps.map (oH fa rs),aJ s1.H fa (F'.map (renO fa))⟩) (by simpa using hsz) htm' q3⟩,hB,hG1⟩
 unfold nf at hts;split at hts
 ·rename_i c hop;split at hts
  ·rename_i f' hcal;obtain⟨ts,hev,e⟩:=Option.map_eq_some_iff.1 hts;injection e with e e'
   subst e e';obtain⟨e1,e2⟩:=bZ hev;have hsize:c.args.size=args.length:=by simpa using e1.symm
   refine key _ (i7 hop hcal rfl hcon.able) (by simp[hsize]) fun j t ht=>?_
   obtain⟨y,hy,hyt⟩:=e2 j (renTV fa t) (by rw[az,ht];rfl);refine⟨a.eval y,?_,bD htm y _ hyt⟩;rw[Array.getElem?_map];have:c.args[j]?=some y:=by simpa using hy
   rw[this];rfl
  ·rename_i k hcal;split at hts
   ·rename_i f' extra ts hcl hev;injection hts with hts
    injection hts with e e'
    subst e;obtain⟨e1,e2⟩:=bZ hev;obtain⟨us,k1,k2,k3⟩:=iJ (v:=a.eval (.tmp k)) (fun t0 ht0=>bD htm (.tmp k) t0 ht0) hcl;have hlen:args.length=c.args.size+us.size:=by
     have:=congrArg List.length e';simp[e1,<- k2]at this;omega
    refine key _ (iO hop hcal k1 hcon.able) (by simp[hlen]) fun j t ht=>?_
    have ht2:(ts++extra)[j]?=some (renTV fa t):=by rw[e',az,ht];rfl
    by_cases hj:j<ts.length
    ·rw[aq hj]at ht2;obtain⟨y,hy,hyt⟩:=e2 j _ ht2;refine⟨a.eval y,?_,bD htm y _ hyt⟩;rw[Array.getElem?_append_left (by simp at e1⊢;omega),Array.getElem?_map];have:c.args[j]?=some y:=by simpa using hy
     rw[this];rfl
    rw[ar (by omega)]at ht2;obtain⟨v,v1,v2⟩:=k3 _ _ ht2;refine⟨v,?_,v2⟩;rw[Array.getElem?_append_right (by simp at e1⊢;omega)];simp at e1⊢;rw[<- e1];exact v1
   cases hts
  cases hts
 cases hts
theorem uq {f:FuncId} {args:List TV} {F F':List OObj} {r:TV} {rs:List Nat} (hcon:jT P L rs f args F F' g g' r) {fa:Nat} (hfa:fa<=4999) {ops:Array Oper} {m:Nat} {s1:AS} (h:yl ops m f args fa F s1):
  nR P ops m (ee L w0 O X g s1) (ee L w0 O X g' (BB ops m r fa rs F' s1)):=by
 obtain⟨h1,h2⟩:=h;unfold cxTs at h1;split at h1
 ·rename_i o ho;split at h1
  ·rename_i hg;refine⟨o,ho,by simpa using hg,?_⟩;unfold BB jY;rw[ho];exact CC hcon hfa h1 h2
  cases h1
 cases h1
theorem gy (m:Nat) {f:FuncId} {args:List TV} {F F':List OObj} {r:TV} {rs:List Nat} (hcon:jT P L rs f args F F' g g' r) (fa:Nat) (items:List (aH P)) (ow:List Nat) {id:Nat} {ops:Array Oper} (hk:dC ks ops=true) (hfa:fa<=4999) (hm:m<ops.toList.length)
  (h: ∀K:AS->Prop,(∀s1,(yl ops m f args fa F s1/\ ∀K:AS->Prop,(∀s',Q .normal s' g'->K s')->ca P (items.map aH.a) ow (bC ops (ops.toList.drop (m+1)) (m+1)) (some (BB ops m r fa rs F' s1)) K)->K s1)->ca P (items.map aH.a) ow (bC ops (ops.toList.take m) 0) (some s) K):dY P L ks (.region id ops false) Q s g:=fun vf w0 O X a w r0=>by
 obtain⟨s1,h1,q,h2⟩:=bi P (items.map aH.a) ow ops _ 0 s _ (h (fun s1=>yl ops m f args fa F s1/\ca P (items.map aH.a) ow (bC ops (ops.toList.drop (m+1)) (m+1)) (some (BB ops m r fa rs F' s1)) (fun s=>Q .normal s g')) fun s1 ⟨q1,q3⟩=>⟨q1,q3 _ fun _ h=>h⟩);obtain⟨s',h3,h4⟩:=bi P (items.map aH.a) ow ops _ (m+1) _ _ h2;exact uw (R1:=iR L ks vf w0 O X g) (R2:=iR L ks vf w0 O X g') fb fb m items ow hk hm h1 (nJ hk (uq hcon hfa q)) h3 r0 fun a' w' r'=>⟨s',g',h4,r'⟩
theorem It {R1 R2:AS->Act->World->Prop} (M1:u6 ks R1) (hmx:P.follows .mixedOrders=true) (items:List (aH P)) (ow:List Nat) {id:Nat} {ops:Array Oper} (hk:dC ks ops=true) (hE:xf ops=true) {s s1 s2:AS} (h1:eD P (items.map aH.a) ow ops ((ops.toList.take (ops.size-1)).zipIdx 0) s=some s1)
  (hsp:nR P ops (ops.size-1) (R1 s1) (R2 s2)) {Q:Exit->Act->World->Prop} (hr:R1 s a w) (hQ: ∀a' w',R2 s2 a' w'->Q .normal a' w'):(Code.region id ops true).wp P Q a w:=by
 simp only[xf,Bool.and_eq_true,decide_eq_true_eq,List.all_eq_true,List.mem_range]at hE;obtain⟨hpos,hd,hanc⟩:=hE;obtain⟨o,ho,hg,hso⟩:=hsp;generalize hm:ops.size-1=m at*
 have hmlt:m<ops.size:=by omega
 have hml:(ops.toList.take m).length=m:=by rw[List.length_take];simp;omega
 have hpre:cn P (items.map aH.a) ow (gn ops m) (List.range m) s=some s1:=by
  have:=dW (P:=P) (items:=items.map aH.a) (ow:=ow) (ops.toList.take m) 0 s (fun j o hj=>by
   rw[List.getElem?_take]at hj;split at hj
   ·simpa using hj
   cases hj)
  rw[h1,hml,<- List.range_eq_range']at this;rw[this];have key: ∀(l:List Nat) (s:AS),(∀i∈l,i<m)->cn P (items.map aH.a) ow (gn ops m) l s=cn P (items.map aH.a) ow ops l s:=fun l=>by
   induction l with
   |nil=>intros;rfl
   |cons i l ih=>
    intro s hl;have hi:=hl i (by simp);have e:co P (items.map aH.a) ow (gn ops m) i s=co P (items.map aH.a) ow ops i s:=by
     unfold co;rw[eR,if_neg (by omega)];simp only[gV]
    simp only[cn,e];cases co P (items.map aH.a) ow ops i s with
    |none=>rfl
    |some s2=>exact ih s2 fun j hj=>hl j (by simp[hj])
  exact key _ _ fun i hi=>List.mem_range.1 hi
 have hdm:(gn ops m)[m]?=some (pO o):=by rw[eR,if_pos rfl,ho];rfl
 have hlast:bf P (items.map aH.a) ow (gn ops m) m (pO o) s1=some (s1.put o.dst (.raw (.bool false))):=by
  unfold bf;rw[show(pO o).guard=none from hg];rfl
 have hrun:cn P (items.map aH.a) ow (gn ops m) (List.range (gn ops m).size) s=some (s1.put o.dst (.raw (.bool false))):=by
  rw[ce,show ops.size=m+1 by omega,List.range_succ,eP,hpre];simp only[Option.bind_some,cn];unfold co;rw[hdm];simp only;rw[hlast];rfl
 refine(wpIn_wide (n:=0)).1 (wpIn_region_any (F:=FW none) hmx ?_);have hr':R1 s a {w with drawn:=w.drawn+1}:=by
  obtain⟨wa,Oa,Xa,⟨q1,q2,ρ,hinv,htm⟩,ka⟩:=M1 s a w hr;have e:Ext w {w with drawn:=w.drawn+1}:=⟨rfl,rfl,rfl,Nat.le_refl _,fun _ _=>rfl⟩;have htm:bq Xa ρ s a w:=htm;exact ka _ _ _ (fun _ _=>rfl) ⟨q1,q2,ρ,hinv.grow e,htm.grow e⟩
 have hlive:iw s:=by obtain⟨wa,Oa,Xa,r,_⟩:=M1 s a w hr;exact cO r
 rw[<- mg,<- rW (m:=m)];refine gB (sep:=[]) (ia hd (by simp)) hd (fun p s a w=>if p m then R2 s2 a w else R1 s a w) ⟨hlive,fun x hx=>by simp at hx⟩ hrun (fun p a w hall hr=>?_) (fun p i o' s' s1' a w K ho' hpi hcl hs hr hK=>?_) ops.size (Array.replicate ops.size false) s a _ (by simp[ce]) ?_ ?_ ?_ ?_
 ·rw[if_pos (hall m (by rw[ce];exact hmlt))]at hr;exact hQ a w hr
 ·obtain⟨hc,hc',hsel⟩:=hcl;have hin:i<ops.size:=by have:=(Array.getElem?_eq_some_iff.1 ho').1;rwa[ce]at this
  have hadd:cq p i i=true:=by simp[cq]
  by_cases him:i=m
  ·subst him;rw[hdm]at ho';injection ho' with ho'
   subst ho';have hse:i8 (gn ops i).size p=List.range i:=l9 (by rw[ce];omega) (fun j hj=>by
    have:=fQ hc' (i+1) i (by omega) (by rw[ce];exact hmlt) hadd (hanc j hj);have hji:(j==i)=false:=by simp;omega
    simpa[cq,hji] using this) (fun j hj1 hj2=>by
    rw[ce]at hj1;rw[show j=i by omega];exact hpi)
   rw[hse,hpre]at hsel;injection hsel with hsel
   subst hsel;rw[hpi,if_neg (by decide)]at hr;unfold wpOpIn;rw[ho];simp only;rw[if_pos (by simp[Region.wanted,hg])];exact hso a w K Q hr fun v w' h2=>hK v w' (by rw[if_pos hadd];exact h2)
  have hpm:p m=false:=by
   cases hpm:p m with
   |false=>rfl
   |true=>
    have:=fQ hc (m+1) m (by omega) (by rw[ce];exact hmlt) hpm (hanc i (by omega));rw[hpi]at this;cases this
  rw[hpm,if_neg (by decide)]at hr;rw[eR,if_neg him]at ho';rw[gV]at hs;obtain⟨wa,Oa,Xa,ra,ka⟩:=M1 _ _ _ hr;have hmi:(m==i)=false:=by simp;omega
  exact kT ho' hs ra fun v w' r'=>hK v w' (by simpa[cq,hpm,hmi] using ka _ _ _ (iM hk ho' v) r')
 ·intro j o ho hp;have hj:j<ops.size:=by have:=(Array.getElem?_eq_some_iff.1 ho).1;rwa[ce]at this
  simp[hj]at hp
 ·exact Nat.le_trans (List.length_filter_le _ _) (by simp[ce])
 ·have:i8 (gn ops m).size (fun j=>(Array.replicate ops.size false).getD j true)=[]:=by
   unfold i8;rw[List.filter_eq_nil_iff];intro j hj;have:=List.mem_range.1 hj;rw[ce]at this;simp[this]
  rw[this];rfl
 rw[if_neg (by simp[hmlt])];exact hr'
theorem lA (hmx:P.follows .mixedOrders=true) {f:FuncId} {args:List TV} {F F':List OObj} {r:TV} {rs:List Nat} (hcon:jT P L rs f args F F' g g' r) (fa:Nat) (items:List (aH P)) (ow:List Nat) {id:Nat} {ops:Array Oper} (hk:dC ks ops=true) (hfa:fa<=4999) (hE:xf ops=true)
  (h: ∀K:AS->Prop,(∀s1,(yl ops (ops.size-1) f args fa F s1/\Q .normal (BB ops (ops.size-1) r fa rs F' s1) g')->K s1)->ca P (items.map aH.a) ow (bC ops (ops.toList.take (ops.size-1)) 0) (some s) K):dY P L ks (.region id ops true) Q s g:=fun vf w0 O X a w r0=>by
 obtain⟨s1,h1,q,h2⟩:=bi P (items.map aH.a) ow ops _ 0 s _ (h (fun s1=>yl ops (ops.size-1) f args fa F s1/\Q .normal (BB ops (ops.size-1) r fa rs F' s1) g') fun _ q=>q);exact It (R1:=iR L ks vf w0 O X g) (R2:=iR L ks vf w0 O X g') fb hmx items ow hk hE h1 (nJ hk (uq hcon hfa q)) r0 fun a' w' r'=>⟨_,g',h2,r'⟩
theorem kq (b r:Nat) {o o':OObj} (ho:(s.H b)[r]?=some o) (hty:o'.ty=o.ty) (hes:o'.es=o.es) (hlen:o'.elems.length=o.elems.length) (hsame: ∀(i:Nat) e',o'.elems[i]?=some e'-> ∃e,o.elems[i]?=some e/\e'.length=e.length/\ ∀(j:Nat) x,e'[j]?=some x->x= .junk\/e[j]?=some x):
  bW s ⟨s.tmps,aJ s.H b ((s.H b).set r o')⟩:=by
 rintro w0 O X act w ⟨h1,hsz,ρ,hinv,htm⟩;have htm:bq X ρ s act w:=htm;obtain⟨q1,q2,q3⟩:=id (hinv.objs b r o ho);cases hr:ρ b r with
 |none=>
  rw[hr]at q3;have e':o'.elems=[]:=List.eq_nil_of_length_eq_zero (by rw[hlen,q3];rfl);have eo:o'=o:=by
   cases o;cases o';simp_all
  subst eo;have:(s.H b).set r o'=s.H b:=by
   apply List.ext_getElem?;intro i;rw[List.getElem?_set];split
   ·rename_i hi;subst hi;rw[if_pos (List.getElem?_eq_some_iff.1 ho).1,ho]
   rfl
  rw[this,show aJ s.H b (s.H b)=s.H from funext fun x=>by unfold aJ;split<;>simp_all];exact⟨h1,hsz,ρ,hinv,htm⟩
 |some bc=>
  obtain⟨p,c⟩:=bc;rw[hr]at q3;obtain⟨cells,p1,p2,p3,p4,p5⟩:=q3;have old: ∀(i:Nat) e' (j:Nat) x,o'.elems[i]?=some e'->e'[j]?=some x-> ∃v:Value,cells[i*o.es+j]?=some v/\v.oneCell'=true/\x.rel ρ s.H (Xo X ρ s.H) w v:=fun i e' j x he hx=>by
   obtain⟨e,k1,k2,k3⟩:=hsame i e' he;have hj:j<e.length:=by have:=(List.getElem?_eq_some_iff.1 hx).1;omega
   obtain⟨u,u1,u2,u3⟩:=p5 i e j e[j] k1 (List.getElem?_eq_getElem hj);refine⟨u,u1,u2,?_⟩;rcases k3 j x hx with rfl|k3
   ·trivial
   rw[List.getElem?_eq_getElem hj]at k3;injection k3 with k3
   rw[<- k3];exact u3
  obtain⟨i1,i2⟩:=sO hinv ho hr p1 hty hes hlen (fun e' he'=>by
   obtain⟨i,hi⟩:=List.mem_iff_getElem?.1 he';obtain⟨e,k1,k2,_⟩:=hsame i e' hi;rw[k2,hes];exact q1 e (ax k1)) (fun e' he' x hx=>by
   obtain⟨i,hi⟩:=List.mem_iff_getElem?.1 he';obtain⟨j,hj⟩:=List.mem_iff_getElem?.1 hx;obtain⟨e,k1,_,k3⟩:=hsame i e' hi;rcases k3 j x hj with rfl|k3
   ·trivial
   exact hinv.self b r o ho e (ax k1) x (ax k3)) old
  exact⟨h1,hsz,ρ,i1,fun t x hx=>by
   obtain⟨v,v1,v2⟩:=htm t x hx;exact⟨v,v1,TV.rel_map v2 i2⟩⟩
end
end
theorem ky: ∀(x y:List Int),cB x y= -1\/cB x y=0\/cB x y=1
 |[],[]=>by simp[cB]
 |[],_::_=>by simp[cB]
 |_::_,[]=>by simp[cB]
 |a::x,b::y=>by
  have:=ky x y;unfold cB;split
  ·simp
  split
  ·simp
  exact this
theorem jX: ∀(x y:List Int),cB y x= - cB x y
 |[],[]=>by simp[cB]
 |[],_::_=>by simp[cB]
 |_::_,[]=>by simp[cB]
 |a::x,b::y=>by
  have:=jX x y;unfold cB;by_cases h1:a<b
  ·rw[if_pos h1,if_neg (by omega),if_pos h1];rfl
  by_cases h2:b<a
  ·rw[if_pos h2,if_neg h1,if_pos h2]
  rw[if_neg h2,if_neg h1,if_neg h1,if_neg h2,this]
theorem kz: ∀{x y z:List Int},cB x y<0->cB y z<0->cB x z<0
 |[],[],_,h,_=>by simp[cB]at h
 |_::_,[],_,h,_=>by simp[cB]at h
 |[],_::_,[],_,h=>by simp[cB]at h
 |[],_::_,_::_,_,_=>by simp[cB]
 |_::_,_::_,[],_,h=>by simp[cB]at h
 |a::x,b::y,c::z,h1,h2=>by
  unfold cB at h1 h2⊢;by_cases p1:a<b
  ·by_cases p2:b<c
   ·rw[if_pos (by omega)];omega
   rw[if_neg p2]at h2;by_cases p3:c<b
   ·rw[if_pos p3]at h2;omega
   rw[if_pos (by omega)];omega
  rw[if_neg p1]at h1;by_cases p3:b<a
  ·rw[if_pos p3]at h1;omega
  rw[if_neg p3]at h1;by_cases p2:b<c
  ·rw[if_pos (by omega)];omega
  rw[if_neg p2]at h2;by_cases p4:c<b
  ·rw[if_pos p4]at h2;omega
  rw[if_neg p4]at h2;rw[if_neg (by omega),if_neg (by omega)];exact kz h1 h2
theorem Dx (k1:Int) (x:List Int) (k2:Int) (y:List Int):E7 k1 x k2 y=if k1<k2 then -1 else if k2<k1 then 1 else cB x y:=by
 have hr:=ky x y;unfold E7 Lj Lj Lj ng;by_cases h1:k1<k2
 ·simp[h1]
 by_cases h2:k2<k1
 ·simp[h1,h2]
 simp[h1,h2];intro h;exact h.symm
theorem w8 {k1 k2:Int} {x y:List Int}:E7 k1 x k2 y<0↔k1<k2\/k1=k2/\cB x y<0:=by
 rw[Dx];by_cases h1:k1<k2
 ·rw[if_pos h1];omega
 by_cases h2:k2<k1
 ·rw[if_neg h1,if_pos h2];omega
 rw[if_neg h1,if_neg h2];omega
theorem E8 {k1 k2:Int} {x y:List Int}:E7 k1 x k2 y=0↔k1=k2/\x=y:=by
 rw[Dx];by_cases h1:k1<k2
 ·rw[if_pos h1];omega
 by_cases h2:k2<k1
 ·rw[if_neg h1,if_pos h2];omega
 rw[if_neg h1,if_neg h2];constructor
 ·intro h;exact⟨by omega,mj h⟩
 rintro⟨_,rfl⟩;exact fF _
theorem sX {α:Type} (f:α->NItem) (x y:α):ltOf (fun a b=>gm (f a) (f b)) x y=true↔(f x).key<(f y).key\/(f x).key=(f y).key/\cB (f x).vals (f y).vals<0:=by
 unfold ltOf gm;rw[decide_eq_true_iff,w8]
theorem RX {α:Type} (f:α->NItem):Sort.SWO (ltOf fun a b=>gm (f a) (f b)) where
 irrefl x:=by
  rw[<- Bool.not_eq_true,sX,fF];omega
 trans x y z h1 h2:=by
  rw[sX]at*
  rcases h1 with h1|⟨h1,h1'⟩<;>rcases h2 with h2|⟨h2,h2'⟩
  ·omega
  ·omega
  ·omega
  exact .inr ⟨by omega,kz h1' h2'⟩
 ntrans x y z h1 h2:=by
  rw[<- Bool.not_eq_true,sX]at*
  intro h3;rcases h3 with h3|⟨h3,h3'⟩
  ·by_cases e1:(f x).key<(f y).key
   ·exact h1 (.inl e1)
   exact h2 (.inl (by omega))
  by_cases e1:(f x).key<(f y).key
  ·exact h1 (.inl e1)
  by_cases e2:(f y).key<(f z).key
  ·exact h2 (.inl e2)
  have q1: ¬cB (f x).vals (f y).vals<0:=fun h=>h1 (.inr ⟨by omega,h⟩)
  have q2: ¬cB (f y).vals (f z).vals<0:=fun h=>h2 (.inr ⟨by omega,h⟩)
  have a1:=jX (f x).vals (f y).vals;have a2:=jX (f y).vals (f z).vals;rcases ky (f x).vals (f y).vals with r|r|r
  ·omega
  ·rw[mj r]at h3';exact q2 h3'
  rcases ky (f y).vals (f z).vals with s|s|s
  ·omega
  ·rw[<- mj s]at h3';exact q1 h3'
  have:=kz (x:=(f z).vals) (y:=(f y).vals) (z:=(f x).vals) (by omega) (by omega);have a3:=jX (f x).vals (f z).vals;omega
def qr (w:World) (g N:Nat) (L:List NItem):Prop:=
 ∃f,w.rowIs g 177 N f/\L.length*2<=N/\ ∀j it,L[j]?=some it->f (j*2)= .int .i64 it.key/\f (j*2+1)=it.val
theorem qr.ext {w w':World} {g N:Nat} {L:List NItem} (h:qr w g N L) (e:Ext w w'):qr w' g N L:=by
 obtain⟨f,h1,h2,h3⟩:=h;exact⟨f,ct h1 e,h2,h3⟩
theorem qr.cell0 {w:World} {g N:Nat} {L:List NItem} (h:qr w g N L) {j:Nat} {it:NItem} (hj:L[j]?=some it):w.cell? ⟨g,j*2,none⟩=some (.int .i64 it.key):=by
 obtain⟨f,h1,h2,h3⟩:=h;have:=(List.getElem?_eq_some_iff.1 hj).1;rw[h1.cell (by omega),(h3 j it hj).1]
theorem qr.cell1 {w:World} {g N:Nat} {L:List NItem} (h:qr w g N L) {j:Nat} {it:NItem} (hj:L[j]?=some it):w.cell? ⟨g,j*2+1,none⟩=some (.slice it.at_ it.vals.length it.cap):=by
 obtain⟨f,h1,h2,h3⟩:=h;have:=(List.getElem?_eq_some_iff.1 hj).1;rw[h1.cell (by omega),(h3 j it hj).2];rfl
theorem qr.frozen {w:World} {g N:Nat} {L:List NItem} (h:qr w g N L) (j:Nat):w.frozen? ⟨g,j,none⟩=false:=by
 obtain⟨f,h1,h2,h3⟩:=h;exact h1.frozen j
theorem qr.set {w:World} {g N:Nat} {L:List NItem} (h:qr w g N L) {i:Nat} (hi:i<L.length) (it:NItem):
  qr ((w.setCell ⟨g,i*2,none⟩ (.int .i64 it.key)).setCell ⟨g,i*2+1,none⟩ (.slice it.at_ it.vals.length it.cap)) g N (L.set i it):=by
 obtain⟨f,h1,h2,h3⟩:=h;refine⟨_,(h1.set (i*2) _).set (i*2+1) _,by simpa using h2,fun j it' hj=>?_⟩;rw[List.getElem?_set]at hj;by_cases e:i=j
 ·subst e;rw[if_pos rfl,if_pos hi]at hj;cases hj;constructor
  ·rw[if_neg (by omega),if_pos rfl]
  rw[if_pos rfl];rfl
 rw[if_neg e]at hj;obtain⟨q1,q2⟩:=h3 j it' hj;constructor
 ·rw[if_neg (by omega),if_neg (by omega),q1]
 rw[if_neg (by omega),if_neg (by omega),q2]
theorem qr.take {w:World} {g N:Nat} {L:List NItem} (h:qr w g N L) (i:Nat):qr w g N (L.take i):=by
 obtain⟨f,h1,h2,h3⟩:=h;refine⟨f,h1,by rw[List.length_take];omega,fun j it hj=>?_⟩;rw[List.getElem?_take]at hj;split at hj
 ·exact h3 j it hj
 cases hj
def cY (prev:NItem):List NItem->List NItem
 |[]=>[]
 |b::l=>if sD b prev then cY b l else b::cY b l
def bA:List NItem->List NItem
 |[]=>[]
 |a::l=>a::cY a l
theorem uY {P:Program} (w:World) (t e ty:TypeId) (z:Value) (ht:P.underlying t=some (.slice e)) (hv: ∀w,(zeroValue e).run P w= .ok z w) (h1: ∀v∈z.cells,v.oneCell'=true) (hz:0<z.cells.size) (b o n c:Nat) (hn:0<n)
  (hc: ∀j,j<n*z.cells.size->(w.cell? ⟨b,o+j,none⟩).isSome=true) (hf: ∀j,j<n*z.cells.size->w.frozen? ⟨b,o+j,none⟩=false):
  (Builtin.clear_ #[t] ty #[.slice (some ⟨b,o,none⟩) n c]).run P w= .ok (.tuple #[]) (w.setCells b o (Builtin.zeroCells z.cells n).toList):=by
 have hlen:(Builtin.zeroCells z.cells n).toList.length=n*z.cells.size:=by simp[Builtin.zeroCells]
 have hst:=run_storeCells_cells (P:=P) b o (Builtin.zeroCells z.cells n).toList 0 w (by rw[hlen];simpa using hc) (by rw[hlen];simpa using hf) (by
  intro v hv';simp[Builtin.zeroCells]at hv';obtain⟨k,_,rfl⟩:=hv';have hlt:k%z.cells.size<z.cells.size:=Nat.mod_lt _ hz;rw[getElem!_pos z.cells _ hlt];exact h1 _ (Array.getElem_mem hlt))
 simp only[Nat.add_zero]at hst;obtain⟨m,rfl⟩: ∃m,n=m+1:=⟨n-1,by omega⟩;simp[Builtin.clear_,run_underlying ht,hv,hst]
theorem ItemOk.gb {w w':World} {g:Nat} {it:NItem} (h:ItemOk w g it) (hg:w.grownBy w' (some g)):ItemOk w' g it:=⟨h.rd.gb h.ne hg,h.ne,h.le⟩
theorem qy {L:List NItem} {k:Nat} {a:NItem} (hQ: ∀j a b,j+1<k+1->L[j+1]?=some a->L[j]?=some b->sD a b=false) (hk:L[k]?=some a):bA L=L.take (k+1)++cY a (L.drop (k+1)):=by
 induction k generalizing a with
 |zero=>
  cases L with
  |nil=>simp at hk
  |cons b l=>simp at hk;subst hk;simp[bA]
 |succ k ih=>
  have hlt:k<L.length:=by have:=(List.getElem?_eq_some_iff.1 hk).1;omega
  obtain⟨b,hb⟩:=getElem?_of_lt hlt;have hlt2:=(List.getElem?_eq_some_iff.1 hk).1;have e:=hQ k a b (by omega) hk hb;rw[ih (fun j a b h=>hQ j a b (by omega)) hb];rw[List.drop_eq_getElem_cons hlt2];have e2:L[k+1]=a:=(List.getElem?_eq_some_iff.1 hk).2;rw[e2,cY,e];have e3:L.take (k+1+1)=L.take (k+1)++[a]:=by rw[List.take_succ_eq_append_getElem hlt2,e2]
  rw[e3]
  simp
theorem qz {L:List NItem} (hQ: ∀j a b,j+1<L.length->L[j+1]?=some a->L[j]?=some b->sD a b=false):bA L=L:=by
 cases hL:L with
 |nil=>rfl
 |cons a l=>
  have hlen:0<L.length:=by rw[hL];simp
  obtain⟨b,hb⟩:=getElem?_of_lt (l:=L) (k:=L.length-1) (by omega);have:=qy (k:=L.length-1) (fun j a b h=>hQ j a b (by omega)) hb;rw[show L.length-1+1=L.length from by omega,List.take_length,List.drop_length]at this;rw[hL]at this;rw[this];simp[cY]
theorem vw {L:List NItem} {m:Nat} {a b:NItem} (ha:L[m+1]?=some a) (e:sD a b=true):cY b (L.drop (m+1))=cY a (L.drop (m+1+1)):=by
 have hlt:=(List.getElem?_eq_some_iff.1 ha).1;rw[List.drop_eq_getElem_cons hlt,(List.getElem?_eq_some_iff.1 ha).2,cY,if_pos e]
theorem Fa {L:List NItem} {m:Nat} {a b:NItem} (ha:L[m+1]?=some a) (e:sD a b=false):cY b (L.drop (m+1))=a::cY a (L.drop (m+1+1)):=by
 have hlt:=(List.getElem?_eq_some_iff.1 ha).1;rw[List.drop_eq_getElem_cons hlt,(List.getElem?_eq_some_iff.1 ha).2,cY,if_neg (by simp[e])]
theorem Jp {L pre:List NItem} {m:Nat} (h:pre.length<=m):(pre++L.drop pre.length)[m]?=L[m]?:=by
 rw[ar h,List.getElem?_drop,Nat.add_sub_cancel' h]
theorem MB {L pre:List NItem} {a:NItem} (h:pre.length<L.length):(pre++L.drop pre.length).set pre.length a=(pre++[a])++L.drop (pre++[a]).length:=by
 have e:L.drop pre.length=L[pre.length]::L.drop (pre.length+1):=List.drop_eq_getElem_cons h;rw[List.set_append_right _ _ (Nat.le_refl _),Nat.sub_self,e,List.set_cons_zero]
 simp
theorem qZ (g cap:Nat) (L:List NItem) (bx sx so:Nat) (w:World) (hL:qr w g (cap*2) L) (hcap:L.length<=cap) (hlen:L.length<=4611686018427387904)
  (hok: ∀it∈L,ItemOk w g it) (h1:w.cell? ⟨bx,0,none⟩=some (.pointer (some ⟨sx,so,none⟩))) (h2:w.cell? ⟨sx,so+1,none⟩=some (.func (Fn.func 132) #[] #[])) (hbx:bx≠g) (hsx:sx≠g):
  Calls Tryz.prog 199 #[.slice (some ⟨g,0,none⟩) L.length cap,.func (Fn.func 200) #[] #[.pointer (some ⟨bx,0,none⟩)]] w fun e w'=>
   e= .returned (.slice (some ⟨g,0,none⟩) (bA L).length cap)/\qr w' g (cap*2) (bA L)/\w.grownBy w' (some g):=by
 have HL:=Lib.hid hL;have HOK:=Lib.hid hok;have HB1:=Lib.hid h1;have HB2:=Lib.hid h2;have HN1:=Lib.hid hbx;have HN2:=Lib.hid hsx;clear hL hok h1 h2 hbx hsx;have hz59: ∀w,(zeroValue 177).run Tryz.prog w= .ok (.agg #[.int .i64 0,.slice none 0 0]) w:=fun w=>by kernel_rfl
 have HZ:=Lib.hid hz59;clear hz59;by_cases hsz:L.length<2
 ·have HC:Hid (bA L=L):=Lib.hid (qz (fun j a b h=>by omega))
  go_enter Tryz.func199,Tryz.ntmps199
  go_wp2_with fail
  go_ret
  rw[HC.out];exact⟨rfl,HL.out,World.grownBy.refl _ _⟩
 have hszb:decide ((L.length:Int)<2)=false:=by simp;omega
 go_enter Tryz.func199,Tryz.ntmps199
 go_wp2_with fail
 clear hszb
 go_loopw [5,6,7] (fun i _ _ wr=> ∃k:Nat,1<=k/\k<=L.length/\i= .int .i64 k/\Hid (Ext w wr)/\Hid (∀j a b,j+1<k->L[j+1]?=some a->L[j]?=some b->sD a b=false)) (fun i _ _ _=>L.length-(intOf i).toNat)
 case atStart=>exact⟨1,by omega,by omega,rfl,Lib.hid (Ext.refl _),Lib.hid (fun j a b h=>by omega)⟩
 case round=>
  obtain⟨k,hk1,hk,rfl,HE,HQ⟩:=hrel;by_cases hlt:k<L.length
  ·obtain⟨a,ha⟩:=getElem?_of_lt hlt;obtain⟨b,hb⟩:=getElem?_of_lt (l:=L) (k:=k-1) (by omega);have HA:=Lib.hid ha;have HB:=Lib.hid hb;clear ha hb;have HL1:=Lib.hid (HL.out.ext (HE.out.drew));have t1:=HL1.out.cell0 HA.out;have t2:=HL1.out.cell1 HA.out;have t3:=HL1.out.cell0 HB.out;have t4:=HL1.out.cell1 HB.out;have HE1:=Lib.hid HE.out.drew;clear HE;have a1:IntKind.i64.wrap ((k:Int)-1)=(k:Int)-1:=IntWalk.i64_in _ (by omega);have a2:0<=(k:Int)-1:=by omega
   have a3:((k:Int)-1).toNat=k-1:=by omega
   have a4:(k:Int)-1<(L.length:Int):=by omega
   have a5:(1:Int)<=(k:Int):=by omega
   go_wp2_with fail
   refine cu 10 (by kernel_rfl) (by kernel_rfl) ?_;simp only[List.take_succ_cons,List.take_zero,List.drop_succ_cons,List.drop_zero];generalize wr.drew=w3 at*
   iterate 10 still_step
   refine wpStill_nil ?_;have HC:=Lib.hid (um a b bx sx so w3 g ((HOK.out a (ax HA.out)).ext HE1.out) ((HOK.out b (ax HB.out)).ext HE1.out) (HE1.out.cell HB1.out) (HE1.out.cell HB2.out));unfold NItem.agg at HC;clear t1 t2 t3 t4 HL1 a1 a2 a3 a4 a5;cases heq:sD a b with
   |false=>
    rw[heq]at HC;have HEQ:=Lib.hid heq;clear heq
    go_wp2_with fail
    refine HC.out.mono ?_;rintro e w' ⟨rfl,he⟩;have HE2:=Lib.hid (HE1.out.trans he);clear he
    go_wp2_with fail
    go_roundw
    case rel=>
     refine⟨k+1,by omega,by omega,by go_num,HE2,Lib.hid (fun j x y hj hx hy=>?_)⟩;by_cases e:j+1=k
     ·subst e;rw[HA.out]at hx;have hB:=HB.out;rw[show j+1-1=j from by omega,hy]at hB;cases hx;cases hB;exact HEQ.out
     exact HQ.out j x y (by omega) hx hy
    case measure=>simp[intOf];omega
   |true=>
    rw[heq]at HC;have HEQ:=Lib.hid heq;clear heq;have HCP:Hid (bA L=L.take k++cY a (L.drop (k+1))):=Lib.hid (by
     obtain⟨m,rfl⟩: ∃m,k=m+1:=⟨k-1,by omega⟩;rw[qy (k:=m) HQ.out HB.out,vw HA.out HEQ.out])
    go_wp2_with fail
    refine HC.out.mono ?_;rintro e w' ⟨rfl,he⟩;have HE2:=Lib.hid (HE1.out.trans he);clear he HC HE1
    go_wp2_with fail
    obtain⟨wo,rfl⟩: ∃wo:World,wo=wr:=⟨_,rfl⟩
    go_loopw [7,5] (fun s i wx=> ∃(j:Nat) (pre:List NItem) (last:NItem),1<=j/\j<=L.length-k/\s= .int .i64 j/\i= .int .i64 (pre.length:Nat)/\k<=pre.length/\pre.length+1<=k+j/\Hid (L[k+j-1]?=some last)/\Hid (bA L=pre++cY last (L.drop (k+j)))/\Hid (qr wx g (cap*2) (pre++L.drop pre.length))/\Hid (w.grownBy wx (some g))) (fun s _ _=>L.length-(intOf s).toNat)
    case atStart=>
     have hlt':(L.take k).length=k:=by rw[List.length_take];omega
     refine⟨1,L.take k,a,by omega,by omega,rfl,by rw[hlt'],by omega,by omega,Lib.hid (by rw[show k+1-1=k from by omega];exact HA.out),HCP,Lib.hid ?_,Lib.hid (gH HE2.out g)⟩;rw[hlt',List.take_append_drop];exact HL.out.ext HE2.out
    case round=>
     clear HE2 HCP HEQ HQ HA HB;obtain⟨j,pre,last,hj1,hj,rfl,rfl,hp1,hp2,HLA,HCP,HLS,HGB⟩:=hrel;by_cases hjl:j<L.length-k
     ·obtain⟨a2,ha2⟩:=getElem?_of_lt (l:=L) (k:=k+j) (by omega);have m1:(pre++L.drop pre.length)[k+j]?=some a2:=by rw[Jp (by omega)];exact ha2
      have m2:(pre++L.drop pre.length)[k+(j-1)]?=some last:=by rw[Jp (by omega),show k+(j-1)=k+j-1 from by omega];exact HLA.out
      have t1:=HLS.out.cell0 m1;have t2:=HLS.out.cell1 m1;have t3:=HLS.out.cell0 m2;have t4:=HLS.out.cell1 m2;rw[Nat.add_mul]at t1 t2 t3 t4;have HA2:=Lib.hid ha2;have HM1:=Lib.hid m1;clear ha2 m1 m2;have t1':wr.drew.cell? _=_:=t1;have t2':wr.drew.cell? _=_:=t2;have t3':wr.drew.cell? _=_:=t3;have t4':wr.drew.cell? _=_:=t4;have HGB1:Hid (w.grownBy wr.drew (some g)):=Lib.hid (iZ HGB.out (gH ((Ext.refl _).drew) g));have HLS1:Hid (qr wr.drew g (cap*2) (pre++L.drop pre.length)):=Lib.hid (HLS.out.ext ((Ext.refl _).drew));clear t1 t2 t3 t4 HGB HLS;have hjz:(j:Int)<((L.length-k:Nat):Int):=by omega
      have a1:IntKind.i64.wrap ((j:Int)-1)=(j:Int)-1:=IntWalk.i64_in _ (by omega);have a2':0<=(j:Int)-1:=by omega
      have a3:((j:Int)-1).toNat=j-1:=by omega
      have a4:(j:Int)-1<((L.length-k:Nat):Int):=by omega
      have a5:(1:Int)<=(j:Int):=by omega
      go_wp2_with fail
      refine cu 10 (by kernel_rfl) (by kernel_rfl) ?_;simp only[List.take_succ_cons,List.take_zero,List.drop_succ_cons,List.drop_zero];generalize wr.drew=w3 at*
      iterate 10 still_step
      refine wpStill_nil ?_;have HC:=Lib.hid (um a2 last bx sx so w3 g ((HOK.out a2 (ax HA2.out)).gb HGB1.out) ((HOK.out last (ax HLA.out)).gb HGB1.out) (oC HGB1.out HB1.out HN1.out) (oC HGB1.out HB2.out HN2.out));unfold NItem.agg at HC;clear t3' t4' a1 a2' a3 a4 a5;cases heq:sD a2 last with
      |true=>
       rw[heq]at HC;have HEQ:=Lib.hid heq;clear heq t1' t2'
       go_wp2_with fail
       refine HC.out.mono ?_;rintro e w4 ⟨rfl,he⟩;have HGB2:=Lib.hid (iZ HGB1.out (gH he g));have HLS2:=Lib.hid (HLS1.out.ext he);clear he
       go_wp2_with fail
       go_roundw
       case rel=>
        refine⟨j+1,pre,a2,by omega,by omega,by go_num,rfl,hp1,by omega,Lib.hid (by rw[show k+(j+1)-1=k+j from by omega];exact HA2.out),Lib.hid ?_,HLS2,HGB2⟩;obtain⟨m,hm⟩: ∃m,k+j=m+1:=⟨k+j-1,by omega⟩;have h1:=HA2.out;rw[hm]at h1;rw[HCP.out,hm,vw h1 HEQ.out,show k+(j+1)=m+1+1 from by omega]
       case measure=>simp[intOf];omega
      |false=>
       rw[heq]at HC;have HEQ:=Lib.hid heq;clear heq;have hpl:pre.length<L.length:=by omega
       have hpz:(pre.length:Int)<(L.length:Int):=by omega
       obtain⟨p,hp⟩: ∃p,p=pre.length:=⟨_,rfl⟩
       go_wp2_with fail
       refine HC.out.mono ?_;rintro e w4 ⟨rfl,he⟩;have HGB2:=Lib.hid (iZ HGB1.out (gH he g));have HLS2:=Lib.hid (HLS1.out.ext he);have s1:=he.cell t1';have s2:=he.cell t2';have hlm:pre.length<(pre++L.drop pre.length).length:=by rw[List.length_append,List.length_drop];omega
       obtain⟨q,hq⟩:=getElem?_of_lt hlm;have s3:=HLS2.out.cell0 hq;have s4:=HLS2.out.cell1 hq;have s5:=HLS2.out.frozen (pre.length*2);have s6:=HLS2.out.frozen (pre.length*2+1);have HSET:=Lib.hid (HLS2.out.set hlm a2);clear he t1' t2' hq hlm HC hp
       go_wp2_with fail
       go_roundw
       case rel=>
        refine⟨j+1,pre++[a2],a2,by omega,by omega,by go_num,by simp,by simp;omega,by simp;omega,Lib.hid (by rw[show k+(j+1)-1=k+j from by omega];exact HA2.out),Lib.hid ?_,Lib.hid ?_,Lib.hid (B5 (B5 HGB2.out _ _) _ _)⟩
        ·obtain⟨m,hm⟩: ∃m,k+j=m+1:=⟨k+j-1,by omega⟩;have h1:=HA2.out;rw[hm]at h1;rw[HCP.out,hm,Fa h1 HEQ.out,show k+(j+1)=m+1+1 from by omega]
         simp
        have:=HSET.out;rw[MB hpl]at this;exact this
       case measure=>simp[intOf];omega
     have hjl':j=L.length-k:=by omega
     have HF:Hid (bA L=pre):=Lib.hid (by rw[HCP.out,show k+j=L.length from by omega,List.drop_length];simp[cY]);have hpl:pre.length<L.length:=by omega
     have hcl: ∀ty,(Builtin.clear_ #[171] ty #[.slice (some ⟨g,pre.length*2,none⟩) (L.length-pre.length) (cap-pre.length)]).run Tryz.prog wr= .ok (.tuple #[]) (wr.setCells g (pre.length*2) (Builtin.zeroCells #[.int .i64 0,.slice none 0 0] (L.length-pre.length)).toList):=fun ty=>by
      obtain⟨f,f1,f2,f3⟩:=HLS.out;refine uY wr _ 177 ty (.agg #[.int .i64 0,.slice none 0 0]) Tryz.underlying171 HZ.out (by simp[Value.cells,Value.oneCell']) (by simp[Value.cells]) g _ _ _ (by omega) (fun j hj=>?_) (fun j hj=>f1.frozen _);simp[Value.cells]at hj;rw[f1.cell (by omega)];rfl
     have HCL:Hid (qr (wr.setCells g (pre.length*2) (Builtin.zeroCells #[.int .i64 0,.slice none 0 0] (L.length-pre.length)).toList) g (cap*2) pre):=Lib.hid (by
      obtain⟨f,f1,f2,f3⟩:=HLS.out;obtain⟨f',q1,q2,_⟩:=pf (Builtin.zeroCells #[.int .i64 0,.slice none 0 0] (L.length-pre.length)).toList (pre.length*2) wr f f1;refine⟨f',q1,by omega,fun i it hi=>?_⟩;have hlt:=(List.getElem?_eq_some_iff.1 hi).1;have:=f3 i it (by rw[aq hlt];exact hi);rw[q2 _ (by omega),q2 _ (by omega)];exact this)
     have HGB3:Hid (w.grownBy (wr.setCells g (pre.length*2) (Builtin.zeroCells #[.int .i64 0,.slice none 0 0] (L.length-pre.length)).toList) (some g)):=Lib.hid (qD (b:=wr) _ _ HGB.out);clear hjl'
     go_wp2_with fail
     go_ret
     rw[HF.out];exact⟨rfl,HCL.out,HGB3.out⟩
  have HC:Hid (bA L=L):=Lib.hid (qz (fun j a b h=>HQ.out j a b (by omega)))
  go_wp2_with fail
  go_ret
  rw[HC.out];exact⟨rfl,HL.out.ext HE.out,gH HE.out g⟩
end Go.Proofs.YtalmoejhjceflaaGreat
namespace Go.Proofs
open Go.Shelf
def Tryz.sortK_ren:Go.Shelf.Ren:=⟨fun|6=>198|15=>127|14=>229|28=>184|29=>185|20=>244|21=>245|22=>246|23=>247|24=>248|25=>249|26=>250|27=>251|46=>254|47=>216|48=>217|49=>255|50=>256|57=>257|n=>n,fun|22=>171|24=>177|25=>170|3=>3|39=>164|0=>0|53=>165|55=>116|4=>4|46=>213|45=>212|50=>51|5=>5|9=>9|66=>250|70=>254|76=>268|77=>269|n=>n,fun|n=>n⟩
theorem Tryz.sortK:Go.Proofs.SlLaysF0.n6 Tryz.prog Tryz.sortK_ren:={
 mixed:=by kernel_rfl
 f6:=⟨Tryz.f198.name,by decide,Tryz.func198.trans (congrArg some (by kernel_rfl))⟩
 f14:=⟨Tryz.f229.name,by decide,Tryz.func229.trans (congrArg some (by kernel_rfl))⟩
 f15:=Tryz.func127.trans (congrArg some (by kernel_rfl))
 f20:=⟨Tryz.f244.name,by decide,Tryz.func244.trans (congrArg some (by kernel_rfl))⟩
 f21:=⟨Tryz.f245.name,by decide,Tryz.func245.trans (congrArg some (by kernel_rfl))⟩
 f22:=⟨Tryz.f246.name,by decide,Tryz.func246.trans (congrArg some (by kernel_rfl))⟩
 f23:=⟨Tryz.f247.name,by decide,Tryz.func247.trans (congrArg some (by kernel_rfl))⟩
 f24:=⟨Tryz.f248.name,by decide,Tryz.func248.trans (congrArg some (by kernel_rfl))⟩
 f25:=⟨Tryz.f249.name,by decide,Tryz.func249.trans (congrArg some (by kernel_rfl))⟩
 f26:=⟨Tryz.f250.name,by decide,Tryz.func250.trans (congrArg some (by kernel_rfl))⟩
 f27:=⟨Tryz.f251.name,by decide,Tryz.func251.trans (congrArg some (by kernel_rfl))⟩
 f28:=Tryz.func184.trans (congrArg some (by kernel_rfl))
 f29:=Tryz.func185.trans (congrArg some (by kernel_rfl))
 f46:=⟨Tryz.f254.name,by decide,Tryz.func254.trans (congrArg some (by kernel_rfl))⟩
 f47:=Tryz.func216.trans (congrArg some (by kernel_rfl))
 f48:=Tryz.func217.trans (congrArg some (by kernel_rfl))
 f49:=⟨Tryz.f255.name,by decide,Tryz.func255.trans (congrArg some (by kernel_rfl))⟩
 f50:=⟨Tryz.f256.name,by decide,Tryz.func256.trans (congrArg some (by kernel_rfl))⟩
 f57:=⟨Tryz.f257.name,by decide,Tryz.func257.trans (congrArg some (by kernel_rfl))⟩
 t0:=Tryz.underlying0
 a0:=Tryz.isAgg0
 z0:=Tryz.sizeOf0
 v0:=Tryz.zeroValue0
 t3:=Tryz.underlying3
 a3:=Tryz.isAgg3
 z3:=Tryz.sizeOf3
 v3:=Tryz.zeroValue3
 t4:=Tryz.underlying4
 a4:=Tryz.isAgg4
 z4:=Tryz.sizeOf4
 v4:=Tryz.zeroValue4
 t5:=Tryz.underlying5
 a5:=Tryz.isAgg5
 z5:=Tryz.sizeOf5
 v5:=Tryz.zeroValue5
 t9:=Tryz.underlying9
 a9:=Tryz.isAgg9
 z9:=Tryz.sizeOf9
 v9:=Tryz.zeroValue9
 t22:=Tryz.underlying171
 a22:=Tryz.isAgg171
 z22:=Tryz.sizeOf171
 v22:=Tryz.zeroValue171
 t25:=Tryz.underlying170
 a25:=Tryz.isAgg170
 z25:=Tryz.sizeOf170
 v25:=Tryz.zeroValue170
 t39:=Tryz.underlying164
 a39:=Tryz.isAgg164
 z39:=Tryz.sizeOf164
 v39:=Tryz.zeroValue164
 t45:=Tryz.underlying212
 a45:=Tryz.isAgg212
 z45:=Tryz.sizeOf212
 v45:=Tryz.zeroValue212
 t46:=Tryz.underlying213
 a46:=Tryz.isAgg213
 z46:=Tryz.sizeOf213
 v46:=Tryz.zeroValue213
 t50:=Tryz.underlying51
 a50:=Tryz.isAgg51
 z50:=Tryz.sizeOf51
 v50:=Tryz.zeroValue51
 t53:=Tryz.underlying165
 a53:=Tryz.isAgg165
 z53:=Tryz.sizeOf165
 v53:=Tryz.zeroValue165
 t55:=Tryz.underlying116
 a55:=Tryz.isAgg116
 z55:=Tryz.sizeOf116
 v55:=Tryz.zeroValue116
 t66:=Tryz.underlying250
 a66:=Tryz.isAgg250
 z66:=Tryz.sizeOf250
 v66:=Tryz.zeroValue250
 t70:=Tryz.underlying254
 a70:=Tryz.isAgg254
 z70:=Tryz.sizeOf254
 v70:=Tryz.zeroValue254
 t76:=Tryz.underlying268
 a76:=Tryz.isAgg268
 z76:=Tryz.sizeOf268
 v76:=Tryz.zeroValue268
 t77:=Tryz.underlying269
 a77:=Tryz.isAgg269
 z77:=Tryz.sizeOf269
 v77:=Tryz.zeroValue269}
end Go.Proofs
namespace Go.Proofs.YtalmoejhjceflaaGreat
open Go.RowKit
section
open Go.Sort (flatK putRowK HoldsK get_flatK size_flatK)
def j2 (it:NItem):List Value:=[.int .i64 it.key,.slice it.at_ it.vals.length it.cap]
theorem xN {w:World} {g t N:Nat} {f:Nat->Value} (h:w.rowIs g t N f) (d:Array Value):(Sort.putRow id w g 0 d).rowIs g t N (fun k=>if k<d.size then d[k]! else f k):=by
 obtain⟨c,hb,hn,hc⟩:=h;refine⟨Sort.putCells id 0 d c,?_,by simp[Sort.putCells,hn],fun i hi=>?_⟩
 ·simp[Sort.putRow,Sort.mapBlock,Array.getElem?_modify,hb,Sort.onCells]
 simp[Sort.putCells,hc i hi]
theorem xH (w:World) (g:Nat) (d:Array Value) (k:Nat) (hk:k≠g):(Sort.putRow id w g 0 d).heap[k]?=w.heap[k]?:=by
 simp[Sort.putRow,Sort.mapBlock,Array.getElem?_modify,Ne.symm hk]
theorem qQ (w:World) (g:Nat) (d:Array Value):(Sort.putRow id w g 0 d).heap.size=w.heap.size:=by
 simp[Sort.putRow,Sort.mapBlock]
section
variable {α:Type} [Inhabited α] (enc:α->List Value) (w:World) (g n:Nat) (d:Array α) (os:Array Obj)
theorem Ar:w.grownBy (sortWorldK enc 2 w g 0 n d os) (some g):=by
 unfold sortWorldK putRowK;refine⟨rfl,rfl,rfl,?_,fun k hk hne=>?_⟩
 ·show w.heap.size<=((Sort.putRow id (Sort.ahead w n) g 0 _).heap++os).size;rw[Array.size_append,qQ];exact Nat.le_add_right _ _
 show((Sort.putRow id (Sort.ahead w n) g 0 _).heap++os)[k]?=w.heap[k]?;rw[Array.getElem?_append_left (by rw[qQ];exact hk),xH _ _ _ _ (fun e=>hne (by rw[e]))];rfl
theorem Gm {t N:Nat} {f:Nat->Value} (h:w.rowIs g t N f):(sortWorldK enc 2 w g 0 n d os).rowIs g t N (fun k=>if k<(flatK enc 2 d).size then(flatK enc 2 d)[k]! else f k):=by
 have h1:=xN (w:=Sort.ahead w n) h (flatK enc 2 d);refine h1.of_block ?_;unfold sortWorldK putRowK;show((Sort.putRow id (Sort.ahead w n) g 0 _).heap++os)[g]?=_;rw[Array.getElem?_append_left h1.lt]
end
structure pD (w:World) (g:Nat) where
 it:NItem
 ok:ItemOk w g it
instance (w:World) (g:Nat):Inhabited (pD w g):=⟨⟨⟨0,[],none,0⟩,⟨RdI.nil _ _ _,(by intro p h;cases h),by simp⟩⟩⟩
def ov (w:World) (g:Nat) (x:pD w g):List Value:=j2 x.it
def mO (w:World) (g:Nat) (L:List NItem) (h: ∀it∈L,ItemOk w g it):Array (pD w g):=(L.attach.map fun x=>(⟨x.1,h x.1 x.2⟩:pD w g)).toArray
theorem iV {w:World} {g:Nat} {L:List NItem} (h: ∀it∈L,ItemOk w g it):(mO w g L h).size=L.length:=by
 unfold mO;rw[List.size_toArray,List.length_map,List.length_attach]
theorem rY {w:World} {g:Nat} {L:List NItem} (h: ∀it∈L,ItemOk w g it):(mO w g L h).toList.map (fun x:pD w g=>x.it)=L:=by
 unfold mO;rw[List.map_map];exact List.attach_map_subtype_val L
theorem DN {w:World} {g:Nat} (d:Array (pD w g)) {j:Nat} {it:NItem} (hj:(d.toList.map (fun x:pD w g=>x.it))[j]?=some it):
  (flatK (ov w g) 2 d)[j*2]! = .int .i64 it.key/\(flatK (ov w g) 2 d)[j*2+1]! =it.val:=by
 have hlt:j<d.size:=by have:=(List.getElem?_eq_some_iff.1 hj).1;simpa using this
 have he:d[j]!.it=it:=by
  have:d.toList[j]?=some d[j]!:=by simp[hlt]
  rw[az,this]at hj;simpa using hj
 constructor
 ·rw[get_flatK _ _ _ _ (by omega),show j*2/2=j from by omega,show j*2%2=0 from by omega];simp[ov,j2,he]
 rw[get_flatK _ _ _ _ (by omega),show(j*2+1)/2=j from by omega,show(j*2+1)%2=1 from by omega];simp[ov,j2,he,NItem.val]
theorem xg {w:World} {g N:Nat} {L:List NItem} (hL:qr w g N L) (h: ∀it∈L,ItemOk w g it):HoldsK (ov w g) 2 w g 0 (mO w g L h):=by
 obtain⟨f,h1,h2,h3⟩:=hL;intro t ht;rw[size_flatK,iV]at ht;have hj:t/2<L.length:=by omega
 obtain⟨it,hit⟩:=getElem?_of_lt hj;have hfl:=DN (mO w g L h) (j:=t/2) (it:=it) (by rw[rY];exact hit);obtain⟨q1,q2⟩:=h3 _ _ hit;rw[Nat.zero_add];refine⟨?_,h1.frozen t⟩;rw[h1.cell (by omega)];rcases Nat.mod_two_eq_zero_or_one t with e|e
 ·rw[show t=t/2*2 from by omega,hfl.1,q1];rfl
 rw[show t=t/2*2+1 from by omega,hfl.2,q2];rfl
theorem ItemOk.sortW {w:World} {g n:Nat} {d:Array (pD w g)} {os:Array Obj} {it:NItem} (h:ItemOk w g it):ItemOk (sortWorldK (ov w g) 2 w g 0 n d os) g it:=h.gb (Ar _ _ _ _ _ _)
theorem Bz (w:World) (g size:Nat):CmpLays Tryz.prog 132 #[] (ov w g) 2 (fun a b=>gm a.it b.it) g 0 size w:=fun m os dk hs x y=>
 jp x.it.key y.it.key x.it.at_ y.it.at_ x.it.cap y.it.cap x.it.vals y.it.vals _ x.ok.sortW.rd y.ok.sortW.rd x.ok.le y.ok.le
def nQ (L:List NItem):Prop:= ∀(i j:Nat) a b,i<j->L[i]?=some a->L[j]?=some b-> ¬gm b a<0
theorem x4 (g cap:Nat) (L:List NItem) (w:World) (hL:qr w g (cap*2) L) (hlen:L.length<4611686018427387904) (hok: ∀it∈L,ItemOk w g it):
  Calls Tryz.prog 198 #[.slice (some ⟨g,0,none⟩) L.length cap,.func (Fn.func 132) #[] #[]] w fun e w'=>
   ∃L',e= .returned (.tuple #[])/\L'.Perm L/\nQ L'/\qr w' g (cap*2) L'/\w.grownBy w' (some g):=by
 have eg: ∀args w,(callFunc 132 args).run Tryz.prog w= .ok (.enter 132 args) w:=enters_of Tryz.func132 (by kernel_rfl) rfl;obtain⟨f,h1,h2,h3⟩:=hL;have hlt:=h1.lt;have hcon:=AnyQ.slices_SortFunc (α:=pD w g) Tryz.sortK 2 (fun w=>by kernel_rfl) (fun w=>by kernel_rfl) (ov w g) (fun _=>rfl) (fun x v hv=>by simp[ov,j2]at hv;rcases hv with rfl|rfl<;>rfl) (fun a b=>gm a.it b.it) (RX fun x:pD w g=>x.it) 132 #[] g 0 cap (mO w g L hok) w eg (Bz w g _) (xg ⟨f,h1,h2,h3⟩ hok) hlt (by rw[iV];exact hlen)
 change Calls Tryz.prog 198 _ _ _ at hcon
 rw[iV]at hcon;refine hcon.mono fun e w' ⟨he,d',n,os,hp,hs,hw⟩=>?_
 obtain⟨hsz,_,hperm⟩:=hp;rw[iV]at hsz;have hlen':(d'.toList.map (fun x:pD w g=>x.it)).length=L.length:=by simp[hsz]
 refine⟨d'.toList.map (fun x:pD w g=>x.it),he,?_,?_,?_,by rw[hw];exact Ar _ _ _ _ _ _⟩
 ·have hp2:d'.toList.Perm (mO w g L hok).toList:=by
   have e1:d'.extract 0 L.length=d':=by rw[<- hsz];simp
   have e2:(mO w g L hok).extract 0 L.length=mO w g L hok:=by
    have:=iV hok;rw[<- this];simp
   rw[e1,e2]at hperm;exact hperm
  have:=hp2.map (fun x:pD w g=>x.it);rw[rY]at this;exact this
 ·intro i j a b hij ha hb;have hj:j<d'.size:=by have:=(List.getElem?_eq_some_iff.1 hb).1;simpa using this
  have ea:d'[i]!.it=a:=by
   have:d'.toList[i]?=some d'[i]!:=by simp[show i<d'.size by omega]
   rw[az,this]at ha;simpa using ha
  have eb:d'[j]!.it=b:=by
   have:d'.toList[j]?=some d'[j]!:=by simp[hj]
   rw[az,this]at hb;simpa using hb
  have:=hs i j (Nat.zero_le _) hij (by omega);unfold ltOf at this;rw[decide_eq_false_iff_not]at this
  change ¬gm d'[j]!.it d'[i]!.it<0 at this
  rw[ea,eb]at this;exact this
 rw[hw];refine⟨_,Gm _ _ _ _ _ _ h1,by rw[hlen'];exact h2,fun j it hj=>?_⟩;have hlt2:j<d'.size:=by have:=(List.getElem?_eq_some_iff.1 hj).1;simpa using this
 obtain⟨q1,q2⟩:=DN d' hj;rw[if_pos (by rw[size_flatK];omega),if_pos (by rw[size_flatK];omega)];exact⟨q1,q2⟩
theorem Kn (sx g cap:Nat) (L:List NItem) (w:World) (hL:qr w g (cap*2) L) (hcap:L.length<=cap) (hlen:L.length<=4611686018427387903) (hok: ∀it∈L,ItemOk w g it)
  (hS:w.rowIs sx 173 2 (fun j=>if j=0 then .slice (some ⟨g,0,none⟩) L.length cap else .func (Fn.func 132) #[] #[])) (hsx:sx≠g):
  Calls Tryz.prog 136 #[.pointer (some ⟨sx,0,none⟩)] w fun e w'=>
   ∃L',e= .returned (.tuple #[])/\L'.Perm L/\nQ L'/\qr w' g (cap*2) (bA L')/\w'.cell? ⟨sx,0,none⟩=some (.slice (some ⟨g,0,none⟩) (bA L').length cap)/\w'.rowIs sx 173 2 (fun j=>if j=0 then .slice (some ⟨g,0,none⟩) (bA L').length cap else .func (Fn.func 132) #[] #[])/\
    (∀k,k<w.heap.size->k≠g->k≠sx->w'.heap[k]?=w.heap[k]?)/\w.heap.size<=w'.heap.size/\w'.os=w.os/\w'.tape=w.tape/\w'.output=w.output:=by
 have HL:=Lib.hid hL;have HOK:=Lib.hid hok;have HS:=Lib.hid hS;have HN:=Lib.hid hsx;have hglt:g<w.heap.size:=by obtain⟨f,h1,_⟩:=hL;exact h1.lt
 have hslt:=hS.lt;clear hL hok hS hsx
 go_enter Tryz.func136,Tryz.ntmps136
 go_wp2_with fail
 have c0:(w.alloc (.cells #[.pointer (some ⟨sx,0,none⟩)] 237)).drew.cell? ⟨w.heap.size,0,none⟩=some (.pointer (some ⟨sx,0,none⟩)):=by go_simp
 have HE0:Hid (Ext w (w.alloc (.cells #[.pointer (some ⟨sx,0,none⟩)] 237)).drew):=Lib.hid ((Ext.refl _).alloc _).drew;have hz0:w.heap.size<(w.alloc (.cells #[.pointer (some ⟨sx,0,none⟩)] 237)).drew.heap.size:=by simp[World.drew]
 generalize w.alloc (.cells #[.pointer (some ⟨sx,0,none⟩)] 237)=w1 at*
 refine cu 8 (by kernel_rfl) (by kernel_rfl) ?_;simp only[List.take_succ_cons,List.take_zero,List.drop_succ_cons,List.drop_zero];generalize w1.drew=w2 at*
 have s0:w2.cell? ⟨sx,0,none⟩=some (.slice (some ⟨g,0,none⟩) L.length cap):=(ct HS.out HE0.out).cell (by omega);have s1:w2.cell? ⟨sx,1,none⟩=some (.func (Fn.func 132) #[] #[]):=(ct HS.out HE0.out).cell (by omega)
 iterate 8 still_step
 refine wpStill_nil ?_;have HC:=Lib.hid (x4 g cap L w2 (HL.out.ext HE0.out) (by omega) (fun it hit=>(HOK.out it hit).ext HE0.out));clear s1
 go_wp2_with fail
 refine HC.out.mono ?_;rintro e w3 ⟨L',rfl,hperm,hsorted,hlst,hgb⟩;have HP:=Lib.hid hperm;have HSO:=Lib.hid hsorted;have HLS:=Lib.hid hlst;have HG3:=Lib.hid hgb;have HLL:Hid (L'.length=L.length):=Lib.hid hperm.length_eq;clear hperm hsorted hlst hgb HC s0
 go_wp2_with fail
 have HOK3:Hid (∀it∈L',ItemOk w3 g it):=Lib.hid (fun it hit=>((HOK.out it (HP.out.subset hit)).ext HE0.out).gb HG3.out);have HS3:Hid (w3.rowIs sx 173 2 (fun j=>if j=0 then .slice (some ⟨g,0,none⟩) L.length cap else .func (Fn.func 132) #[] #[])):=Lib.hid ((ct HS.out HE0.out).of_block (HG3.out.block sx (Nat.lt_of_lt_of_le hslt HE0.out.size) (fun e=>HN.out (by injection e))));have d0:w3.cell? ⟨w.heap.size,0,none⟩=some (.pointer (some ⟨sx,0,none⟩)):=oC HG3.out c0 (by show w.heap.size≠g;omega);have d1:w3.cell? ⟨sx,0,none⟩=some (.slice (some ⟨g,0,none⟩) L.length cap):=HS3.out.cell (by omega);have d2:w3.frozen? ⟨sx,0,none⟩=false:=HS3.out.frozen 0;have hcon:=qZ g cap L' w.heap.size sx 0 w3.drew (HLS.out.ext ((Ext.refl _).drew)) (by rw[HLL.out];exact hcap) (by rw[HLL.out];omega) (fun it hit=>(HOK3.out it hit).ext ((Ext.refl _).drew)) d0 (show w3.drew.cell? ⟨sx,0+1,none⟩=_ from HS3.out.cell (i:=1) (by omega)) (by omega) HN.out;rw[HLL.out]at hcon;have HC:=Lib.hid hcon;clear hcon c0;have HG4:Hid (w2.grownBy w3.drew (some g)):=Lib.hid (iZ HG3.out (gH ((Ext.refl _).drew) g))
 go_region_law (go_simp;go_at_call 199;refine HC.out.mono ?_;rintro e w5 ⟨rfl,hlst,hgb⟩;have HLS5:=Lib.hid hlst;have HG5:=Lib.hid hgb;have HS5:Hid (w5.rowIs sx 173 2 (fun j=>if j=0 then .slice (some ⟨g,0,none⟩) L.length cap else .func (Fn.func 132) #[] #[])):=Lib.hid (HS3.out.of_block (hgb.block sx HS3.out.lt (fun e=>HN.out (by injection e))));have f0:w5.cell? ⟨w.heap.size,0,none⟩=some (.pointer (some ⟨sx,0,none⟩)):=oC hgb d0 (by show w.heap.size≠g;omega);have f1:w5.cell? ⟨sx,0,none⟩=some (.slice (some ⟨g,0,none⟩) L.length cap):=HS5.out.cell (by omega);have f2:w5.frozen? ⟨sx,0,none⟩=false:=HS5.out.frozen 0;clear hlst hgb)
 all_goals
  go_wp2_with fail
  go_end0
  have hrow:=(HS5.out.set 0 (.slice (some ⟨g,0,none⟩) (bA L').length cap)).congr (g:=fun j=>if j=0 then .slice (some ⟨g,0,none⟩) (bA L').length cap else .func (Fn.func 132) #[] #[]) (fun j hj=>by
   match j,hj with
   |0,_=>rfl
   |1,_=>rfl)
  have hgg:=iZ (iZ (gH HE0.out g) HG4.out) HG5.out;refine⟨L',rfl,HP.out,HSO.out,?_,hrow.cell (by omega),hrow,fun k hk hkg hks=>?_,?_,hgg.os,hgg.tape,hgg.output⟩
  ·obtain⟨f,q1,q2,q3⟩:=HLS5.out;exact⟨f,q1.setOther (Ne.symm HN.out) _,q2,q3⟩
  ·rw[Below.heap_setCell _ _ _ _ hks];exact hgg.block k hk (fun e=>hkg (by injection e))
  simpa[World.setCell] using hgg.size
end
end Go.Proofs.YtalmoejhjceflaaGreat
