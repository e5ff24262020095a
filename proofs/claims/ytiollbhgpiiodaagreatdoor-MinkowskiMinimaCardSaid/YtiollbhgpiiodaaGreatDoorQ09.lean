/-
  Part 10 of a proof (walks and plain facts).
-/
import Derived.Test.YtiollbhgpiiodaaGreatDoorQ08
import Derived.Scope
set_option linter.all false
set_option maxRecDepth 100000
set_option maxHeartbeats 64000000
open List renaming all_eq_true → ai
open List renaming mem_map → ak
open List renaming mem_of_getElem? → aw
open List renaming getElem?_map → az
namespace Go.Proofs.YtiollbhgpiiodaaGreatDoor
open Go.RowKit
section
def jA:TV->Bool
 | .one (.p _)=>true
 | .agg cs=>cs.all isPure
 |_=>false
theorem wq {ρ ρ':Rho} {H H':OH} {Y Y':Nat->Prop} {w:World} {t:TV} {v:Value} (hY:Y'=Y) (hn:jA t=true) (h:t.rel ρ H Y w v):t.rel ρ' H' Y' w v:=by
 subst hY;refine sG ?_ h;unfold jA at hn;split at hn
 ·rfl
 ·rename_i cs;simp only[noRefTV,ai]at hn⊢;intro x hx;have:=hn x hx;cases x<;>first|rfl|cases this
 cases hn
def q9 (k:Nat):Nat->List TV->Bool
 |_,[]=>true
 |i,t::l=>(i==k||jA t)&&q9 k (i+1) l
theorem wn {k:Nat}: ∀{l:List TV} {i j:Nat} {t:TV},q9 k i l=true->i+j≠k->l[j]?=some t->jA t=true
 |[],_,_,_,_,_,h=>by simp at h
 |u::l,i,0,t,h,hj,ht=>by
  simp at ht;subst ht;simp only[q9,Bool.and_eq_true,Bool.or_eq_true,beq_iff_eq]at h;exact h.1.resolve_left (fun e=>hj (by rw[e,Nat.add_zero]))
 |u::l,i,j+1,t,h,hj,ht=>by
  simp only[q9,Bool.and_eq_true]at h;exact wn (i:=i+1) (j:=j) h.2 (by omega) (by simpa using ht)
theorem pZ {k:Nat} {args:List TV} (h:q9 k 0 args=true): ∀(j:Nat) t,j≠k->args[j]?=some t->jA t=true:=fun j t hj ht=>wn (i:=0) (j:=j) h (by omega) ht
theorem eW {α:Type} (f:α->List PV) (l:List α): ∀e∈lc f l,∀x∈e,isPure x=true:=fun e he x hx=>by
 simp only[lc,ak]at he;obtain⟨y,_,rfl⟩:=he;simp only[ak]at hx;obtain⟨z,_,rfl⟩:=hx;rfl
theorem iw (F:List OObj):Hm [(0,F)]=famH 0 F:=by funext x;simp[Hm,famH]
section
variable {P:Program} {s:AS} {a:Act} {w0 w:World} {O X:Nat->Prop}
theorem Og (hrel:fW w0 O X s a w) {o:Oper} {c:Call} {f:FuncId} (ho:o.op= .call c) (hcal:c.callee= .value (.func f)) {args:List TV} {k off len fa fr:Nat} {o0 o':OObj} {r:TV} (hcon:tf P f args k off len o0 o' r) (hfa:fa<=4999) (hk:k<args.length) (hlen:0<len)
  (hev:f6 s.ev c.args.toList=some (args.set k (.one (.sl fa fr off len)))) (hpure: ∀(j:Nat) t,j≠k->args[j]?=some t->jA t=true) (hrow:(s.H fa)[fr]?=some o0) (hop: ∀e∈o0.elems,∀x∈e,isPure x=true) {K:Act->World->Prop} {Q:Exit->Act->World->Prop}
  (hK: ∀v w',fW w0 O X (AS.put ⟨s.tmps,be s.H fa ((s.H fa).set fr o')⟩ o.dst r) (a.put o.dst v) w'->K (a.put o.dst v) w'):o.wp P a w K Q:=by
 obtain⟨h1,hsz,ρ,hinv,htm⟩:=hrel;have htm:bY X ρ s a w:=htm;obtain⟨e1,e2⟩:=dm hev;have hk1:(args.set k (.one (.sl fa fr off len)))[k]?=some (.one (.sl fa fr off len)):=List.getElem?_set_self hk;obtain⟨x,hx,hxt⟩:=e2 k _ hk1;obtain⟨o1,g1,g2,g3⟩:=cz htm x _ hxt;rw[hrow]at g1;injection g1 with g1
 subst g1;obtain⟨b,cc,hρ,hv⟩: ∃b cc,ρ fa fr=some (b,cc)/\a.eval x= .slice (some ⟨b,off*o0.es,none⟩) len (cc-off):=by
  rcases g3 with⟨_,_,g4,_⟩|⟨b,cc,cap,g3,g5,_,g6⟩
  ·omega
  exact⟨b,cc,g3,by rw[g5,g6 hfa]⟩
 have hob:=hinv.objs fa fr o0 hrow;have hXb:Xo X ρ s.H b:= .inr ⟨fa,fr,o0,cc,hrow,hρ⟩;have hset:(fun j=>(Xo X ρ s.H j/\j≠b)\/j=b)=Xo X ρ s.H:=by
  funext j;apply propext;constructor
  ·rintro(h|rfl)
   ·exact h.1
   exact hXb
  intro h;by_cases hj:j=b
  ·exact .inr hj
  exact .inl ⟨h,hj⟩
 have hXlt: ∀j,Xo X ρ s.H j->j<w.heap.size:=fun b hb=>by
  rcases hb with hb|⟨x,y,o',n,g1,g2⟩
  ·exact hinv.bar b hb
  exact bP (hinv.objs x y o' g1) g2
 have hrun:=iD (w:=w) ho hcal (e:=a.eval) rfl hcon.able;unfold Oper.wp;rw[hrun];simp only[Oper.upon];have hsize:c.args.size=args.length:=by simpa using e1.symm
 refine(hcon.calls (fun j=>Xo X ρ s.H j/\j≠b) w (c.args.map a.eval) b cc (fun j hj=>hXlt j hj.1) (fun h=>h.2 rfl) ?_ (by simp[hsize]) ?_ ?_).mono ?_
 ·rw[hset];exact nQ hop hob (by simp[rho1,hρ])
 ·rw[Array.getElem?_map];have:c.args[k]?=some x:=by simpa using hx
  rw[this];exact congrArg some hv
 ·intro j t hj ht;rw[hset];have ht2:(args.set k (.one (.sl fa fr off len)))[j]?=some t:=by rw[List.getElem?_set_ne (Ne.symm hj)];exact ht
  obtain⟨y,hy,hyt⟩:=e2 j t ht2;refine⟨a.eval y,?_,wq rfl (hpure j t hj ht) (cz htm y t hyt)⟩;rw[Array.getElem?_map];have:c.args[j]?=some y:=by simpa using hy
  rw[this];rfl
 rintro e w1 ⟨v,rfl,hbut,hob1,hr1⟩;show K (a.put o.dst v) w1;refine hK v w1 ?_;rw[hset]at hob1 hr1;have hfr:=(List.getElem?_eq_some_iff.1 hrow).1;have hnew: ∀(x y:Nat) o1,(be s.H fa ((s.H fa).set fr o') x)[y]?=some o1->(x=fa/\y=fr/\o1=o')\/(¬(x=fa/\y=fr)/\(s.H x)[y]?=some o1):=fun x y o1 h=>by
  by_cases hx:x=fa
  ·subst hx;rw[bF]at h;by_cases hy:y=fr
   ·subst hy;rw[List.getElem?_set_self hfr]at h;injection h with h
    exact .inl ⟨rfl,rfl,h.symm⟩
   rw[List.getElem?_set_ne (Ne.symm hy)]at h;exact .inr ⟨fun h=>hy h.2,h⟩
  rw[aZ hx]at h;exact .inr ⟨fun h=>hx h.1,h⟩
 have hlive: ∀(x y:Nat) o1,(s.H x)[y]?=some o1-> ∃o2,(be s.H fa ((s.H fa).set fr o') x)[y]?=some o2/\o2.es=o1.es/\o1.elems.length<=o2.elems.length/\ρ x y=ρ x y:=fun x y o1 h=>by
  by_cases hx:x=fa
  ·subst hx;by_cases hy:y=fr
   ·subst hy;rw[hrow]at h;injection h with h
    subst h;exact⟨o',by rw[bF,List.getElem?_set_self hfr],hcon.es,by rw[hcon.size];exact Nat.le_refl _,rfl⟩
   exact⟨o1,by rw[bF,List.getElem?_set_ne (Ne.symm hy)];exact h,rfl,Nat.le_refl _,rfl⟩
  exact⟨o1,by rw[aZ hx];exact h,rfl,Nat.le_refl _,rfl⟩
 have hback: ∀(x y:Nat) o1,(be s.H fa ((s.H fa).set fr o') x)[y]?=some o1-> ∃o2,(s.H x)[y]?=some o2:=fun x y o1 h=>by
  rcases hnew x y o1 h with⟨rfl,rfl,_⟩|⟨_,h⟩
  ·exact⟨o0,hrow⟩
  exact⟨o1,h⟩
 have hXo:Xo X ρ (be s.H fa ((s.H fa).set fr o'))=Xo X ρ s.H:=by
  funext j;apply propext;constructor
  ·rintro(h|⟨x,y,o1,n,h1,h2⟩)
   ·exact .inl h
   obtain⟨o2,h3⟩:=hback x y o1 h1;exact .inr ⟨x,y,o2,n,h3,h2⟩
  rintro(h|⟨x,y,o1,n,h1,h2⟩)
  ·exact .inl h
  obtain⟨o2,h3,_⟩:=hlive x y o1 h1;exact .inr ⟨x,y,o2,n,h3,h2⟩
 have mono: ∀x u,AV.rel ρ s.H (Xo X ρ s.H) w x u->AV.rel ρ (be s.H fa ((s.H fa).set fr o')) (Xo X ρ (be s.H fa ((s.H fa).set fr o'))) w1 x u:=fun x u hx=>
  qw hXb hbut hlive (fun x y o1 b' c' h1 h2 _=>by
   obtain⟨o2,h3⟩:=hback x y o1 h1;exact .inr ⟨x,y,o2,c',h3,h2⟩) hx
 have hinv':Inv w0 O X (be s.H fa ((s.H fa).set fr o')) ρ w1:=by
  refine⟨hinv.keep.but hbut (hinv.old fa fr o0 b cc hrow hρ).1,fun x y o1 h=>?_,fun x y x' y' o1 o2 j c1 c2 h h' q q'=>?_,fun x y o1 j c1 h q=>?_,fun j hj=>Nat.lt_of_lt_of_le (hinv.bar j hj) hbut.size,fun x y o1 h=>?_⟩
  ·rcases hnew x y o1 h with⟨rfl,rfl,rfl⟩|⟨hne,h⟩
   ·rw[hXo];exact nQ hcon.pure hob1 (by simp[rho1,hρ])
   refine fH (hinv.objs x y o1 h) rfl (fun j c1 hj=>?_) mono;refine hbut.block j (bP (hinv.objs x y o1 h) hj) ?_;rintro rfl;exact hne (hinv.inj x y fa fr o1 o0 j c1 cc h hrow hj hρ)
  ·obtain⟨o3,h3⟩:=hback x y o1 h;obtain⟨o4,h4⟩:=hback x' y' o2 h';exact hinv.inj x y x' y' o3 o4 j c1 c2 h3 h4 q q'
  ·obtain⟨o3,h3⟩:=hback x y o1 h;exact hinv.old x y o3 j c1 h3 q
  rcases hnew x y o1 h with⟨rfl,rfl,rfl⟩|⟨hne,h⟩
  ·exact dK hcon.pure
  exact hinv.self x y o1 h
 have htm':bY X ρ ⟨s.tmps,be s.H fa ((s.H fa).set fr o')⟩ a w1:=fun t x hx=>by
  obtain⟨u,u1,u2⟩:=htm t x hx;exact⟨u,u1,TV.rel_map u2 mono⟩
 refine⟨by rw[iS];exact h1,by rw[lT,gB];exact hsz,ρ,by rw[jC];exact hinv',sM hsz htm' ?_⟩;show r.rel ρ (be s.H fa ((s.H fa).set fr o')) (Xo X ρ (be s.H fa ((s.H fa).set fr o'))) w1 v;rw[hXo];exact sG hcon.noref hr1
def cwTs (ops:Array Oper) (m:Nat) (s:AS):Option (FuncId×List TV):=match ops[m]? with
 |some o=>match o.guard,o.op with
  |none,.call c=>match c.callee with
   | .value (.func f)=>match f6 s.ev c.args.toList with
    |some ts=>some (f,ts)
    |none=>none
   |_=>none
  |_,_=>none
 |none=>none
def cwD (ops:Array Oper) (m:Nat):Option Tmp:=(ops[m]?).bind (·.dst)
def SS (ops:Array Oper) (m:Nat) (r:TV) (fa fr:Nat) (o':OObj) (s:AS):AS:=AS.put ⟨s.tmps,be s.H fa ((s.H fa).set fr o')⟩ (cwD ops m) r
structure R4 (ops:Array Oper) (m:Nat) (f:FuncId) (args:List TV) (k off len fa fr:Nat) (o0:OObj) (s:AS):Prop where
 ts:cwTs ops m s=some (f,args.set k (.one (.sl fa fr off len)))
 row:(s.H fa)[fr]?=some o0
theorem xy (m:Nat) {f:FuncId} {args:List TV} {k off len:Nat} {o0 o':OObj} {r:TV} (hcon:tf P f args k off len o0 o' r) (fa fr:Nat) (items:List (aM P)) (ow:List Nat) {id:Nat} {ops:Array Oper} {Q:Exit->AS->Prop} (hk:k<args.length) (hlen:0<len) (hpure: ∀(j:Nat) t,j≠k->args[j]?=some t->jA t=true) (hop: ∀e∈o0.elems,∀x∈e,isPure x=true) (hl:s.tmps.length<=1000000) (hm:m<ops.toList.length)
  (h:bD P (items.map aM.a) ow (aY ops (ops.toList.take m) 0) (some s) (fun s1=>R4 ops m f args k off len fa fr o0 s1/\s1.tmps.length<=1000000/\bD P (items.map aM.a) ow (aY ops (ops.toList.drop (m+1)) (m+1)) (some (SS ops m r fa fr o' s1)) (Q .normal))) (hfa:fa<=4999):bL P (.region id ops false) Q s:=fun w0 O X a w r0=>by
 obtain⟨s1,h1,⟨q1,q2⟩,hl1,h2⟩:=bK P (items.map aM.a) ow ops _ 0 s _ h;obtain⟨s',h3,h4⟩:=bK P (items.map aM.a) ow ops _ (m+1) _ _ h2;obtain⟨o,ho⟩: ∃o,ops[m]?=some o:=⟨ops[m],by simp at hm;simp[hm]⟩;unfold cwTs at q1;rw[ho]at q1;simp only at q1;split at q1
 ·rename_i c hg hop1;split at q1
  ·rename_i f' hcal;split at q1
   ·rename_i ts hts;injection q1 with q1
    injection q1 with q1 q3
    subst q1 q3;refine wp_region ?_;have hsz:ops.size=(ops.toList.take m).length+(1+(ops.toList.drop (m+1)).length):=by simp at hm⊢;omega
    rw[hsz,List.range_eq_range',<- List.range'_append_1,Nat.zero_add];have hml:(ops.toList.take m).length=m:=by rw[List.length_take];omega
    refine iC (aM.ok items) (ops.toList.take m) 0 s s1 a w (fun j o hj=>?_) h1 r0 fun a' w' r'=>?_
    ·rw[List.getElem?_take]at hj;split at hj
     ·simpa using hj
     cases hj
    rw[hml,Nat.add_comm 1,List.range'_succ];simp only[wpOps,ho];rw[if_pos (by simp[Region.wanted,hg])];refine .inl (Og r' hop1 hcal hcon hfa hk hlen hts hpure q2 hop fun v w1 hr1=>?_);refine eZ (aM.ok items) (Q:=fun e a' w'=> ∃s',Q e s'/\fW w0 O X s' a' w') (ops.toList.drop (m+1)) (m+1) _ s' _ _ (fun j o hj=>?_) h3 ?_ (fun a' w' hr=>⟨s',h4,hr⟩)
    ·rw[List.getElem?_drop]at hj;simpa using hj
    have:cwD ops m=o.dst:=by unfold cwD;rw[ho];rfl
    unfold SS;rw[this];exact hr1
   cases q1
  cases q1
 cases q1
theorem uN (m:Nat) {f:FuncId} {args:List TV} {k off len:Nat} {o0 o':OObj} {r:TV} (hcon:tf P f args k off len o0 o' r) (fa fr:Nat) (items:List (aM P)) (ow:List Nat) {id:Nat} {ops:Array Oper} {y:Code} {Q:Exit->AS->Prop} (hk:k<args.length) (hlen:0<len) (hpure: ∀(j:Nat) t,j≠k->args[j]?=some t->jA t=true) (hop: ∀e∈o0.elems,∀x∈e,isPure x=true) (hl:s.tmps.length<=1000000) (hm:m<ops.toList.length)
  (h: ∀K:AS->Prop,(∀s1,(R4 ops m f args k off len fa fr o0 s1/\s1.tmps.length<=1000000/\ ∀K:AS->Prop,(∀s',bL P y Q s'->K s')->bD P (items.map aM.a) ow (aY ops (ops.toList.drop (m+1)) (m+1)) (some (SS ops m r fa fr o' s1)) K)->K s1)->bD P (items.map aM.a) ow (aY ops (ops.toList.take m) 0) (some s) K) (hfa:fa<=4999:=by decide):bL P (.seq (.region id ops false) y) Q s:=
 aF (xy m hcon fa fr items ow hk hlen hpure hop hl hm (h _ fun s1 ⟨q1,q2,q3⟩=>⟨q1,q2,q3 _ fun _ h=>h⟩) hfa)
theorem DE (m:Nat) {f:FuncId} {args:List TV} {k off len:Nat} {o0 o':OObj} {r:TV} (hcon:tf P f args k off len o0 o' r) (fa fr:Nat) (items:List (aM P)) (ow:List Nat) {id:Nat} {ops:Array Oper} {Q:Exit->AS->Prop} (hk:k<args.length) (hlen:0<len) (hpure: ∀(j:Nat) t,j≠k->args[j]?=some t->jA t=true) (hop: ∀e∈o0.elems,∀x∈e,isPure x=true) (hl:s.tmps.length<=1000000) (hm:m<ops.toList.length)
  (h: ∀K:AS->Prop,(∀s1,(R4 ops m f args k off len fa fr o0 s1/\s1.tmps.length<=1000000/\ ∀K:AS->Prop,(∀s',Q .normal s'->K s')->bD P (items.map aM.a) ow (aY ops (ops.toList.drop (m+1)) (m+1)) (some (SS ops m r fa fr o' s1)) K)->K s1)->bD P (items.map aM.a) ow (aY ops (ops.toList.take m) 0) (some s) K) (hfa:fa<=4999:=by decide):bL P (.region id ops false) Q s:=
 xy m hcon fa fr items ow hk hlen hpure hop hl hm (h _ fun s1 ⟨q1,q2,q3⟩=>⟨q1,q2,q3 _ fun _ h=>h⟩) hfa
end
end
section
def qa:AV->Bool
 | .p (.raw _)=>true
 | .p (.sl [])=>true
 | .p _=>false
 |_=>true
def EY:TV->Bool
 | .one x=>qa x
 | .agg cs=>cs.all qa
 | .tup ts=>ts.all fun t=>t.2.all qa
 | .fn _ cs=>cs.all qa
def jK (r:CallRes):Prop:=EY r.r=true/\ ∀o∈r.fam,∀e∈o.elems,∀x∈e,qa x=true
def MK:TV->Bool
 | .fn _ cs=>cs.all isPure
 |t=>jA t
def Ro (H:OH) (t u:TV):Prop:=(MK t=true/\u=t)\/ ∃a r off len,t= .one (.sl a r off len)/\xg H a/\gX H a t=u
def ArgsFz (H:OH):List TV->List TV->Prop
 |[],[]=>True
 |t::ts,u::us=>Ro H t u/\ArgsFz H ts us
 |_,_=>False
theorem xP {H:OH}: ∀{ts us:List TV},ArgsFz H ts us->us.length=ts.length/\ ∀(j:Nat) u,us[j]?=some u-> ∃t,ts[j]?=some t/\Ro H t u
 |[],[],_=>⟨rfl,fun j u h=>by simp at h⟩
 |t::ts,u::us,⟨h1,h2⟩=>by
  obtain⟨g1,g2⟩:=xP h2;refine⟨by simp[g1],fun j v hv=>?_⟩
  match j,hv with
  |0,hv=>exact⟨t,rfl,by simp at hv;subst hv;exact h1⟩
  |j+1,hv=>exact g2 j v (by simpa using hv)
 |[],_::_,h=>h.elim
 |_::_,[],h=>h.elim
section
variable {P:Program} {s:AS} {a:Act} {w0 w w1:World} {O X:Nat->Prop} {ρ:Rho} {H:OH}
theorem n9 {Y Y':Nat->Prop} {x:AV} {v:Value} (hs:qa x=true) (h:AV.rel ρ H Y w x v):AV.rel ρ H Y' w x v:=by
 cases x with
 |p x=>
  cases x with
  |raw u=>
   obtain⟨rfl,h1⟩:=bO (ρ:=ρ) (H:=H) h;exact cu.raw _ h1
  |sl xs=>
   cases xs with
   |nil=>
    have h:cu Y w (.sl []) v:=h;generalize hx:PV.sl []=x at h;cases h with
    |raw v h=>cases hx
    |ptr b off cs f hX hb hc hr=>cases hx
    |nil a c=>exact cu.nil _ _
    |sl b off es cap xs f hX hb hes hcap hm hc hr=>
     injection hx with hx
     subst hx;exact cu.nil _ _
   |cons e xs=>cases hs
  |ptr cs=>cases hs
 |sl a r off len=>exact h
 |ptr a r i j=>exact h
 |junk=>trivial
theorem wH {Y Y':Nat->Prop} {t:TV} {v:Value} (hs:EY t=true) (h:t.rel ρ H Y w v):t.rel ρ H Y' w v:=by
 have agg: ∀cs v,cs.all qa=true->bX ρ H Y w cs v->bX ρ H Y' w cs v:=fun cs v hc ⟨vs,g1,g2,g3⟩=>by
  simp only[ai]at hc;exact⟨vs,g1,g2,fun j x hx=>by obtain⟨u,u1,u2,u3⟩:=g3 j x hx;exact⟨u,u1,u2,n9 (hc x (aw hx)) u3⟩⟩
 cases t with
 |one x=>exact n9 hs h
 |agg cs=>exact agg cs v hs h
 |fn f cs=>obtain⟨u,h1,h2⟩:=h;exact⟨u,agg cs u hs h1,h2⟩
 |tup ts=>
  simp only[EY,ai]at hs;obtain⟨vs,g1,g2,g3⟩:=h;refine⟨vs,g1,g2,fun j c cs hj=>?_⟩;obtain⟨u,u1,u2⟩:=g3 j c cs hj;have hall:=hs (c,cs) (aw hj);refine⟨u,u1,?_⟩;rcases u2 with⟨u2,u3⟩|⟨u2,x,rfl,u4⟩
  ·exact .inl ⟨u2,agg _ _ (by simpa only[ai] using hall) u3⟩
  exact .inr ⟨u2,_,rfl,n9 (hall x (by simp)) u4⟩
theorem kX {ρ':Rho} {H':OH} {Y:Nat->Prop} {t:TV} {v:Value} (hn:jA t=true) (h:t.rel ρ H Y w v):t.rel ρ' H' (fun _=>False) w v:=by
 refine wq (Y:=fun _=>False) rfl hn ?_ (ρ:=ρ) (H:=H);unfold jA at hn;split at hn
 ·exact cu.weaken (fun _ _ h=>h.elim) h
 ·rename_i cs;simp only[ai]at hn;obtain⟨vs,g1,g2,g3⟩:=h;refine⟨vs,g1,g2,fun j x hx=>?_⟩;obtain⟨u,u1,u2,u3⟩:=g3 j x hx;have:=hn x (aw hx);refine⟨u,u1,u2,?_⟩;cases x<;>first|exact cu.weaken (fun _ _ h=>h.elim) u3|cases this
 cases hn
theorem Cy {ρ':Rho} {H':OH} {Y:Nat->Prop} {t:TV} {v:Value} (hn:MK t=true) (h:t.rel ρ H Y w v):t.rel ρ' H' (fun _=>False) w v:=by
 cases t with
 |fn f cs=>
  obtain⟨u,h1,h2⟩:=h;exact⟨u,kX (t:= .agg cs) hn h1,h2⟩
 |one x=>exact kX hn h
 |agg cs=>exact kX hn h
 |tup ts=>exact kX hn h
theorem Pp {Y:Nat->Prop} (hob: ∀(x r:Nat) (o:OObj),(H x)[r]?=some o->objRel ρ H Y w x r o) {fa r off len:Nat} (hok:xg H fa) {u:TV} (hu:gX H fa (.one (.sl fa r off len))=u) {v:Value} (h:AV.rel ρ H Y w (.sl fa r off len) v):u.rel (fun _ _=>none) (fun _=>[]) (fun _=>False) w v:=by
 have hpure: ∀x u,isPure x=true->AV.rel ρ H Y w x u->cu (fun _=>False) w (unP x) u:=fun x u hp h=>by
  cases x<;>first|exact cu.weaken (fun _ _ h=>h.elim) h|cases hp
 have hcell: ∀(r:Nat) o,(H fa)[r]?=some o-> ∀e∈o.elems,∀x∈e,∀u,AV.rel ρ H Y w x u->cu (fun _=>False) w (kJ H fa x) u:=fun r o ho e he x hx u hu=>by
  rcases hok r o ho e he x hx with hp|⟨r',off,len,o',rfl,ho',hpr⟩
  ·have:=hpure x u hp hu;cases x<;>first|exact this|cases hp
  simp only[kJ,ho'];exact oX (hob fa r' o' ho') ho' (fun e he y hy u hu=>hpure y u (hpr e he y hy) hu) (fun _ _ _ h=>h) hu
 subst hu;have h':=h;obtain⟨o,g1,g2,g3⟩:=h;simp only[gX,fX,if_true,g1];exact oX (hob fa r o g1) g1 (hcell r o g1) (fun _ _ _ h=>h) h'
theorem Mo (hrel:fW w0 O X s a w) {o:Oper} {c:Call} {f:FuncId} (ho:o.op= .call c) (hcal:c.callee= .value (.func f)) {args:List TV} {res:CallRes} (hcon:CallC P f args res) (hsafe:jK res) {ts:List TV} {d:Nat}
  (hev:f6 s.ev c.args.toList=some ts) (harg:ArgsFz s.H ts args) (hd:res.fam≠[]->s.H d=[]) (hdst:o.dst=some d) {K:Act->World->Prop} {Q:Exit->Act->World->Prop}
  (hK: ∀v w',fW w0 O X (jD s d (renTV d res.r) (res.fam.map (renO d))) (a.put o.dst v) w'->K (a.put o.dst v) w'):o.wp P a w K Q:=by
 obtain⟨h1,hsz,ρ,hinv,htm⟩:=hrel;have htm:bY X ρ s a w:=htm;obtain⟨e1,e2⟩:=dm hev;obtain⟨q1,q2⟩:=xP harg;have hXlt: ∀j,Xo X ρ s.H j->j<w.heap.size:=fun b hb=>by
  rcases hb with hb|⟨x,y,o',n,g1,g2⟩
  ·exact hinv.bar b hb
  exact bP (hinv.objs x y o' g1) g2
 have hrun:=iD (w:=w) ho hcal (e:=a.eval) rfl hcon.1;unfold Oper.wp;rw[hrun];simp only[Oper.upon];have hsize:c.args.size=args.length:=by rw[q1];simpa using e1.symm
 refine(hcon.2 (fun _=>False) w (c.args.map a.eval) (fun j hj=>hj.elim) (by simp[hsize]) fun j u hu=>?_).mono ?_
 ·obtain⟨t,ht,hat⟩:=q2 j u hu;obtain⟨y,hy,hyt⟩:=e2 j t ht;refine⟨a.eval y,?_,?_⟩
  ·rw[Array.getElem?_map];have:c.args[j]?=some y:=by simpa using hy
   rw[this];rfl
  have hr:=cz htm y t hyt;rcases hat with⟨hp,rfl⟩|⟨fa,r,off,len,rfl,hok,hfz⟩
  ·exact Cy hp hr
  exact Pp hinv.objs hok hfz hr
 rintro e w1 ⟨v,rfl,ρc,hi,hr⟩;show K (a.put o.dst v) w1;have hfam: ∀(x r:Nat) o,(famH 0 res.fam x)[r]?=some o->o∈res.fam:=fun x r o ho=>by
  unfold famH at ho;split at ho
  ·exact aw ho
  simp at ho
 have hob': ∀{Y Y':Nat->Prop} (x r:Nat) o,o∈res.fam->objRel ρc (famH 0 res.fam) Y w1 x r o->objRel ρc (famH 0 res.fam) Y' w1 x r o:=fun{Y Y'} x r o hmem hob=>by
  obtain⟨z1,z2,z3⟩:=hob;refine⟨z1,z2,?_⟩;cases hr0:ρc x r with
  |none=>rw[hr0]at z3;exact z3
  |some bc=>
   obtain⟨b,n⟩:=bc;rw[hr0]at z3;obtain⟨cells,p1,p2,p3,p4,p5⟩:=z3;refine⟨cells,p1,p2,p3,p4,fun i e j z he hz=>?_⟩;obtain⟨u,u1,u2,u3⟩:=p5 i e j z he hz;exact⟨u,u1,u2,n9 (hsafe.2 o hmem e (aw he) z (aw hz)) u3⟩
 by_cases hpl:res.plain=true
 ·rw[hdst];have:=j9 (P:=P) (it:=(⟨0,f,args,res⟩:dD P)) (d:=d) (v:=v) (w1:=w1) (ρc:=ρc) h1 hsz hinv htm rfl rfl (fun h:res.fam.map (renO d)≠[]=>hd (by simpa using h)) (by rw[if_pos hpl];exact hi) (by rw[if_pos hpl];exact hr);rw[<- hdst]at this⊢;exact hK v w1 this
 have hi':Inv w (fun _=>False) (Xo X ρ s.H) (famH 0 res.fam) ρc w1:=
  ⟨hi.keep,fun x r o ho=>hob' x r o (hfam x r o ho) (hi.objs x r o ho),hi.inj,fun x r o b c ho hb=>by
   have:=hi.old x r o b c ho hb;refine⟨this.1,fun hX=>?_⟩;rcases this.1 with h|h
   ·have:=hXlt b hX;omega
   exact h,fun b hb=>Nat.lt_of_lt_of_le (hXlt b hb) hi.keep.size,hi.self⟩
 have:=j9 (P:=P) (it:=(⟨0,f,args,res⟩:dD P)) (d:=d) (v:=v) (w1:=w1) (ρc:=ρc) h1 hsz hinv htm rfl rfl (fun h:res.fam.map (renO d)≠[]=>hd (by simpa using h)) (by rw[if_neg hpl];exact hi') (by rw[if_neg hpl];exact wH hsafe.1 hr);rw[hdst]at hK⊢;exact hK v w1 this
def F8 (ops:Array Oper) (m:Nat) (res:CallRes) (s:AS):AS:=match cwD ops m with
 |some d=>jD s d (renTV d res.r) (res.fam.map (renO d))
 |none=>s
structure RZ (ops:Array Oper) (m:Nat) (f:FuncId) (args:List TV) (res:CallRes) (s:AS):Prop where
 ts: ∃ts,cwTs ops m s=some (f,ts)/\ArgsFz s.H ts args
 dst: ∃d,cwD ops m=some d/\(res.fam≠[]->s.H d=[])
theorem xx (m:Nat) {f:FuncId} {args:List TV} {res:CallRes} (hcon:CallC P f args res) (hsafe:jK res) (items:List (aM P)) (ow:List Nat) {id:Nat} {ops:Array Oper} {Q:Exit->AS->Prop} (hl:s.tmps.length<=1000000) (hm:m<ops.toList.length)
  (h:bD P (items.map aM.a) ow (aY ops (ops.toList.take m) 0) (some s) (fun s1=>RZ ops m f args res s1/\s1.tmps.length<=1000000/\bD P (items.map aM.a) ow (aY ops (ops.toList.drop (m+1)) (m+1)) (some (F8 ops m res s1)) (Q .normal))):bL P (.region id ops false) Q s:=fun w0 O X a w r0=>by
 obtain⟨s1,h1,⟨⟨ts0,q1,q2⟩,⟨d,qd,qe⟩⟩,hl1,h2⟩:=bK P (items.map aM.a) ow ops _ 0 s _ h;obtain⟨s',h3,h4⟩:=bK P (items.map aM.a) ow ops _ (m+1) _ _ h2;obtain⟨o,ho⟩: ∃o,ops[m]?=some o:=⟨ops[m],by simp at hm;simp[hm]⟩;have hdst:o.dst=some d:=by
  unfold cwD at qd;rw[ho]at qd;exact qd
 unfold cwTs at q1;rw[ho]at q1;simp only at q1;split at q1
 ·rename_i c hg hop1;split at q1
  ·rename_i f' hcal;split at q1
   ·rename_i ts hts;injection q1 with q1
    injection q1 with q1 q3
    subst q1 q3;refine wp_region ?_;have hsz:ops.size=(ops.toList.take m).length+(1+(ops.toList.drop (m+1)).length):=by simp at hm⊢;omega
    rw[hsz,List.range_eq_range',<- List.range'_append_1,Nat.zero_add];have hml:(ops.toList.take m).length=m:=by rw[List.length_take];omega
    refine iC (aM.ok items) (ops.toList.take m) 0 s s1 a w (fun j o hj=>?_) h1 r0 fun a' w' r'=>?_
    ·rw[List.getElem?_take]at hj;split at hj
     ·simpa using hj
     cases hj
    rw[hml,Nat.add_comm 1,List.range'_succ];simp only[wpOps,ho];rw[if_pos (by simp[Region.wanted,hg])];refine .inl (Mo r' hop1 hcal hcon hsafe hts q2 qe hdst fun v w1 hr1=>?_);refine eZ (aM.ok items) (Q:=fun e a' w'=> ∃s',Q e s'/\fW w0 O X s' a' w') (ops.toList.drop (m+1)) (m+1) _ s' _ _ (fun j o hj=>?_) h3 ?_ (fun a' w' hr=>⟨s',h4,hr⟩)
    ·rw[List.getElem?_drop]at hj;simpa using hj
    unfold F8;rw[qd];exact hr1
   cases q1
  cases q1
 cases q1
theorem uM (m:Nat) {f:FuncId} {args:List TV} {res:CallRes} (hcon:CallC P f args res) (hsafe:jK res) (items:List (aM P)) (ow:List Nat) {id:Nat} {ops:Array Oper} {y:Code} {Q:Exit->AS->Prop} (hl:s.tmps.length<=1000000) (hm:m<ops.toList.length)
  (h: ∀K:AS->Prop,(∀s1,(RZ ops m f args res s1/\s1.tmps.length<=1000000/\ ∀K:AS->Prop,(∀s',bL P y Q s'->K s')->bD P (items.map aM.a) ow (aY ops (ops.toList.drop (m+1)) (m+1)) (some (F8 ops m res s1)) K)->K s1)->bD P (items.map aM.a) ow (aY ops (ops.toList.take m) 0) (some s) K):bL P (.seq (.region id ops false) y) Q s:=
 aF (xx m hcon hsafe items ow hl hm (h _ fun s1 ⟨q1,q2,q3⟩=>⟨q1,q2,q3 _ fun _ h=>h⟩))
theorem l8 (m:Nat) {f:FuncId} {args:List TV} {res:CallRes} (hcon:CallC P f args res) (hsafe:jK res) (items:List (aM P)) (ow:List Nat) {id:Nat} {ops:Array Oper} {Q:Exit->AS->Prop} (hl:s.tmps.length<=1000000) (hm:m<ops.toList.length)
  (h: ∀K:AS->Prop,(∀s1,(RZ ops m f args res s1/\s1.tmps.length<=1000000/\ ∀K:AS->Prop,(∀s',Q .normal s'->K s')->bD P (items.map aM.a) ow (aY ops (ops.toList.drop (m+1)) (m+1)) (some (F8 ops m res s1)) K)->K s1)->bD P (items.map aM.a) ow (aY ops (ops.toList.take m) 0) (some s) K):bL P (.region id ops false) Q s:=
 xx m hcon hsafe items ow hl hm (h _ fun s1 ⟨q1,q2,q3⟩=>⟨q1,q2,q3 _ fun _ h=>h⟩)
end
end
def si (a e d:Nat):AV->AV
 | .sl b r off len=>if b=a then .sl d r off len else if b=e then .sl d (r+1) off len else .sl b r off len
 | .ptr b r i j=>if b=a then .ptr d r i j else if b=e then .ptr d (r+1) i j else .ptr b r i j
 |x=>x
def Py (a e d:Nat):TV->TV
 | .one x=> .one (si a e d x)
 | .agg cs=> .agg (cs.map (si a e d))
 | .fn f cs=> .fn f (cs.map (si a e d))
 | .tup ts=> .tup (ts.map fun t=>(t.1,t.2.map (si a e d)))
theorem LS {a e d:Nat} {ρ ρ':Rho} {H H':OH} {Y Y':Nat->Prop} {w:World} {t:TV} {v:Value} (h:t.rel ρ H Y w v) (hk: ∀x v,x.rel ρ H Y w v->AV.rel ρ' H' Y' w (si a e d x) v):(Py a e d t).rel ρ' H' Y' w v:=by
 have hagg: ∀cs v,bX ρ H Y w cs v->bX ρ' H' Y' w (cs.map (si a e d)) v:=fun cs v ⟨vs,g1,g2,g3⟩=>by
  refine⟨vs,g1,by simpa using g2,fun j x hx=>?_⟩;rw[az]at hx;obtain⟨y,hy,rfl⟩:=Option.map_eq_some_iff.1 hx;obtain⟨u,u1,u2,u3⟩:=g3 j y hy;exact⟨u,u1,u2,hk y u u3⟩
 cases t with
 |one x=>exact hk x v h
 |agg cs=>exact hagg cs v h
 |fn f cs=>obtain⟨u,h1,h2⟩:=h;exact⟨u,hagg cs u h1,h2⟩
 |tup ts=>
  obtain⟨vs,g1,g2,g3⟩:=h;refine⟨vs,g1,by simpa using g2,fun j c cs hj=>?_⟩;rw[az]at hj;obtain⟨z,hz,hzz⟩:=Option.map_eq_some_iff.1 hj;obtain⟨c',cs'⟩:=z;simp at hzz;obtain⟨rfl,rfl⟩:=hzz;obtain⟨u,u1,u2⟩:=g3 j c' cs' hz;refine⟨u,u1,?_⟩;rcases u2 with⟨u2,u3⟩|⟨u2,q',rfl,u4⟩
  ·exact .inl ⟨u2,hagg _ _ u3⟩
  exact .inr ⟨u2,_,rfl,hk _ _ u4⟩
theorem xw {s:AS} (a e d:Nat) {oa oe:OObj} (ha:s.H a=[oa]) (he:s.H e=[oe]) (hd:s.H d=[]) (hpa:ra oa) (hpe:ra oe) (hae:a≠e) (ha5:a<=4999) (he5:e<=4999):
  ci s ⟨s.tmps.map (Py a e d),be (be (be s.H a []) e []) d [oa,oe]⟩:=by
 rintro w0 O X act w ⟨h1,hsz,ρ,hinv,htm⟩;have htm:bY X ρ s act w:=htm;have had:a≠d:=by rintro rfl;rw[ha]at hd;cases hd
 have hed:e≠d:=by rintro rfl;rw[he]at hd;cases hd
 generalize hH:be (be (be s.H a []) e []) d [oa,oe]=H1;generalize hρ1:(fun x y=>if x=d then(if y=0 then ρ a 0 else if y=1 then ρ e 0 else none)else ρ x y:Rho)=ρ1;have hHd:H1 d=[oa,oe]:=by rw[<- hH];exact bF
 have hHa:H1 a=[]:=by rw[<- hH,aZ had,aZ hae,bF]
 have hHe:H1 e=[]:=by rw[<- hH,aZ hed,bF]
 have hHn: ∀x,x≠d->x≠a->x≠e->H1 x=s.H x:=fun x h1 h2 h3=>by rw[<- hH,aZ h1,aZ h3,aZ h2]
 have hρn: ∀x y,x≠d->ρ1 x y=ρ x y:=fun x y h=>by rw[<- hρ1];exact if_neg h
 have hρa:ρ1 d 0=ρ a 0:=by rw[<- hρ1];simp
 have hρe:ρ1 d 1=ρ e 0:=by rw[<- hρ1];simp
 have one: ∀(z:Nat) (oz:OObj) r o,s.H z=[oz]->(s.H z)[r]?=some o->r=0/\o=oz:=fun z oz r o hz h=>by
  rw[hz]at h;cases r with
  |zero=>simp at h;exact⟨rfl,h.symm⟩
  |succ r=>simp at h
 have ha0:(s.H a)[0]?=some oa:=by rw[ha];rfl
 have he0:(s.H e)[0]?=some oe:=by rw[he];rfl
 have back: ∀(x y:Nat) o,(H1 x)[y]?=some o-> ∃x' y',(s.H x')[y']?=some o/\ρ1 x y=ρ x' y'/\((x=d/\y=0/\x'=a/\y'=0/\o=oa)\/(x=d/\y=1/\x'=e/\y'=0/\o=oe)\/(x≠d/\x≠a/\x≠e/\x'=x/\y'=y)):=fun x y o ho=>by
  by_cases hxd:x=d
  ·subst hxd;rw[hHd]at ho
   match y,ho with
   |0,ho=>simp at ho;subst ho;exact⟨a,0,ha0,hρa,.inl ⟨rfl,rfl,rfl,rfl,rfl⟩⟩
   |1,ho=>simp at ho;subst ho;exact⟨e,0,he0,hρe,.inr (.inl ⟨rfl,rfl,rfl,rfl,rfl⟩)⟩
   |y+2,ho=>simp at ho
  by_cases hxa:x=a
  ·subst hxa;rw[hHa]at ho;simp at ho
  by_cases hxe:x=e
  ·subst hxe;rw[hHe]at ho;simp at ho
  rw[hHn x hxd hxa hxe]at ho;exact⟨x,y,ho,hρn _ _ hxd,.inr (.inr ⟨hxd,hxa,hxe,rfl,rfl⟩)⟩
 have hXo: ∀c,Xo X ρ1 H1 c->Xo X ρ s.H c:=fun c hc=>by
  rcases hc with hc|⟨x,y,o,n,h1,h2⟩
  ·exact .inl hc
  obtain⟨x',y',g1,g2,_⟩:=back x y o h1;exact .inr ⟨x',y',o,n,g1,by rw[<- g2];exact h2⟩
 have hav: ∀x v,AV.rel ρ s.H (Xo X ρ s.H) w x v->AV.rel ρ1 H1 (Xo X ρ1 H1) w (si a e d x) v:=fun x v h=>by
  cases x with
  |p x=>exact cu.weaken (fun c _ hc=>hXo c hc) h
  |sl b r off len=>
   obtain⟨o,g1,g2,g3⟩:=h;simp only[si];by_cases hb:b=a
   ·subst hb;obtain⟨rfl,rfl⟩:=one b oa r o ha g1;rw[if_pos rfl];exact⟨o,by rw[hHd];rfl,g2,ku ha5 g3 hρa⟩
   rw[if_neg hb];by_cases hb':b=e
   ·subst hb';obtain⟨rfl,rfl⟩:=one b oe r o he g1;rw[if_pos rfl];exact⟨o,by rw[hHd];rfl,g2,ku he5 g3 hρe⟩
   rw[if_neg hb'];have hbd:b≠d:=by rintro rfl;rw[hd]at g1;simp at g1
   exact⟨o,by rw[hHn b hbd hb hb'];exact g1,g2,by rw[hρn _ _ hbd];exact g3⟩
  |ptr b r i j=>
   obtain⟨o,b',c,g1,g2,g3⟩:=h;simp only[si];by_cases hb:b=a
   ·subst hb;obtain⟨rfl,rfl⟩:=one b oa r o ha g1;rw[if_pos rfl];exact⟨o,b',c,by rw[hHd];rfl,by rw[hρa];exact g2,g3⟩
   rw[if_neg hb];by_cases hb':b=e
   ·subst hb';obtain⟨rfl,rfl⟩:=one b oe r o he g1;rw[if_pos rfl];exact⟨o,b',c,by rw[hHd];rfl,by rw[hρe];exact g2,g3⟩
   rw[if_neg hb'];have hbd:b≠d:=by rintro rfl;rw[hd]at g1;simp at g1
   exact⟨o,b',c,by rw[hHn b hbd hb hb'];exact g1,by rw[hρn _ _ hbd];exact g2,g3⟩
  |junk=>trivial
 have hcell: ∀(x':Nat) z u,cW x' z->x'≠a->x'≠e->AV.rel ρ s.H (Xo X ρ s.H) w z u->AV.rel ρ1 H1 (Xo X ρ1 H1) w z u:=fun x' z u hs h1 h2 h=>by
  have:=hav z u h;cases z with
  |sl b r off len=>
   have hs:b=x':=hs;simpa[si,hs,h1,h2] using this
  |ptr b r i j=>
   have hs:b=x':=hs;simpa[si,hs,h1,h2] using this
  |p x=>exact this
  |junk=>trivial
 have hpure: ∀z u,isPure z=true->AV.rel ρ s.H (Xo X ρ s.H) w z u->AV.rel ρ1 H1 (Xo X ρ1 H1) w z u:=fun z u hp h=>by
  cases z with
  |p x=>exact cu.weaken (fun c _ hc=>hXo c hc) h
  |_=>cases hp
 refine⟨h1,by simpa using hsz,ρ1,⟨hinv.keep,fun x y o ho=>?_,fun x y x' y' o o' c n n' ho ho' hr hr'=>?_,fun x y o c n ho hr=>?_,hinv.bar,fun x y o ho=>?_⟩,fun t x hx=>?_⟩
 ·obtain⟨x',y',g1,g2,g3⟩:=back x y o ho;obtain⟨q1,q2,q3⟩:=hinv.objs x' y' o g1;refine⟨q1,q2,?_⟩;rw[g2];cases hr:ρ x' y' with
  |none=>rw[hr]at q3;exact q3
  |some bc=>
   obtain⟨b',c⟩:=bc;rw[hr]at q3;obtain⟨cells,p1,p2,p3,p4,p5⟩:=q3;refine⟨cells,p1,p2,p3,p4,fun i el j z he' hz=>?_⟩;obtain⟨u,u1,u2,u3⟩:=p5 i el j z he' hz;refine⟨u,u1,u2,?_⟩;rcases g3 with⟨_,_,_,_,rfl⟩|⟨_,_,_,_,rfl⟩|⟨k1,k2,k3,rfl,rfl⟩
   ·exact hpure z u (hpa el (aw he') z (aw hz)) u3
   ·exact hpure z u (hpe el (aw he') z (aw hz)) u3
   exact hcell x' z u (hinv.self x' y' o g1 el (aw he') z (aw hz)) k2 k3 u3
 ·obtain⟨x1,y1,g1,g2,g3⟩:=back x y o ho;obtain⟨x2,y2,k1,k2,k3⟩:=back x' y' o' ho';obtain⟨e1,e2⟩:=hinv.inj x1 y1 x2 y2 o o' c n n' g1 k1 (by rw[<- g2];exact hr) (by rw[<- k2];exact hr');rcases g3 with⟨a1,a2,a3,a4,_⟩|⟨a1,a2,a3,a4,_⟩|⟨a1,a2,a3,a4,a5⟩<;>rcases k3 with⟨b1,b2,b3,b4,_⟩|⟨b1,b2,b3,b4,_⟩|⟨b1,b2,b3,b4,b5⟩<;>omega
 ·obtain⟨x1,y1,g1,g2,g3⟩:=back x y o ho;exact hinv.old x1 y1 o c n g1 (by rw[<- g2];exact hr)
 ·obtain⟨x',y',g1,g2,g3⟩:=back x y o ho;rcases g3 with⟨_,_,_,_,rfl⟩|⟨_,_,_,_,rfl⟩|⟨k1,k2,k3,rfl,rfl⟩
  ·exact fun el he' z hz=>fV (hpa el he' z hz)
  ·exact fun el he' z hz=>fV (hpe el he' z hz)
  exact hinv.self x' y' o g1
 simp only[az]at hx;obtain⟨y,hy,rfl⟩:=Option.map_eq_some_iff.1 hx;obtain⟨v,v1,v2⟩:=htm t y hy;exact⟨v,v1,LS v2 hav⟩
section
section
variable {P:Program} {b:Nat} {ty:TypeId} {cs cs':List PV} {Q:Exit->AS->List PV->Prop} {s:AS}
end
theorem B6 {w0:World} {O X:Nat->Prop} {a:Act} {w:World} {s:AS} (d:Nat) {ty:TypeId} {cs:List PV} (hd:s.H d=[⟨ty,cs.length,[cs.map AV.p]⟩]) (r:fW w0 O X s a w):
  ∃b,(w0.heap.size<=b\/O b)/\ ¬X b/\ik b ty w0 (fun j=>O j\/j=b) (fun j=>X j\/j=b) ⟨s.tmps.map (vT d b),be s.H d []⟩ cs a w:=by
 obtain⟨h1,hsz,ρ,hinv,htm⟩:=r;have htm:bY X ρ s a w:=htm;have hget:(s.H d)[0]?=some ⟨ty,cs.length,[cs.map AV.p]⟩:=by rw[hd];rfl
 obtain⟨z1,z2,z3⟩:=hinv.objs d 0 _ hget;cases hρ:ρ d 0 with
 |none=>rw[hρ]at z3;cases z3
 |some bc=>
  obtain⟨b,n⟩:=bc;rw[hρ]at z3;obtain⟨cells,p1,p2,p3,p4,p5⟩:=z3;have hold:=hinv.old d 0 _ b n hget hρ;have hna: ∀(x y:Nat) o,(be s.H d [] x)[y]?=some o->x≠d/\(s.H x)[y]?=some o:=fun x y o ho=>by
   by_cases hx:x=d
   ·subst hx;rw[bF]at ho;simp at ho
   rw[aZ hx]at ho;exact⟨hx,ho⟩
  have hXo: ∀j,Xo (fun j=>X j\/j=b) ρ (be s.H d []) j->Xo X ρ s.H j:=fun j hj=>by
   rcases hj with(hj|rfl)|⟨x,y,o,n',g1,g2⟩
   ·exact .inl hj
   ·exact .inr ⟨d,0,_,n,hget,hρ⟩
   exact .inr ⟨x,y,o,n',(hna x y o g1).2,g2⟩
  have hmap: ∀x v,AV.rel ρ s.H (Xo X ρ s.H) w x v->AV.rel ρ (be s.H d []) (Xo (fun j=>X j\/j=b) ρ (be s.H d [])) w (lK d b x) v:=fun x v hx=>by
   cases x with
   |p x=>exact cu.weaken (fun j _ hj=>hXo j hj) hx
   |sl x r off len=>
    simp only[lK];split
    ·trivial
    rename_i hxd;obtain⟨o,g1,g2⟩:=hx;exact⟨o,by rw[aZ hxd];exact g1,g2⟩
   |ptr x r i j=>
    simp only[lK];split
    ·rename_i hxd;subst hxd;split
     ·rename_i hc;obtain⟨rfl,rfl,rfl⟩:=hc;obtain⟨o,b',c',g1,g2,g3,g4⟩:=hx;rw[hρ]at g2;injection g2 with g2
      injection g2 with g2 g2'
      subst g2;rw[g4];simp only[Nat.zero_mul,Nat.add_zero];exact cu.raw _ rfl
     trivial
    rename_i hxd;obtain⟨o,b',c',g1,g2⟩:=hx;exact⟨o,b',c',by rw[aZ hxd];exact g1,g2⟩
   |junk=>trivial
  have hagg: ∀cs v,bX ρ s.H (Xo X ρ s.H) w cs v->bX ρ (be s.H d []) (Xo (fun j=>X j\/j=b) ρ (be s.H d [])) w (cs.map (lK d b)) v:=fun cs v ⟨vs,g1,g2,g3⟩=>by
   refine⟨vs,g1,by simpa using g2,fun j x hx=>?_⟩;rw[az]at hx;obtain⟨y,hy,rfl⟩:=Option.map_eq_some_iff.1 hx;obtain⟨u,u1,u2,u3⟩:=g3 j y hy;exact⟨u,u1,u2,hmap y u u3⟩
  have hrel:ik b ty w0 (fun j=>O j\/j=b) (fun j=>X j\/j=b) ⟨s.tmps.map (vT d b),be s.H d []⟩ cs a w:=by
   refine⟨h1,by simpa using hsz,ρ,⟨⟨hinv.keep.os,hinv.keep.tape,hinv.keep.output,hinv.keep.size,fun k hk hn=>hinv.keep.block k hk (fun h=>hn (.inl h))⟩,fun x y o ho=>?_,fun x y x' y' o o' j c c' ho ho'=>hinv.inj x y x' y' o o' j c c' (hna x y o ho).2 (hna x' y' o' ho').2,fun x y o j c ho hj=>?_,fun j hj=>?_,fun x y o ho=>hinv.self x y o (hna x y o ho).2⟩,fun t x hx=>?_,.inr rfl,.inr rfl,?_⟩
   ·obtain⟨hxd,ho'⟩:=hna x y o ho;obtain⟨q1,q2,q3⟩:=hinv.objs x y o ho';refine⟨q1,q2,?_⟩;cases hr:ρ x y with
    |none=>rw[hr]at q3;exact q3
    |some bc=>
     obtain⟨b',c'⟩:=bc;rw[hr]at q3;obtain⟨cells',r1,r2,r3,r4,r5⟩:=q3;refine⟨cells',r1,r2,r3,r4,fun i e j z he hz=>?_⟩;obtain⟨u,u1,u2,u3⟩:=r5 i e j z he hz;have hs:=hinv.self x y o ho' e (aw he) z (aw hz);have:=hmap z u u3;refine⟨u,u1,u2,?_⟩;cases z with
     |sl z _ _ _=>have hs:z=x:=hs;subst hs;simpa[lK,hxd] using this
     |ptr z _ _ _=>have hs:z=x:=hs;subst hs;simpa[lK,hxd] using this
     |p z=>exact this
     |junk=>trivial
   ·obtain⟨hxd,ho'⟩:=hna x y o ho;obtain⟨g1,g2⟩:=hinv.old x y o j c ho' hj;refine⟨?_,?_⟩
    ·rcases g1 with g|g
     ·exact .inl g
     exact .inr (.inl g)
    rintro(g|rfl)
    ·exact g2 g
    exact hxd (hinv.inj x y d 0 o _ j c n ho' hget hj hρ).1
   ·rcases hj with hj|rfl
    ·exact hinv.bar j hj
    exact(Array.getElem?_eq_some_iff.1 p1).1
   ·simp only[az]at hx;obtain⟨y,hy,rfl⟩:=Option.map_eq_some_iff.1 hx;obtain⟨v,v1,v2⟩:=htm t y hy;refine⟨v,v1,?_⟩;cases y with
    |one x=>exact hmap x v v2
    |agg cs=>exact hagg cs v v2
    |fn f cs=>obtain⟨u,h1,h2⟩:=v2;exact⟨u,hagg cs u h1,h2⟩
    |tup ts=>
     obtain⟨vs,g1,g2,g3⟩:=v2;refine⟨vs,g1,by simpa using g2,fun j c cs hj=>?_⟩;rw[az]at hj;obtain⟨z,hz,hzz⟩:=Option.map_eq_some_iff.1 hj;obtain⟨c',cs'⟩:=z;simp at hzz;obtain⟨rfl,rfl⟩:=hzz;obtain⟨u,u1,u2⟩:=g3 j c' cs' hz;refine⟨u,u1,?_⟩;rcases u2 with⟨u2,u3⟩|⟨u2,q',rfl,u4⟩
     ·exact .inl ⟨u2,hagg _ _ u3⟩
     exact .inr ⟨u2,_,rfl,hmap _ _ u4⟩
   refine⟨cells,n,p1,p2,by simpa using p3,p4,z2,fun j x hx=>?_⟩;obtain⟨v,v1,v2,v3⟩:=p5 0 (cs.map AV.p) j (.p x) rfl (by rw[az,hx];rfl);exact⟨v,by simpa using v1,v2,cu.weaken (fun j _ hj=>hXo j hj) v3⟩
  exact⟨b,hold.1,hold.2,hrel⟩
def zg (d b:Nat):AV->AV
 | .p (.raw (.pointer (some ⟨b',0,none⟩)))=>if b'=b then .ptr d 0 0 0 else .p (.raw (.pointer (some ⟨b',0,none⟩)))
 |x=>x
def KP (d b:Nat):TV->TV
 | .one x=> .one (zg d b x)
 | .agg cs=> .agg (cs.map (zg d b))
 | .fn f cs=> .fn f (cs.map (zg d b))
 | .tup ts=> .tup (ts.map fun t=>(t.1,t.2.map (zg d b)))
theorem Bs {w0:World} {O X:Nat->Prop} {a:Act} {w:World} {s:AS} {b d:Nat} {ty:TypeId} {cs:List PV} (hold:w0.heap.size<=b\/O b) (hnX: ¬X b) (hd:s.H d=[]) (r:ik b ty w0 (fun j=>O j\/j=b) (fun j=>X j\/j=b) s cs a w):
  fW w0 O X ⟨s.tmps.map (KP d b),be s.H d [⟨ty,cs.length,[cs.map AV.p]⟩]⟩ a w:=by
 obtain⟨k1,ksz,ρ,kinv,ktm,_,_,cells,n,p1,p2,p3,p4,p5,p6⟩:=r;have ktm:bY (fun j=>X j\/j=b) ρ s a w:=ktm;generalize hρ2:newρ ρ d (fun r=>if r=0 then some (b,n)else none)=ρ2;generalize hH2:be s.H d [⟨ty,cs.length,[cs.map AV.p]⟩]=H2;have hd2:H2 d=[⟨ty,cs.length,[cs.map AV.p]⟩]:=by rw[<- hH2,bF]
 have hne2: ∀x,x≠d->H2 x=s.H x:=fun x hx=>by rw[<- hH2,aZ hx]
 have hrd: ∀r,ρ2 d r=if r=0 then some (b,n)else none:=fun r=>by rw[<- hρ2,newρ_eq]
 have hrn: ∀x r,x≠d->ρ2 x r=ρ x r:=fun x r hx=>by rw[<- hρ2,newρ_ne hx]
 have hone: ∀(y:Nat) o,(H2 d)[y]?=some o->y=0/\o=⟨ty,cs.length,[cs.map AV.p]⟩:=fun y o ho=>by
  rw[hd2]at ho
  match y,ho with
  |0,ho=>exact⟨rfl,by simpa using ho.symm⟩
  |y+1,ho=>simp at ho
 have hXo: ∀j,Xo X ρ2 H2 j->Xo (fun j=>X j\/j=b) ρ s.H j:=fun j hj=>by
  rcases hj with hj|⟨x,y,o,c,g1,g2⟩
  ·exact .inl (.inl hj)
  by_cases hx:x=d
  ·subst hx;obtain⟨rfl,_⟩:=hone y o g1;rw[hrd,if_pos rfl]at g2;injection g2 with g2
   injection g2 with g2
   exact .inl (.inr g2.symm)
  rw[hne2 x hx]at g1;rw[hrn x y hx]at g2;exact .inr ⟨x,y,o,c,g1,g2⟩
 have kmap: ∀x v,AV.rel ρ s.H (Xo (fun j=>X j\/j=b) ρ s.H) w x v->AV.rel ρ2 H2 (Xo X ρ2 H2) w x v:=fun x v hx=>by
  cases x with
  |p x=>exact cu.weaken (fun j _ hj=>hXo j hj) hx
  |sl x r off len=>
   obtain⟨o,g1,g2⟩:=hx;have hxd:x≠d:=by rintro rfl;rw[hd]at g1;simp at g1
   exact⟨o,by rw[hne2 x hxd];exact g1,by rw[hrn x r hxd];exact g2⟩
  |ptr x r i j=>
   obtain⟨o,b',c,g1,g2,g3⟩:=hx;have hxd:x≠d:=by rintro rfl;rw[hd]at g1;simp at g1
   exact⟨o,b',c,by rw[hne2 x hxd];exact g1,by rw[hrn x r hxd];exact g2,g3⟩
  |junk=>trivial
 have kmapB: ∀x v,AV.rel ρ s.H (Xo (fun j=>X j\/j=b) ρ s.H) w x v->AV.rel ρ2 H2 (Xo X ρ2 H2) w (zg d b x) v:=fun x v hx=>by
  unfold zg;split
  ·split
   ·rename_i hb;subst hb;obtain⟨rfl,_⟩:=bO (ρ:=ρ) (H:=s.H) hx;exact⟨⟨ty,cs.length,[cs.map AV.p]⟩,_,n,by rw[hd2];rfl,by rw[hrd,if_pos rfl],by simp,by simp⟩
   exact kmap _ _ hx
  exact kmap _ _ hx
 have hagg: ∀cs v,bX ρ s.H (Xo (fun j=>X j\/j=b) ρ s.H) w cs v->bX ρ2 H2 (Xo X ρ2 H2) w (cs.map (zg d b)) v:=fun cs v ⟨vs,g1,g2,g3⟩=>by
  refine⟨vs,g1,by simpa using g2,fun j x hx=>?_⟩;rw[az]at hx;obtain⟨y,hy,rfl⟩:=Option.map_eq_some_iff.1 hx;obtain⟨u,u1,u2,u3⟩:=g3 j y hy;exact⟨u,u1,u2,kmapB y u u3⟩
 refine⟨k1,by simpa using ksz,ρ2,⟨⟨kinv.keep.os,kinv.keep.tape,kinv.keep.output,kinv.keep.size,fun k hk hn=>?_⟩,fun x y o ho=>?_,fun x y x' y' o o' j c c' ho ho' hj hj'=>?_,fun x y o j c ho hj=>?_,fun j hj=>kinv.bar j (.inl hj),fun x y o ho=>?_⟩,fun t x hx=>?_⟩
 ·by_cases hkb:k=b
  ·subst hkb;exfalso;rcases hold with g|g
   ·omega
   exact hn g
  exact kinv.keep.block k hk (fun hh=>by
   rcases hh with hh|hh
   ·exact hn hh
   exact hkb hh)
 ·by_cases hx:x=d
  ·subst hx;obtain⟨rfl,rfl⟩:=hone y o ho;refine⟨fun e he=>by simp at he;subst he;simp,p5,?_⟩;rw[hrd,if_pos rfl];refine⟨cells,p1,p2,by simpa using p3,p4,fun i e j z he hz=>?_⟩
   match i,he with
   |0,he=>
    simp at he;subst he;rw[az]at hz;obtain⟨y,hy,rfl⟩:=Option.map_eq_some_iff.1 hz;obtain⟨v,v1,v2,v3⟩:=p6 j y hy;exact⟨v,by simpa using v1,v2,cu.weaken (fun j _ hj=>hXo j hj) v3⟩
   |i+1,he=>simp at he
  replace ho:(H2 x)[y]?=some o:=ho
  rw[hne2 x hx]at ho;exact fH (kinv.objs x y o ho) (hrn x y hx) (fun _ _ _=>rfl) kmap
 ·by_cases hx:x=d
  ·subst hx;obtain⟨rfl,_⟩:=hone y o ho;rw[hrd,if_pos rfl]at hj;injection hj with hj
   injection hj with hj _
   subst hj;by_cases hx':x'=x
   ·subst hx';obtain⟨rfl,_⟩:=hone y' o' ho';exact⟨rfl,rfl⟩
   replace ho':(H2 x')[y']?=some o':=ho'
   rw[hne2 x' hx']at ho';rw[hrn x' y' hx']at hj';exact absurd (.inr rfl) (kinv.old x' y' o' _ c' ho' hj').2
  replace ho:(H2 x)[y]?=some o:=ho
  rw[hne2 x hx]at ho;rw[hrn x y hx]at hj;by_cases hx':x'=d
  ·subst hx';obtain⟨rfl,_⟩:=hone y' o' ho';rw[hrd,if_pos rfl]at hj';injection hj' with hj'
   injection hj' with hj' _
   subst hj';exact absurd (.inr rfl) (kinv.old x y o _ c ho hj).2
  replace ho':(H2 x')[y']?=some o':=ho'
  rw[hne2 x' hx']at ho';rw[hrn x' y' hx']at hj';exact kinv.inj x y x' y' o o' j c c' ho ho' hj hj'
 ·by_cases hx:x=d
  ·subst hx;obtain⟨rfl,_⟩:=hone y o ho;rw[hrd,if_pos rfl]at hj;injection hj with hj
   injection hj with hj _
   subst hj;exact⟨hold,hnX⟩
  replace ho:(H2 x)[y]?=some o:=ho
  rw[hne2 x hx]at ho;rw[hrn x y hx]at hj;obtain⟨g1,g2⟩:=kinv.old x y o j c ho hj;refine⟨?_,fun hx=>g2 (.inl hx)⟩;rcases g1 with g|g|g
  ·exact .inl g
  ·exact .inr g
  exact absurd (.inr g) g2
 ·by_cases hx:x=d
  ·subst hx;obtain⟨_,rfl⟩:=hone y o ho;intro e he z hz;simp at he;subst he;obtain⟨q,_,rfl⟩:=List.mem_map.1 hz;trivial
  replace ho:(H2 x)[y]?=some o:=ho
  rw[hne2 x hx]at ho;exact kinv.self x y o ho
 simp only[az]at hx;obtain⟨y,hy,rfl⟩:=Option.map_eq_some_iff.1 hx;obtain⟨v,v1,v2⟩:=ktm t y hy;refine⟨v,v1,?_⟩;cases y with
 |one x=>exact kmapB x v v2
 |agg cs=>exact hagg cs v v2
 |fn f cs=>obtain⟨u,h1,h2⟩:=v2;exact⟨u,hagg cs u h1,h2⟩
 |tup ts=>
  obtain⟨vs,g1,g2,g3⟩:=v2;refine⟨vs,g1,by simpa using g2,fun j c cs hj=>?_⟩;rw[az]at hj;obtain⟨z,hz,hzz⟩:=Option.map_eq_some_iff.1 hj;obtain⟨c',cs'⟩:=z;simp at hzz;obtain⟨rfl,rfl⟩:=hzz;obtain⟨u,u1,u2⟩:=g3 j c' cs' hz;refine⟨u,u1,?_⟩;rcases u2 with⟨u2,u3⟩|⟨u2,q',rfl,u4⟩
  ·exact .inl ⟨u2,hagg _ _ u3⟩
  exact .inr ⟨u2,_,rfl,kmapB _ _ u4⟩
theorem DD {P:Program} {c:Code} {Q:Exit->AS->Prop} {s:AS} (d:Nat) {ty:TypeId} {cs:List PV} (hd:s.H d=[⟨ty,cs.length,[cs.map AV.p]⟩])
  (h: ∀b,fb P b ty c (fun e s' cs'=>s'.H d=[]/\Q e ⟨s'.tmps.map (KP d b),be s'.H d [⟨ty,cs'.length,[cs'.map AV.p]⟩]⟩) ⟨s.tmps.map (vT d b),be s.H d []⟩ cs):bL P c Q s:=fun w0 O X a w r=>by
 obtain⟨b,h1,h2,h3⟩:=B6 d hd r;exact wp_mono (h b _ _ _ _ _ h3) fun e a' w' ⟨s',cs',⟨hq1,hq2⟩,hr⟩=>⟨_,hq2,Bs h1 h2 hq1 hr⟩
end
section
def WH (Q:Exit->AS->Prop):Exit->AS->Prop
 | .goto _,_=>False
 |e,s=>Q e s
section
variable {P:Program} {s:AS} {Q:Exit->AS->Prop}
theorem Ic {c:Code} (h:bL P c (WH Q) s):bL P (.scope c) Q s:=fun _ _ _ _ _ r=>
 wp_scope_straight (wp_mono (h _ _ _ _ _ r) fun e a w ⟨s',h1,h2⟩=>by
  cases e<;>first|exact⟨s',h1,h2⟩|exact h1.elim)
theorem Ib {l:Nat} (h:Q .normal s):bL P (.label l) Q s:=fun _ _ _ _ _ r=>wp_label ⟨s,h,r⟩
end
section
variable {P:Program} {b:Nat} {ty:TypeId} {cs:List PV} {s:AS} {Q:Exit->AS->List PV->Prop}
theorem KC {c:Code} (k d:Nat) (hk:s.tmps[k]?=some (.raw (.pointer (some ⟨b,0,none⟩)))) (hd:s.H d=[])
  (h:eR P k c (fun e s'=> ∃cs',s'.H d=[⟨ty,cs'.length,[cs'.map AV.p]⟩]/\s'.tmps[k]?=some (.one (.ptr d 0 0 0))/\Q e ⟨s'.tmps.map (vT d b),be s'.H d []⟩ cs') ⟨s.tmps.map (KP d b),be s.H d [⟨ty,cs.length,[cs.map AV.p]⟩]⟩):fb P b ty c Q s cs:=fun w0 O X a w r=>by
 have hO:O b:=by obtain⟨_,_,_,_,_,hO,_⟩:=r;exact hO
 have hX:X b:=by obtain⟨_,_,_,_,_,_,hX,_⟩:=r;exact hX
 have eO:(fun j=>O j\/j=b)=O:=by
  funext j;exact propext ⟨fun h=>h.elim id (fun e=>by rw[e];exact hO),.inl⟩
 have eX:(fun j=>(X j/\j≠b)\/j=b)=X:=by
  funext j;refine propext ⟨fun h=>h.elim (·.1) (fun e=>by rw[e];exact hX),fun h=>?_⟩;by_cases e:j=b
  ·exact .inr e
  exact .inl ⟨h,e⟩
 have hslot:a.tmps[k]?=some (.pointer (some ⟨b,0,none⟩)):=by
  obtain⟨_,_,ρ,_,htm,_⟩:=r;obtain⟨v,v1,v2⟩:=htm k _ hk;rw[v1,(bO (H:=s.H) (ρ:=ρ) v2).1]
 have r':ik b ty w0 (fun j=>O j\/j=b) (fun j=>(X j/\j≠b)\/j=b) s cs a w:=by rw[eO,eX];exact r
 have hrel:=Bs (.inr hO) (fun h=>h.2 rfl) hd r';refine wp_mono (h _ _ _ _ _ _ ⟨hrel,hslot⟩) fun e a' w' ⟨s',⟨cs',q1,q2,q3⟩,hr,hs⟩=>?_
 obtain⟨b',g1,g2,g3⟩:=B6 d q1 hr;have hb:b'=b:=by
  obtain⟨_,_,ρ,_,htm,_⟩:=id g3;obtain⟨v,v1,v2⟩:=htm k (.raw (.pointer (some ⟨b',0,none⟩))) (by
   show(s'.tmps.map (vT d b'))[k]?=_;rw[az,q2];simp[vT,lK])
  rw[hs]at v1;injection v1 with v1
  have:=(bO v2).1;rw[<- v1]at this;injection this with this
  injection this with this
  injection this with this
  exact this.symm
 subst hb;rw[eO,eX]at g3;exact⟨_,cs',q3,g3⟩
structure Uu (P:Program) (b:Nat) (cs:List PV) (ops:Array Oper) (m j d:Nat) (T:TV) (s:AS):Prop where
 ops: ∃t x,∃o:Oper,ops[m]?=some o/\o.op= .load t x/\o.dst=some d/\o.guard=none/\s.ev x=some (.raw (.pointer (some ⟨b,j,none⟩)))/\packT P t ((cs.drop j).map AV.p)=some T
end
end
section
def sK:TV->Bool
 | .one (.p _)=>true
 | .agg cs=>cs.all isPure
 | .fn _ cs=>cs.all isPure
 |_=>false
theorem mB {ρ ρ':Rho} {H H':OH} {Y Y':Nat->Prop} {w:World} {t:TV} {v:Value} (hY: ∀b,Y' b->Y b) (hn:sK t=true) (h:t.rel ρ H Y w v):t.rel ρ' H' Y' w v:=by
 have av: ∀x u,isPure x=true->AV.rel ρ H Y w x u->AV.rel ρ' H' Y' w x u:=fun x u hx hu=>by
  cases x with
  |p x=>exact cu.weaken (fun b _ hb=>hY b hb) hu
  |_=>cases hx
 have agg: ∀cs v,cs.all isPure=true->bX ρ H Y w cs v->bX ρ' H' Y' w cs v:=fun cs v hc ⟨vs,g1,g2,g3⟩=>by
  simp only[ai]at hc;exact⟨vs,g1,g2,fun j x hx=>by obtain⟨u,u1,u2,u3⟩:=g3 j x hx;exact⟨u,u1,u2,av x u (hc x (aw hx)) u3⟩⟩
 cases t with
 |one x=>
  cases x with
  |p x=>exact cu.weaken (fun b _ hb=>hY b hb) h
  |_=>cases hn
 |agg cs=>exact agg cs v hn h
 |fn f cs=>obtain⟨u,h1,h2⟩:=h;exact⟨u,agg cs u hn h1,h2⟩
 |tup ts=>cases hn
def gm (k:Nat):Nat->List TV->Bool
 |_,[]=>true
 |i,t::l=>(i==k||sK t)&&gm k (i+1) l
theorem kW {k:Nat}: ∀{l:List TV} {i j:Nat} {t:TV},gm k i l=true->i+j≠k->l[j]?=some t->sK t=true
 |[],_,_,_,_,_,h=>by simp at h
 |u::l,i,0,t,h,hj,ht=>by
  simp at ht;subst ht;simp only[gm,Bool.and_eq_true,Bool.or_eq_true,beq_iff_eq]at h;exact h.1.resolve_left (fun e=>hj (by rw[e,Nat.add_zero]))
 |u::l,i,j+1,t,h,hj,ht=>by
  simp only[gm,Bool.and_eq_true]at h;exact kW (i:=i+1) (j:=j) h.2 (by omega) (by simpa using ht)
def famB (F:List OObj) (ρ:Rho):Nat->Prop:=fun j=> ∃(r:Nat) (o:OObj) (c:Nat),F[r]?=some o/\ρ 0 r=some (j,c)
structure i5 (P:Program) (f:FuncId) (args:List TV) (k n:Nat) (F F':List OObj) (r:TV):Prop where
 able:callable P f=true
 noref:noRefTV r=true
 head: ∃o o',F[0]?=some o/\F'[0]?=some o'/\o.elems.length=n/\o'.elems.length=n/\o'.es=o.es
 calls: ∀(X:Nat->Prop) (w:World) (vs:Array Value) (ρ:Rho) (b c:Nat),Inv w (famB F ρ) X (famH 0 F) ρ w->ρ 0 0=some (b,c)->vs.size=args.length->vs[k]?=some (.slice (some ⟨b,0,none⟩) n c)->
  (∀(j:Nat) t,j≠k->args[j]?=some t-> ∃v:Value,vs[j]?=some v/\t.rel (fun _ _=>none) (fun _=>[]) (Xo X ρ (famH 0 F)) w v)->
  Calls P f vs w fun e w'=> ∃v,e= .returned v/\ ∃ρ':Rho,Inv w (famB F ρ) X (famH 0 F') ρ' w'/\ρ' 0 0=some (b,c)/\r.rel ρ' (famH 0 F') (Xo X ρ' (famH 0 F')) w' v
def VB (P:Program) (fn:Func) (k n:Nat) (F':List OObj) (r:TV) (s:AS):Prop:=
 s.tmps[k]?=some (.one (.sl 0 0 0 n))/\s.H=famH 0 F'/\rl P s fn.results.toList=some r
theorem qz {P:Program} {f:FuncId} {fn:Func} {c:Code} {args:List TV} {k n:Nat} {F F':List OObj} {r:TV} (hf:P.funcs[f]?=some fn) (hb:fn.body=some c) (hn:callable P f=true) (hk:k<args.length) (hlen:0<n)
  (hhead: ∃o o',F[0]?=some o/\F'[0]?=some o'/\o.elems.length=n/\o'.elems.length=n/\o'.es=o.es) (hr:noRefTV r=true)
  (h:eR P k c (fun e s=>(e= .normal\/e= .ret)/\ ∃s',ci s s'/\VB P fn k n F' r s') ⟨args.set k (.one (.sl 0 0 0 n))++List.replicate (fn.ntmps-args.length) .undef,famH 0 F⟩):i5 P f args k n F F' r:=by
 refine⟨hn,hr,hhead,fun X w vs ρ b cc hinv0 hρ hvs hvk hargs=>?_⟩;obtain⟨o0,o1,ho0,ho1,hl0,hl1,hes⟩:=hhead;refine calls_of_wp hf hb ?_;have hob:=hinv0.objs 0 0 o0 (by simpa[famH] using ho0);obtain⟨_,hpos,q3⟩:=hob;rw[hρ]at q3;obtain⟨cells,_,_,p3,_⟩:=q3;have hrel:kC k (.slice (some ⟨b,0,none⟩) n cc) w (famB F ρ) X ⟨args.set k (.one (.sl 0 0 0 n))++List.replicate (fn.ntmps-args.length) .undef,famH 0 F⟩ {tmps:=vs++Array.replicate (fn.ntmps-vs.size) undef,defers:=[]} w:=by
  refine⟨⟨rfl,by simp[hvs],ρ,hinv0,fun t x hx=>?_⟩,?_⟩
  ·by_cases ht:t<args.length
   ·rw[List.getElem?_append_left (by simpa using ht)]at hx;by_cases htk:t=k
    ·subst htk;rw[List.getElem?_set_self ht]at hx;injection hx with hx
     subst hx;exact⟨_,by rw[Array.getElem?_append_left (by omega)];exact hvk,o0,by simpa[famH] using ho0,by omega,.inr ⟨b,cc,cc,hρ,by rw[Nat.zero_mul],by omega,fun _=>rfl⟩⟩
    rw[List.getElem?_set_ne (Ne.symm htk)]at hx;obtain⟨v,v1,v2⟩:=hargs t x htk hx;refine⟨v,by rw[Array.getElem?_append_left (by omega)];exact v1,TV.rel_map v2 (fun y u hy=>?_)⟩;cases y with
    |p y=>exact hy
    |sl a r off len=>obtain⟨o,h1,_⟩:=hy;simp at h1
    |ptr a r i j=>obtain⟨o,_,_,h1,_⟩:=hy;simp at h1
    |junk=>trivial
   rw[List.getElem?_append_right (by simp;omega),List.getElem?_replicate]at hx;split at hx
   ·rename_i hlt;injection hx with hx
    subst hx;refine⟨undef,?_,ij⟩;simp at hlt;rw[Array.getElem?_append_right (by omega),Array.getElem?_replicate,if_pos (by omega)]
   cases hx
  show(vs++_)[k]?=_;rw[Array.getElem?_append_left (by omega)];exact hvk
 refine wp_mono (h _ _ _ _ _ _ hrel) fun e a' w' ⟨s1,⟨hee,s2,hw,hW1,hW2,hW3⟩,hrel1⟩=>?_
 obtain⟨⟨h1,hsz,ρ',hinv,htm⟩,hslot⟩:=hrel1.weak hw;have htm:bY X ρ' s2 a' w':=htm;rw[hW2]at hinv;obtain⟨v,v1,v2⟩:=kq (by rw[hW2];exact hinv) htm hW3;rw[hW2]at v2;obtain⟨u,u1,u2⟩:=htm k _ hW1;rw[hslot]at u1;injection u1 with u1
 subst u1;obtain⟨o2,g1,g2,g3⟩:=u2;have hρ':ρ' 0 0=some (b,cc):=by
  rcases g3 with⟨_,g4,_,_⟩|⟨b',c',cap,g4,g5,_,g9⟩
  ·cases g4
  have g9:=g9 (by decide);injection g5 with g5 g6 g7
  injection g5 with g5
  injection g5 with g5 g8
  rw[g4,g5,show c'=cc by omega]
 rcases hee with rfl|rfl
 ·exact⟨h1,v,v1,v,rfl,ρ',hinv,hρ',v2⟩
 exact⟨h1,v,v1,v,rfl,ρ',hinv,hρ',v2⟩
theorem EL {ρ ρ':Rho} {H H':OH} {Y Y':Nat->Prop} {w:World} {r:TV} {v:Value} (hY: ∀j,j<w.heap.size->Y' j->Y j) (hn:noRefTV r=true) (h:r.rel ρ H Y w v):r.rel ρ' H' Y' w v:=by
 have av: ∀x u,f7 x=true->AV.rel ρ H Y w x u->AV.rel ρ' H' Y' w x u:=fun x u hx hu=>by
  cases x with
  |p x=>exact cu.weaken hY hu
  |junk=>trivial
  |_=>cases hx
 have agg: ∀cs v,cs.all f7=true->bX ρ H Y w cs v->bX ρ' H' Y' w cs v:=fun cs v hc ⟨vs,g1,g2,g3⟩=>by
  simp only[ai]at hc;exact⟨vs,g1,g2,fun j x hx=>by obtain⟨u,u1,u2,u3⟩:=g3 j x hx;exact⟨u,u1,u2,av x u (hc x (aw hx)) u3⟩⟩
 cases r with
 |one x=>exact av x v hn h
 |agg cs=>exact agg cs v hn h
 |fn f cs=>obtain⟨u,h1,h2⟩:=h;exact⟨u,agg cs u hn h1,h2⟩
 |tup ts=>
  simp only[noRefTV,ai]at hn;obtain⟨vs,g1,g2,g3⟩:=h;refine⟨vs,g1,g2,fun j c cs hj=>?_⟩;obtain⟨u,u1,u2⟩:=g3 j c cs hj;have hall:=hn (c,cs) (aw hj);refine⟨u,u1,?_⟩;rcases u2 with⟨u2,u3⟩|⟨u2,x,rfl,u4⟩
  ·exact .inl ⟨u2,agg _ _ (List.all_eq_true.2 hall) u3⟩
  exact .inr ⟨u2,x,rfl,av x u (hall x (by simp)) u4⟩
def kM (fa:Nat):Nat->Nat->Bool:=fun x y=>x==fa&&y !=0
section
variable {P:Program} {s:AS} {a:Act} {w0 w:World} {O X:Nat->Prop}
theorem Cf (hrel:fW w0 O X s a w) {o:Oper} {c:Call} {f:FuncId} (ho:o.op= .call c) (hcal:c.callee= .value (.func f)) {args:List TV} {k n fa:Nat} {F F':List OObj} {r:TV} (hcon:i5 P f args k n F F' r) (hfa:fa<=4999) (hk:k<args.length) (hlen:0<n)
  (hev:f6 s.ev c.args.toList=some (args.set k (.one (.sl fa 0 0 n)))) (hpure:gm k 0 args=true) (hfam:s.H fa=F.map (renO fa)) (hself: ∀o∈F,selfO 0 o) (hself': ∀o∈F',selfO 0 o) {K:Act->World->Prop} {Q:Exit->Act->World->Prop}
  (hK: ∀v w',fW w0 O X (AS.put ⟨s.tmps.map (bo (kM fa)),be s.H fa (F'.map (renO fa))⟩ o.dst r) (a.put o.dst v) w'->K (a.put o.dst v) w'):o.wp P a w K Q:=by
 obtain⟨h1,hsz,ρ,hinv,htm⟩:=hrel;have htm:bY X ρ s a w:=htm;obtain⟨e1,e2⟩:=dm hev;have hk1:(args.set k (.one (.sl fa 0 0 n)))[k]?=some (.one (.sl fa 0 0 n)):=List.getElem?_set_self hk;obtain⟨x,hx,hxt⟩:=e2 k _ hk1;obtain⟨o0,o1,ho0,ho1,hl0,hl1,hes⟩:=hcon.head;have hF: ∀(y:Nat) o',(s.H fa)[y]?=some o'↔ ∃o,F[y]?=some o/\o'=renO fa o:=fun y o'=>by
  rw[hfam,az];constructor
  ·intro h;obtain⟨o,g1,g2⟩:=Option.map_eq_some_iff.1 h;exact⟨o,g1,g2.symm⟩
  rintro⟨o,g1,rfl⟩;rw[g1];rfl
 obtain⟨b,cc,hρ,hv⟩: ∃b cc,ρ fa 0=some (b,cc)/\a.eval x= .slice (some ⟨b,0,none⟩) n cc:=by
  obtain⟨o',g1,g2,g3⟩:=cz htm x _ hxt;rcases g3 with⟨_,_,g4,_⟩|⟨b,cc,cap,g3,g5,_,g6⟩
  ·omega
  exact⟨b,cc,g3,by rw[g5,g6 hfa,Nat.zero_mul,Nat.sub_zero]⟩
 let ρ0:Rho:=fun x y=>if x=0 then ρ fa y else none
 have hρ0: ∀y,ρ0 0 y=ρ fa y:=fun y=>if_pos rfl
 let own:Nat->Prop:=famB F ρ0
 have hown: ∀j,own j↔ ∃(y:Nat) (o':OObj) (c':Nat),(s.H fa)[y]?=some o'/\ρ fa y=some (j,c'):=fun j=>by
  constructor
  ·rintro⟨y,o,c',g1,g2⟩;exact⟨y,_,c',(hF y _).2 ⟨o,g1,rfl⟩,by rw[<- hρ0];exact g2⟩
  rintro⟨y,o',c',g1,g2⟩;obtain⟨o,g3,_⟩:=(hF y o').1 g1;exact⟨y,o,c',g3,by rw[hρ0];exact g2⟩
 have hownX: ∀j,own j->Xo X ρ s.H j:=fun j hj=>by
  obtain⟨y,o',c',g1,g2⟩:=(hown j).1 hj;exact .inr ⟨fa,y,o',c',g1,g2⟩
 let X1:Nat->Prop:=fun j=>Xo X ρ s.H j/\ ¬own j
 have hXlt: ∀j,Xo X ρ s.H j->j<w.heap.size:=fun b hb=>by
  rcases hb with hb|⟨x,y,o',n,g1,g2⟩
  ·exact hinv.bar b hb
  exact bP (hinv.objs x y o' g1) g2
 have hset:Xo X1 ρ0 (famH 0 F)=Xo X ρ s.H:=by
  funext j;apply propext;constructor
  ·rintro(h|⟨x,y,o',c',g1,g2⟩)
   ·exact h.1
   have hx0:x=0:=by
    by_cases h:x=0
    ·exact h
    simp[famH,h]at g1
   subst hx0;exact hownX j ⟨y,o',c',by simpa[famH] using g1,g2⟩
  intro h;by_cases hj:own j
  ·obtain⟨y,o',c',g1,g2⟩:=hj;exact .inr ⟨0,y,o',c',by simpa[famH] using g1,g2⟩
  exact .inl ⟨h,hj⟩
 have f0: ∀(x y:Nat) o',(famH 0 F x)[y]?=some o'->x=0/\F[y]?=some o':=fun x y o' h=>by
  by_cases hx:x=0
  ·subst hx;exact⟨rfl,by simpa[famH] using h⟩
  simp[famH,hx]at h
 have back0: ∀x v,cW 0 x->AV.rel ρ s.H (Xo X ρ s.H) w (dq fa x) v->AV.rel ρ0 (famH 0 F) (Xo X ρ s.H) w x v:=fun x v hs h=>by
  cases x with
  |p x=>exact h
  |junk=>trivial
  |sl z y off len=>
   have hs:z=0:=hs;subst hs;obtain⟨o',g1,g2,g3⟩:=h;obtain⟨o2,g4,rfl⟩:=(hF y o').1 g1;exact⟨o2,by simpa[famH] using g4,by simpa[renO] using g2,ku hfa g3 (hρ0 y)⟩
  |ptr z y i j=>
   have hs:z=0:=hs;subst hs;obtain⟨o',b',c',g1,g2,g3,g5⟩:=h;obtain⟨o2,g4,rfl⟩:=(hF y o').1 g1;exact⟨o2,b',c',by simpa[famH] using g4,by rw[hρ0];exact g2,by simpa[renO] using g3,g5⟩
 have hinv0:Inv w own X1 (famH 0 F) ρ0 w:=by
  refine⟨Keep.refl w,fun x y o' ho'=>?_,fun x y x' y' o1 o2 j c1 c2 ho1 ho2 q1 q2=>?_,fun x y o' j c' ho' q=>?_,fun j hj=>hXlt j hj.1,fun x y o' ho'=>?_⟩
  ·obtain⟨rfl,ho'⟩:=f0 x y o' ho';rw[hset];obtain⟨z1,z2,z3⟩:=hinv.objs fa y (renO fa o') ((hF y _).2 ⟨o',ho',rfl⟩);refine⟨fun e he=>?_,z2,?_⟩
   ·have:=z1 (e.map (dq fa)) (by simp only[renO,ak];exact⟨e,he,rfl⟩);simpa[renO] using this
   rw[hρ0];cases hr:ρ fa y with
   |none=>rw[hr]at z3;simpa[renO] using z3
   |some bc=>
    obtain⟨b',c'⟩:=bc;rw[hr]at z3;obtain⟨cells,p1,p2,p3,p4,p5⟩:=z3;refine⟨cells,p1,p2,by simpa[renO] using p3,p4,fun i e j z he hz=>?_⟩;obtain⟨u,u1,u2,u3⟩:=p5 i (e.map (dq fa)) j (dq fa z) (by simp[renO,he]) (by rw[az,hz];rfl);exact⟨u,u1,u2,back0 z u (hself o' (aw ho') e (aw he) z (aw hz)) u3⟩
  ·obtain⟨rfl,ho1⟩:=f0 x y o1 ho1;obtain⟨rfl,ho2⟩:=f0 x' y' o2 ho2;exact⟨rfl,(hinv.inj fa y fa y' _ _ j c1 c2 ((hF y _).2 ⟨o1,ho1,rfl⟩) ((hF y' _).2 ⟨o2,ho2,rfl⟩) (by rw[<- hρ0];exact q1) (by rw[<- hρ0];exact q2)).2⟩
  ·obtain⟨rfl,ho'⟩:=f0 x y o' ho';have ho2:own j:=⟨y,o',c',ho',q⟩;exact⟨.inr ho2,fun h=>h.2 ho2⟩
  obtain⟨rfl,ho'⟩:=f0 x y o' ho';exact hself o' (aw ho')
 have hrun:=iD (w:=w) ho hcal (e:=a.eval) rfl hcon.able;unfold Oper.wp;rw[hrun];simp only[Oper.upon];have hsize:c.args.size=args.length:=by simpa using e1.symm
 refine(hcon.calls X1 w (c.args.map a.eval) ρ0 b cc hinv0 (by rw[hρ0];exact hρ) (by simp[hsize]) ?_ ?_).mono ?_
 ·rw[Array.getElem?_map];have:c.args[k]?=some x:=by simpa using hx
  rw[this];exact congrArg some hv
 ·intro j t hj ht;rw[hset];have ht2:(args.set k (.one (.sl fa 0 0 n)))[j]?=some t:=by rw[List.getElem?_set_ne (Ne.symm hj)];exact ht
  obtain⟨y,hy,hyt⟩:=e2 j t ht2;refine⟨a.eval y,?_,mB (fun _ h=>h) (kW (i:=0) hpure (by omega) ht) (cz htm y t hyt)⟩;rw[Array.getElem?_map];have:c.args[j]?=some y:=by simpa using hy
  rw[this];rfl
 rintro e w1 ⟨v,rfl,ρ',hi,hρ',hr1⟩;show K (a.put o.dst v) w1;refine hK v w1 ?_;have f1: ∀(x y:Nat) o',(famH 0 F' x)[y]?=some o'->x=0/\F'[y]?=some o':=fun x y o' h=>by
  by_cases hx:x=0
  ·subst hx;exact⟨rfl,by simpa[famH] using h⟩
  simp[famH,hx]at h
 generalize hH1:be s.H fa (F'.map (renO fa))=H1;generalize hρ1e:(fun x y=>if x=fa then ρ' 0 y else ρ x y:Rho)=ρ1;have hHf:H1 fa=F'.map (renO fa):=by rw[<- hH1];exact bF
 have hHn: ∀x,x≠fa->H1 x=s.H x:=fun x h=>by rw[<- hH1];exact aZ h
 have hρf: ∀y,ρ1 fa y=ρ' 0 y:=fun y=>by rw[<- hρ1e];exact if_pos rfl
 have hρn: ∀x y,x≠fa->ρ1 x y=ρ x y:=fun x y h=>by rw[<- hρ1e];exact if_neg h
 have hF1: ∀(y:Nat) o',(H1 fa)[y]?=some o'↔ ∃o,F'[y]?=some o/\o'=renO fa o:=fun y o'=>by
  rw[hHf,az];constructor
  ·intro h;obtain⟨o,g1,g2⟩:=Option.map_eq_some_iff.1 h;exact⟨o,g1,g2.symm⟩
  rintro⟨o,g1,rfl⟩;rw[g1];rfl
 have hblk: ∀j,j<w.heap.size-> ¬own j->w1.heap[j]?=w.heap[j]?:=fun j hj hno=>hi.keep.block j hj hno
 have hnew: ∀(y:Nat) o' j c',F'[y]?=some o'->ρ' 0 y=some (j,c')->(w.heap.size<=j\/own j)/\ ¬X1 j:=fun y o' j c' g1 g2=>hi.old 0 y o' j c' (by simpa[famH] using g1) g2
 have hXn: ∀j,j<w.heap.size->Xo X ρ1 H1 j->Xo X ρ s.H j:=fun j hj h=>by
  rcases h with h|⟨x,y,o',c',g1,g2⟩
  ·exact .inl h
  by_cases hx:x=fa
  ·subst hx;obtain⟨o2,g3,_⟩:=(hF1 y o').1 g1;rw[hρf]at g2;rcases(hnew y o2 j c' g3 g2).1 with g|g
   ·omega
   exact hownX j g
  rw[hHn x hx]at g1;rw[hρn x y hx]at g2;exact .inr ⟨x,y,o',c',g1,g2⟩
 have monop: ∀x v,cu (Xo X ρ s.H) w x v->cu (Xo X ρ1 H1) w1 x v:=fun x v h=>cu.later (fun j hj hx=>hXn j hj hx) hi.keep.size (fun p v hp hno hc=>by
  rw[<- hc];exact lG (hblk p.block hp fun h=>hno (hownX _ h))) h
 -- what the call says of the family, told of number fa
 have hset1: ∀j,j<w1.heap.size->Xo X ρ1 H1 j->Xo X1 ρ' (famH 0 F') j:=fun j _ h=>by
  rcases h with h|⟨x,y,o',c',g1,g2⟩
  ·have hj:=hinv.bar j h;by_cases ho2:own j
   ·obtain⟨y,o',c',g1,g2⟩:=(hown j).1 ho2;exact absurd h (hinv.old fa y o' j c' g1 g2).2
   exact .inl ⟨.inl h,ho2⟩
  by_cases hx:x=fa
  ·subst hx;obtain⟨o2,g3,_⟩:=(hF1 y o').1 g1;rw[hρf]at g2;exact .inr ⟨0,y,o2,c',by simpa[famH] using g3,g2⟩
  rw[hHn x hx]at g1;rw[hρn x y hx]at g2;by_cases ho2:own j
  ·obtain⟨y',o2,c2,k1,k2⟩:=(hown j).1 ho2;exact absurd (hinv.inj x y fa y' o' o2 j c' c2 g1 k1 g2 k2).1 hx
  exact .inl ⟨.inr ⟨x,y,o',c',g1,g2⟩,ho2⟩
 have fwd: ∀x v,cW 0 x->AV.rel ρ' (famH 0 F') (Xo X1 ρ' (famH 0 F')) w1 x v->AV.rel ρ1 H1 (Xo X ρ1 H1) w1 (dq fa x) v:=fun x v hs h=>by
  cases x with
  |p x=>exact cu.weaken (fun j hj hx=>hset1 j hj hx) h
  |junk=>trivial
  |sl z y off len=>
   have hs:z=0:=hs;subst hs;obtain⟨o',g1,g2,g3⟩:=h;obtain⟨_,g1⟩:=f1 0 y o' g1;exact⟨renO fa o',(hF1 y _).2 ⟨o',g1,rfl⟩,by simpa[renO] using g2,ku (by decide) g3 (hρf y)⟩
  |ptr z y i j=>
   have hs:z=0:=hs;subst hs;obtain⟨o',b',c',g1,g2,g3,g5⟩:=h;obtain⟨_,g1⟩:=f1 0 y o' g1;exact⟨renO fa o',b',c',(hF1 y _).2 ⟨o',g1,rfl⟩,by rw[hρf];exact g2,by simpa[renO] using g3,g5⟩
 have mono: ∀x v,AV.rel ρ s.H (Xo X ρ s.H) w x v->AV.rel ρ1 H1 (Xo X ρ1 H1) w1 (bs (kM fa) x) v:=fun x v h=>by
  cases x with
  |p x=>exact monop x v h
  |junk=>trivial
  |sl z y off len=>
   obtain⟨o',g1,g2,g3⟩:=h;simp only[bs];by_cases hz:z=fa
   ·subst hz;by_cases hy:y=0
    ·subst hy;obtain⟨o2,g4,rfl⟩:=(hF 0 o').1 g1;rw[ho0]at g4;injection g4 with g4
     subst g4;rw[if_neg (by simp[kM])];refine⟨renO z o1,(hF1 0 _).2 ⟨o1,ho1,rfl⟩,by simp[renO]at g2⊢;omega,?_⟩;have:(renO z o1).es=(renO z o0).es:=hes;rw[this];exact ku hfa g3 (by rw[hρf,hρ',hρ])
    rw[if_pos (by simp[kM,hy])];trivial
   rw[if_neg (by simp[kM,hz])];exact⟨o',by rw[hHn z hz];exact g1,g2,by rw[hρn z y hz];exact g3⟩
  |ptr z y i j=>
   obtain⟨o',b',c',g1,g2,g3,g5⟩:=h;simp only[bs];by_cases hz:z=fa
   ·subst hz;by_cases hy:y=0
    ·subst hy;obtain⟨o2,g4,rfl⟩:=(hF 0 o').1 g1;rw[ho0]at g4;injection g4 with g4
     subst g4;rw[if_neg (by simp[kM])];refine⟨renO z o1,b',c',(hF1 0 _).2 ⟨o1,ho1,rfl⟩,by rw[hρf,hρ',<- hρ];exact g2,by simp[renO]at g3⊢;omega,?_⟩;have:(renO z o1).es=(renO z o0).es:=hes;rw[this];exact g5
    rw[if_pos (by simp[kM,hy])];trivial
   rw[if_neg (by simp[kM,hz])];exact⟨o',b',c',by rw[hHn z hz];exact g1,by rw[hρn z y hz];exact g2,g3,g5⟩
 have monoN: ∀(z:Nat) x v,z≠fa->cW z x->AV.rel ρ s.H (Xo X ρ s.H) w x v->AV.rel ρ1 H1 (Xo X ρ1 H1) w1 x v:=fun z x v hz hs h=>by
  have:=mono x v h;cases x with
  |sl y _ _ _=>have hs:y=z:=hs;subst hs;simpa[bs,kM,hz] using this
  |ptr y _ _ _=>have hs:y=z:=hs;subst hs;simpa[bs,kM,hz] using this
  |p x=>exact this
  |junk=>trivial
 have hinv':Inv w0 O X H1 ρ1 w1:=by
  refine⟨⟨hi.keep.os.trans hinv.keep.os,hi.keep.tape.trans hinv.keep.tape,hi.keep.output.trans hinv.keep.output,Nat.le_trans hinv.keep.size hi.keep.size,fun j hj hno=>?_⟩,fun x y o' ho'=>?_,fun x y x' y' o1 o2 j c1 c2 ho1 ho2 q1 q2=>?_,fun x y o' j c' ho' q=>?_,fun j hj=>Nat.lt_of_lt_of_le (hinv.bar j hj) hi.keep.size,fun x y o' ho'=>?_⟩
  ·rw[hblk j (Nat.lt_of_lt_of_le hj hinv.keep.size) fun h=>?_]
   ·exact hinv.keep.block j hj hno
   obtain⟨y,o',c',g1,g2⟩:=(hown j).1 h;rcases(hinv.old fa y o' j c' g1 g2).1 with g|g
   ·omega
   exact hno g
  ·by_cases hx:x=fa
   ·subst hx;obtain⟨o2,g3,rfl⟩:=(hF1 y o').1 ho';obtain⟨z1,z2,z3⟩:=hi.objs 0 y o2 (by simpa[famH] using g3);refine⟨fun e he=>?_,z2,?_⟩
    ·simp only[renO,ak]at he;obtain⟨e',he',rfl⟩:=he;rw[List.length_map];exact z1 e' he'
    rw[hρf];cases hr:ρ' 0 y with
    |none=>rw[hr]at z3;simp[renO,z3]
    |some bc=>
     obtain⟨b',c'⟩:=bc;rw[hr]at z3;obtain⟨cells,p1,p2,p3,p4,p5⟩:=z3;refine⟨cells,p1,p2,by simpa[renO] using p3,p4,fun i e j z he hz=>?_⟩;simp only[renO,az]at he;obtain⟨e',he',rfl⟩:=Option.map_eq_some_iff.1 he;rw[az]at hz;obtain⟨z',hz',rfl⟩:=Option.map_eq_some_iff.1 hz;obtain⟨u,u1,u2,u3⟩:=p5 i e' j z' he' hz';exact⟨u,u1,u2,fwd z' u (hself' o2 (aw g3) e' (aw he') z' (aw hz')) u3⟩
   rw[hHn x hx]at ho';have hob:=hinv.objs x y o' ho';obtain⟨z1,z2,z3⟩:=id hob;refine⟨z1,z2,?_⟩;rw[hρn x y hx];cases hr:ρ x y with
   |none=>rw[hr]at z3;exact z3
   |some bc=>
    obtain⟨b',c'⟩:=bc;rw[hr]at z3;obtain⟨cells,p1,p2,p3,p4,p5⟩:=z3;refine⟨cells,?_,p2,p3,p4,fun i e j z he hz=>?_⟩
    ·rw[hblk b' (bP hob hr) fun h=>?_]
     ·exact p1
     obtain⟨y',o2,c2,k1,k2⟩:=(hown b').1 h;exact hx (hinv.inj x y fa y' o' o2 b' c' c2 ho' k1 hr k2).1
    obtain⟨u,u1,u2,u3⟩:=p5 i e j z he hz;exact⟨u,u1,u2,monoN x z u hx (hinv.self x y o' ho' e (aw he) z (aw hz)) u3⟩
  ·by_cases hx:x=fa
   ·subst hx;obtain⟨o3,g3,_⟩:=(hF1 y o1).1 ho1;rw[hρf]at q1;by_cases hx':x'=x
    ·subst hx';obtain⟨o4,g4,_⟩:=(hF1 y' o2).1 ho2;rw[hρf]at q2;exact⟨rfl,(hi.inj 0 y 0 y' o3 o4 j c1 c2 (by simpa[famH] using g3) (by simpa[famH] using g4) q1 q2).2⟩
    rw[hHn x' hx']at ho2;rw[hρn x' y' hx']at q2;exfalso;have hlt:=bP (hinv.objs x' y' o2 ho2) q2;rcases(hnew y o3 j c1 g3 q1).1 with g|g
    ·omega
    obtain⟨y3,o5,c5,k1,k2⟩:=(hown j).1 g;exact hx' (hinv.inj x' y' x y3 o2 o5 j c2 c5 ho2 k1 q2 k2).1
   rw[hHn x hx]at ho1;rw[hρn x y hx]at q1;by_cases hx':x'=fa
   ·subst hx';obtain⟨o4,g4,_⟩:=(hF1 y' o2).1 ho2;rw[hρf]at q2;exfalso;have hlt:=bP (hinv.objs x y o1 ho1) q1;rcases(hnew y' o4 j c2 g4 q2).1 with g|g
    ·omega
    obtain⟨y3,o5,c5,k1,k2⟩:=(hown j).1 g;exact hx (hinv.inj x y x' y3 o1 o5 j c1 c5 ho1 k1 q1 k2).1
   rw[hHn x' hx']at ho2;rw[hρn x' y' hx']at q2;exact hinv.inj x y x' y' o1 o2 j c1 c2 ho1 ho2 q1 q2
  ·by_cases hx:x=fa
   ·subst hx;obtain⟨o3,g3,_⟩:=(hF1 y o').1 ho';rw[hρf]at q;rcases(hnew y o3 j c' g3 q).1 with g|g
    ·refine⟨.inl (Nat.le_trans hinv.keep.size g),fun hX=>?_⟩;have:=hinv.bar j hX;omega
    obtain⟨y3,o5,c5,k1,k2⟩:=(hown j).1 g;exact hinv.old x y3 o5 j c5 k1 k2
   rw[hHn x hx]at ho';rw[hρn x y hx]at q;exact hinv.old x y o' j c' ho' q
  by_cases hx:x=fa
  ·subst hx;obtain⟨o3,g3,rfl⟩:=(hF1 y o').1 ho';intro e he z hz;simp only[renO,ak]at he;obtain⟨e',he',rfl⟩:=he;simp only[ak]at hz;obtain⟨z',hz',rfl⟩:=hz;exact jp x z'
  rw[hHn x hx]at ho';exact hinv.self x y o' ho'
 have htm':bY X ρ1 ⟨s.tmps.map (bo (kM fa)),H1⟩ a w1:=fun t x hx=>by
  simp only[az]at hx;obtain⟨y,hy,rfl⟩:=Option.map_eq_some_iff.1 hx;obtain⟨u,u1,u2⟩:=htm t y hy;exact⟨u,u1,mr u2 mono⟩
 refine⟨by rw[iS];exact h1,by rw[lT,gB];simpa using hsz,ρ1,by rw[jC];exact hinv',sM (s:=⟨s.tmps.map (bo (kM fa)),H1⟩) (by simpa using hsz) htm' ?_⟩;exact EL (fun j hj hx=>hset1 j hj hx) hcon.noref hr1
end
end
end Go.Proofs.YtiollbhgpiiodaaGreatDoor
