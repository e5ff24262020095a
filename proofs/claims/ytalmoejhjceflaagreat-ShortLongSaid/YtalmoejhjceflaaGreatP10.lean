/-
  Part 11 of a proof (walks and plain facts).
-/
import Derived.Test.YtalmoejhjceflaaGreatP09
import Derived.RangeFuncLeaves
set_option linter.all false
set_option maxRecDepth 100000
set_option maxHeartbeats 64000000
open Nat renaming le_refl → ae
open List renaming all_eq_true → aj
open List renaming getElem?_append_left → aq
open List renaming getElem?_append_right → ar
open List renaming mem_of_getElem? → ax
open List renaming getElem?_map → az
namespace Go.Proofs.YtalmoejhjceflaaGreat
open Go.RowKit
section
structure jd (γ:Type) where
 B:Nat->Prop
 G:γ->World->Prop
 sp: ∀(g:γ) (w w':World),(∀j,B j->w'.heap[j]?=w.heap[j]?)->G g w->G g w'
def QZ:jd Unit:=⟨fun _=>False,fun _ _=>True,fun _ _ _ _ h=>h⟩
section
variable {P:Program} {γ:Type} {L:jd γ} {g g':γ} {w0 w:World} {O X:Nat->Prop} {s s':AS} {a:Act}
def ee (L:jd γ) (w0:World) (O X:Nat->Prop) (g:γ) (s:AS) (a:Act) (w:World):Prop:=cW w0 O X s a w/\(∀j,L.B j->O j/\X j)/\L.G g w
theorem ee.rebase (h:ee L w0 O X g s a w): ∃Own:Nat->Prop,cW w Own X s a w/\ ∀s1 a1 w1,cW w Own X s1 a1 w1->ee L w0 O X g s1 a1 w1:=by
 obtain⟨⟨h1,hsz,ρ,hinv,htm⟩,hB,hG⟩:=h;refine⟨fun j=> ∃(x r:Nat) (o:OObj) (c:Nat),(s.H x)[r]?=some o/\ρ x r=some (j,c),⟨h1,hsz,ρ,⟨Keep.refl w,hinv.objs,hinv.inj,fun x r o j c ho hj=>⟨.inr ⟨x,r,o,c,ho,hj⟩,(hinv.old x r o j c ho hj).2⟩,hinv.bar,hinv.self⟩,htm⟩,?_⟩;rintro s1 a1 w1 ⟨k1,ksz,ρ1,kinv,ktm⟩;have hown: ∀j,(∃(x r:Nat) (o:OObj) (c:Nat),(s.H x)[r]?=some o/\ρ x r=some (j,c))->(w0.heap.size<=j\/O j)/\ ¬X j:=fun j ⟨x,r,o,c,g1,g2⟩=>hinv.old x r o j c g1 g2
 refine⟨⟨k1,ksz,ρ1,⟨⟨kinv.keep.os.trans hinv.keep.os,kinv.keep.tape.trans hinv.keep.tape,kinv.keep.output.trans hinv.keep.output,Nat.le_trans hinv.keep.size kinv.keep.size,fun j hj hn=>?_⟩,kinv.objs,kinv.inj,fun x r o j c ho hj=>?_,kinv.bar,kinv.self⟩,ktm⟩,hB,?_⟩
 ·rw[kinv.keep.block j (Nat.lt_of_lt_of_le hj hinv.keep.size) (fun hh=>by
   rcases(hown j hh).1 with h|h
   ·omega
   exact hn h)]
  exact hinv.keep.block j hj hn
 ·obtain⟨g1,g2⟩:=kinv.old x r o j c ho hj;refine⟨?_,g2⟩;rcases g1 with g|g
  ·exact .inl (Nat.le_trans hinv.keep.size g)
  exact(hown j g).1
 exact L.sp g w w1 (fun j hj=>kinv.keep.block j (hinv.bar j (hB j hj).2) (fun hh=>(hown j hh).2 (hB j hj).2)) hG
theorem pW:EH (ee L w0 O X g):=fun _ _ w h=>by
 obtain⟨Own,h1,h2⟩:=h.rebase;exact⟨w,Own,X,h1,h2⟩
def nK (P:Program) (L:jd γ) (c:Code) (Q:Exit->AS->γ->Prop) (s:AS) (g:γ):Prop:=
 ∀(w0:World) (O X:Nat->Prop) (a:Act) (w:World),ee L w0 O X g s a w->c.wp P (fun e a' w'=> ∃s' g',Q e s' g'/\ee L w0 O X g' s' a' w') a w
def ux (next:AS->γ->Prop) (Q:Exit->AS->γ->Prop):Exit->AS->γ->Prop
 | .normal,s,k=>next s k
 |e,s,k=>Q e s k
def Bs (id:Nat) (Q:Exit->AS->γ->Prop):Exit->AS->γ->Prop
 | .exit id',s,k=>if id'=id then Q .normal s k else Q (.exit id') s k
 |e,s,k=>Q e s k
variable {Q:Exit->AS->γ->Prop}
theorem OS {c:Code} (h:bu P c (fun e s'=>Q e s' g) s):nK P L c Q s g:=fun w0 O X a w r=>by
 obtain⟨Own,h1,h2⟩:=r.rebase;exact wp_mono (h _ _ _ _ _ h1) fun e a' w' ⟨s',g1,g2⟩=>⟨s',g,g1,h2 _ _ _ g2⟩
theorem ee.weak (h:bW s s') (r:ee L w0 O X g s a w):ee L w0 O X g s' a w:=by
 obtain⟨Own,h1,h2⟩:=r.rebase;exact h2 _ _ _ (h _ _ _ _ _ h1)
theorem nK.weak {c:Code} (h:bW s s') (k:nK P L c Q s' g):nK P L c Q s g:=fun _ _ _ _ _ r=>k _ _ _ _ _ (r.weak h)
theorem nK.mono {c:Code} {Q':Exit->AS->γ->Prop} (h:nK P L c Q s g) (k: ∀e s' g',Q e s' g'->Q' e s' g'):nK P L c Q' s g:=fun _ _ _ _ _ r=>
 wp_mono (h _ _ _ _ _ r) fun _ _ _ ⟨s',g',h1,h2⟩=>⟨s',g',k _ _ _ h1,h2⟩
theorem yx (h:Q .normal s g):nK P L .skip Q s g:=fun _ _ _ _ _ r=>wp_skip ⟨s,g,h,r⟩
theorem LH (h:Q .ret s g):nK P L .ret Q s g:=fun _ _ _ _ _ r=>wp_ret ⟨s,g,h,r⟩
theorem rn {x y:Code} (h:nK P L x (ux (nK P L y Q) Q) s g):nK P L (.seq x y) Q s g:=fun _ _ _ _ _ r=>
 wp_seq (wp_mono (h _ _ _ _ _ r) fun e a w ⟨s',g',h1,h2⟩=>by
  cases e with
  |normal=>exact h1 _ _ _ _ _ h2
  |_=>exact⟨s',g',h1,h2⟩)
theorem nW {c:Operand} {x y:Code} {v:Bool} (hc:s.ev c=some (.raw (.bool v))) (ht:v=true->nK P L x Q s g) (hf:v=false->nK P L y Q s g):nK P L (.cond c x y) Q s g:=fun _ _ _ _ _ r=>by
 obtain⟨⟨h1,hsz,ρ,hinv,htm⟩,_⟩:=id r;have hb:=(bs (bD htm c _ hc)).1;exact wp_cond_split hb (fun h=>ht h _ _ _ _ _ r) (fun h=>hf h _ _ _ _ _ r)
theorem OR {c:Operand} {x y:Code} (hc:s.ev c=some (.raw (.bool true))) (h:nK P L x Q s g):nK P L (.cond c x y) Q s g:=nW hc (fun _=>h) (fun h=>by cases h)
theorem OQ {c:Operand} {x y:Code} (hc:s.ev c=some (.raw (.bool false))) (h:nK P L y Q s g):nK P L (.cond c x y) Q s g:=nW hc (fun h=>by cases h) (fun _=>h)
theorem Hv {y:Code} (items:List (aH P)) (ow:List Nat) {id:Nat} {ops:Array Oper} (h: ∀K:AS->Prop,(∀s',nK P L y Q s' g->K s')->ca P (items.map aH.a) ow (bC ops ops.toList 0) (some s) K):nK P L (.seq (.region id ops false) y) Q s g:=
 rn (OS (li items ow h))
theorem pE {y:Code} {id:Nat} {ops:Array Oper} (h: ∀K:AS->Prop,(∀s',nK P L y Q s' g->K s')->ca P [] [] (bC ops ops.toList 0) (some s) K):nK P L (.seq (.region id ops false) y) Q s g:=Hv [] [] h
structure mM (P:Program) (L:jd γ) (f:FuncId) (args:List TV) (F F':List OObj) (g g':γ) (r:TV):Prop where
 able:callable P f=true
 sA: ∀t∈args,selfTV 0 t
 sR:selfTV 0 r
 sF: ∀o∈F,selfO 0 o
 sF': ∀o∈F',selfO 0 o
 calls: ∀(X:Nat->Prop) (w:World) (vs:Array Value) (ρ:Rho),Inv w (fun j=>famB F ρ j\/L.B j) X (famH 0 F) ρ w->(∀j,L.B j->X j)->L.G g w->vs.size=args.length->
  (∀(j:Nat) t,args[j]?=some t-> ∃v:Value,vs[j]?=some v/\t.rel ρ (famH 0 F) (Xo X ρ (famH 0 F)) w v)->
  Calls P f vs w fun e w'=> ∃v,e= .returned v/\ ∃ρ':Rho,Inv w (fun j=>famB F ρ j\/L.B j) X (famH 0 F') ρ' w'/\L.G g' w'/\r.rel ρ' (famH 0 F') (Xo X ρ' (famH 0 F')) w' v
theorem Ii {f:FuncId} {fn:Func} {c:Code} {args:List TV} {F F':List OObj} {r:TV} (hf:P.funcs[f]?=some fn) (hb:fn.body=some c) (hn:callable P f=true)
  (sA: ∀t∈args,selfTV 0 t) (sR:selfTV 0 r) (sF: ∀o∈F,selfO 0 o) (sF': ∀o∈F',selfO 0 o)
  (h:nK P L c (fun e s k=>(e= .normal\/e= .ret)/\k=g'/\ ∃s',bW s s'/\Rg P fn F' r s') ⟨args++List.replicate (fn.ntmps-args.length) .undef,famH 0 F⟩ g):mM P L f args F F' g g' r:=by
 refine⟨hn,sA,sR,sF,sF',fun X w vs ρ hinv0 hB hG hvs hargs=>?_⟩;refine calls_of_wp hf hb ?_;have hrel:cW w (fun j=>famB F ρ j\/L.B j) X ⟨args++List.replicate (fn.ntmps-args.length) .undef,famH 0 F⟩ {tmps:=vs++Array.replicate (fn.ntmps-vs.size) undef,defers:=[]} w:=by
  refine⟨rfl,by simp[hvs],ρ,hinv0,fun t x hx=>?_⟩;by_cases ht:t<args.length
  ·rw[aq ht]at hx;obtain⟨v,v1,v2⟩:=hargs t x hx;exact⟨v,by rw[Array.getElem?_append_left (by omega)];exact v1,v2⟩
  rw[ar (by omega),List.getElem?_replicate]at hx;split at hx
  ·rename_i hlt;injection hx with hx
   subst hx;refine⟨undef,?_,dX⟩;rw[Array.getElem?_append_right (by omega),Array.getElem?_replicate,if_pos (by omega)]
  cases hx
 refine wp_mono (h _ _ _ _ _ ⟨hrel,fun j hj=>⟨.inr hj,hB j hj⟩,hG⟩) fun e a' w' ⟨s1,k,⟨hee,hk,s2,hw,hW2,hW3⟩,hrel1,_,hG1⟩=>?_
 subst hk;obtain⟨h1,hsz,ρ',hinv,htm⟩:=hw _ _ _ _ _ hrel1;have htm:bq X ρ' s2 a' w':=htm;rw[hW2]at hinv;obtain⟨v,v1,v2⟩:=eL (by rw[hW2];exact hinv) htm hW3;rw[hW2]at v2;rcases hee with rfl|rfl
 ·exact⟨h1,v,v1,v,rfl,ρ',hinv,hG1,v2⟩
 exact⟨h1,v,v1,v,rfl,ρ',hinv,hG1,v2⟩
theorem Df.toL {f:FuncId} {args:List TV} {F F':List OObj} {r:TV} (h:Df P f args F F' r):mM P QZ f args F F' () () r:=by
 refine⟨h.able,h.sA,h.sR,h.sF,h.sF',fun X w vs ρ hinv _ _ hvs hargs=>?_⟩;have e0:(fun j=>famB F ρ j\/QZ.B j)=famB F ρ:=funext fun j=>propext (or_iff_left id)
 rw[e0]at hinv⊢;exact(h.calls X w vs ρ hinv hvs hargs).mono fun e w' ⟨v,h1,ρ',h2,h3⟩=>⟨v,h1,ρ',h2,trivial,h3⟩
def nf (o:Oper) (s:AS):Option (FuncId×List TV):=match o.op with
 | .call c=>match c.callee with
  | .value (.func f)=>(ew s.ev c.args.toList).map fun ts=>(f,ts)
  | .value (.tmp k)=>match Bu (s.ev (.tmp k)),ew s.ev c.args.toList with
   |some (f,extra),some ts=>some (f,ts++extra)
   |_,_=>none
  |_=>none
 |_=>none
def cxTs (ops:Array Oper) (m:Nat) (s:AS):Option (FuncId×List TV):=match ops[m]? with
 |some o=>if o.guard.isNone then nf o s else none
 |none=>none
structure yl (ops:Array Oper) (m:Nat) (f:FuncId) (args:List TV) (fa:Nat) (F:List OObj) (s:AS):Prop where
 ts:cxTs ops m s=some (f,args.map (renTV fa))
 fam:s.H fa=F.map (renO fa)
theorem Gq {f:FuncId} {args:List TV} {F F':List OObj} {r:TV} (hcon:mM P L f args F F' g g' r) {fa:Nat} (hfa:fa<=4999) {o:Oper} {s1:AS} (hts:nf o s1=some (f,args.map (renTV fa))) (hfam:s1.H fa=F.map (renO fa)):
  wJ P o (ee L w0 O X g s1) (ee L w0 O X g' (AS.put ⟨s1.tmps.map (a7 (kF fa)),aJ s1.H fa (F'.map (renO fa))⟩ o.dst (renTV fa r))):=fun a w K Q ⟨⟨h1,hsz,ρ,hinv,htm⟩,hB,hG⟩ hK=>by
 have htm:bq X ρ s1 a w:=htm;obtain⟨X1,ρ0,g1,g2,g3,_,g4⟩:=sE (B:=L.B) h1 hsz hinv htm hB hcon.sR hcon.sF hcon.sF' hfa hfam;refine iF (.inl rfl) ?_;have key: ∀vs:Array Value,(execOp a.eval o).run P w= .ok (.enter f vs) w->vs.size=args.length->(∀(j:Nat) t,args[j]?=some t-> ∃v:Value,vs[j]?=some v/\(renTV fa t).rel ρ s1.H (Xo X ρ s1.H) w v)->o.wp P a w K Q:=fun vs hrun hvs hargs=>by
  unfold Oper.wp;rw[hrun];simp only[Oper.upon];refine(hcon.calls X1 w vs ρ0 g1 g2 hG hvs fun j t ht=>?_).mono ?_
  ·obtain⟨v,v1,v2⟩:=hargs j t ht;exact⟨v,v1,g3 t v (hcon.sA t (ax ht)) v2⟩
  rintro e w1 ⟨v,rfl,ρ',hi,hG1,hr1⟩;exact hK v w1 ⟨g4 v w1 ρ' hi hr1 o.dst,hB,hG1⟩
 unfold nf at hts;split at hts
 ·rename_i c hop;split at hts
  ·rename_i f' hcal;obtain⟨ts,hev,e⟩:=Option.map_eq_some_iff.1 hts;injection e with e e'
   subst e e';obtain⟨e1,e2⟩:=bZ hev;have hsize:c.args.size=args.length:=by simpa using e1.symm
   refine key _ (i7 hop hcal rfl hcon.able) (by simp[hsize]) fun j t ht=>?_
   obtain⟨y,hy,hyt⟩:=e2 j (renTV fa t) (by rw[az,ht];rfl);refine⟨a.eval y,?_,bD htm y _ hyt⟩;rw[Array.getElem?_map];have:c.args[j]?=some y:=by simpa using hy
   rw[this];rfl
  ·rename_i k hcal;split at hts
   ·rename_i f' extra ts hcl hev;injection hts with hts
    injection hts with e e'
    subst e;obtain⟨e1,e2⟩:=bZ hev;obtain⟨us,k1,k2,k3⟩:=iJ (v:=a.eval (.tmp k)) (fun t0 ht0=>bD htm (.tmp k) t0 ht0) hcl;have hlen:args.length=c.args.size+us.size:=by
     have:=congrArg List.length e';simp[e1,<- k2]at this;omega
    refine key _ (iO hop hcal k1 hcon.able) (by simp[hlen]) fun j t ht=>?_
    have ht2:(ts++extra)[j]?=some (renTV fa t):=by rw[e',az,ht];rfl
    by_cases hj:j<ts.length
    ·rw[aq hj]at ht2;obtain⟨y,hy,hyt⟩:=e2 j _ ht2;refine⟨a.eval y,?_,bD htm y _ hyt⟩;rw[Array.getElem?_append_left (by simp at e1⊢;omega),Array.getElem?_map];have:c.args[j]?=some y:=by simpa using hy
     rw[this];rfl
    rw[ar (by omega)]at ht2;obtain⟨v,v1,v2⟩:=k3 _ _ ht2;refine⟨v,?_,v2⟩;rw[Array.getElem?_append_right (by simp at e1⊢;omega)];simp at e1⊢;rw[<- e1];exact v1
   cases hts
  cases hts
 cases hts
theorem Gn {f:FuncId} {args:List TV} {F F':List OObj} {r:TV} (hcon:mM P L f args F F' g g' r) {fa:Nat} (hfa:fa<=4999) {ops:Array Oper} {m:Nat} {s1:AS} (h:yl ops m f args fa F s1):
  nR P ops m (ee L w0 O X g s1) (ee L w0 O X g' (QW ops m r fa F' s1)):=by
 obtain⟨h1,h2⟩:=h;unfold cxTs at h1;split at h1
 ·rename_i o ho;split at h1
  ·rename_i hg;refine⟨o,ho,by simpa using hg,?_⟩;unfold QW jY;rw[ho];exact Gq hcon hfa h1 h2
  cases h1
 cases h1
theorem EN (hmx:P.follows .mixedOrders=true) {f:FuncId} {args:List TV} {F F':List OObj} {r:TV} (hcon:mM P L f args F F' g g' r) (fa:Nat) (items:List (aH P)) (ow:List Nat) {id:Nat} {ops:Array Oper} (hfa:fa<=4999) (hE:xf ops=true)
  (h:ca P (items.map aH.a) ow (bC ops (ops.toList.take (ops.size-1)) 0) (some s) (fun s1=>yl ops (ops.size-1) f args fa F s1/\Q .normal (QW ops (ops.size-1) r fa F' s1) g')):nK P L (.region id ops true) Q s g:=fun w0 O X a w r0=>by
 obtain⟨s1,h1,q,h2⟩:=bi P (items.map aH.a) ow ops _ 0 s _ h;exact DH (R1:=ee L w0 O X g) (R2:=ee L w0 O X g') pW hmx items ow hE h1 (Gn hcon hfa q) r0 fun a' w' r'=>⟨_,g',h2,r'⟩
theorem M5:ee QZ w0 O X () s a w↔cW w0 O X s a w:=⟨fun h=>h.1,fun h=>⟨h,fun _ h=>h.elim,trivial⟩⟩
end
end
section
section
variable {P:Program} {γ:Type} {L:jd γ} {g g':γ} {w0 w w':World} {O X:Nat->Prop} {s s':AS} {a:Act}
theorem cW.turn {B:Nat->Prop} (h:cW w0 O X s a w) (hB: ∀j,B j->O j/\X j) (k:Keep B w w'):cW w0 O X s a w':=by
 obtain⟨h1,hsz,ρ,hinv,htm⟩:=h;have hown: ∀(x r:Nat) (o:OObj) (b c:Nat),(s.H x)[r]?=some o->ρ x r=some (b,c)->w'.heap[b]?=w.heap[b]?:=fun x r o b c g1 g2=>
  k.block b (bO (hinv.objs x r o g1) g2) fun hb=>(hinv.old x r o b c g1 g2).2 (hB b hb).2
 have mono: ∀x v,AV.rel ρ s.H (Xo X ρ s.H) w x v->AV.rel ρ s.H (Xo X ρ s.H) w' x v:=n9 fun x v hn h=>by
  cases x with
  |fn=>cases hn
  |p x=>exact bX.later (fun _ _ h=>h) k.size (fun p v hp hno hc=>by rw[<- hc];exact iK (k.block p.block hp fun hb=>hno (.inl (hB _ hb).2))) h
  |sl x r off len=>exact h
  |ptr x r i j=>exact h
  |junk=>trivial
 refine⟨h1,hsz,ρ,⟨⟨k.os.trans hinv.keep.os,k.tape.trans hinv.keep.tape,k.output.trans hinv.keep.output,Nat.le_trans hinv.keep.size k.size,fun j hj hn=>?_⟩,fun x r o ho=>?_,hinv.inj,hinv.old,fun j hj=>Nat.lt_of_lt_of_le (hinv.bar j hj) k.size,hinv.self⟩,fun t x hx=>?_⟩
 ·rw[k.block j (Nat.lt_of_lt_of_le hj hinv.keep.size) fun hb=>hn (hB j hb).1];exact hinv.keep.block j hj hn
 ·obtain⟨q1,q2,q3⟩:=hinv.objs x r o ho;refine⟨q1,q2,?_⟩;cases hr:ρ x r with
  |none=>rw[hr]at q3;exact q3
  |some bc=>
   obtain⟨b,c⟩:=bc;rw[hr]at q3;obtain⟨cells,p1,p2,p3,p4,p5⟩:=q3;refine⟨cells,by rw[hown x r o b c ho hr];exact p1,p2,p3,p4,fun i e j z he hz=>?_⟩;obtain⟨u,u1,u2,u3⟩:=p5 i e j z he hz;exact⟨u,u1,u2,mono z u u3⟩
 obtain⟨v,v1,v2⟩:=htm t x hx;refine⟨v,v1,TV.rel_map v2 mono⟩
def pG (P:Program) (L:jd γ) (l:Nat) (args:List Value) (g g':γ) (b:Bool):Prop:=
 ∀w:World,L.G g w-> ∃fn tmps assign body,(Instr.yield l args.toArray).run P w= .ok (.round l fn tmps assign body) w/\
  RoundIn (FW none) 0 P l fn tmps assign body w fun e w'=>e= .returned (.bool b)/\Keep L.B w w'/\L.G g' w'
def tI:List TV->Option (List Value)
 |[]=>some []
 | .one (.p (.raw v))::l=>(tI l).map (v:: ·)
 |_=>none
theorem qR: ∀{ts:List TV} {vs:List Value},tI ts=some vs->ts=vs.map TV.raw
 |[],vs,h=>by simp only[tI]at h;injection h with h;subst h;rfl
 |t::ts,vs,h=>by
  unfold tI at h;split at h
  ·rename_i e;cases e
  ·rename_i v l e;injection e with e1 e2
   subst e1 e2;obtain⟨us,hu,rfl⟩:=Option.map_eq_some_iff.1 h;rw[qR hu];rfl
  cases h
def Q6 (ops:Array Oper) (m:Nat) (s:AS):Option (Nat×List Value):=match ops[m]? with
 |some o=>match o.guard,o.op with
  |none,.call c=>match c.callee with
   | .value (.tmp k)=>match s.ev (.tmp k),(ew s.ev c.args.toList).bind tI with
    |some (.one (.p (.raw (.func (.yield l) first caps)))),some vs=>if first.isEmpty&&caps.isEmpty then some (l,vs)else none
    |_,_=>none
   |_=>none
  |_,_=>none
 |none=>none
def yS (ops:Array Oper) (m:Nat) (b:Bool) (s:AS):AS:=s.put (jY ops m) (.raw (.bool b))
theorem ur {l:Nat} {args:List Value} {b:Bool} (hy:pG P L l args g g' b) {ops:Array Oper} {m:Nat} {s1:AS} (h:Q6 ops m s1=some (l,args)):
  nR P ops m (ee L w0 O X g s1) (ee L w0 O X g' (yS ops m b s1)):=by
 unfold Q6 at h;split at h
 case h_2=>cases h
 rename_i o ho;split at h
 case h_2=>cases h
 rename_i c hg hop;split at h
 case h_2=>cases h
 rename_i k hcal;split at h
 case h_2=>cases h
 rename_i l' first caps vs hk hvs
 split at h
 case isFalse=>cases h
 rename_i hc;injection h with h
 injection h with e1 e2
 subst e1 e2;simp only[Bool.and_eq_true,Array.isEmpty_iff]at hc;obtain⟨rfl,rfl⟩:=hc;obtain⟨ts,hts,hraw⟩:=Option.bind_eq_some_iff.1 hvs;have hraw:=qR hraw;subst hraw;refine⟨o,ho,hg,fun a w K Q ⟨hr,hB,hG⟩ hK=>?_⟩;obtain⟨h1,hsz,ρ,hinv,htm⟩:=id hr;have htm:bq X ρ s1 a w:=htm;have hkv:=(bs (bD htm (.tmp k) _ hk)).1;obtain⟨q1,q2⟩:=bZ hts;have hargs:c.args.map a.eval=vs.toArray:=by
  apply Array.ext';apply List.ext_getElem?;intro j;simp only[Array.toList_map,az];cases hj:vs[j]? with
  |none=>
   have:c.args.toList[j]?=none:=by
    rw[List.getElem?_eq_none_iff]at hj⊢;simp at q1 hj⊢;omega
   rw[this];rfl
  |some v=>
   obtain⟨y,hy1,hy2⟩:=q2 j (.raw v) (by rw[az,hj];rfl);rw[hy1];exact congrArg some (bs (bD htm y _ hy2)).1
 obtain⟨fn,tmps,assign,body,hrun,hround⟩:=hy w hG;have hexec:(execOp a.eval o).run P w= .ok (.round l' fn tmps assign body) w:=by
  unfold execOp;simp only[hop,resolve,hcal,hkv,Deferred.ofValue,Sem.run_bind,Sem.run_pure,Result.andThen_ok,invoke,hargs,Array.append_empty];have e0:(#[]:Array Value)++vs.toArray=vs.toArray:=by simp
  rw[e0];exact hrun
 refine⟨fun _ _=>trivial,?_⟩;show o.uponIn (FW none) 0 P a K Q ((execOp a.eval o).run P w);rw[hexec,Oper.uponIn_round];refine⟨fun h=>by simp[Fence.wide]at h,hround.mono ?_⟩;rintro e w1 ⟨rfl,hk1,hG1⟩;refine hK _ w1 ⟨?_,hB,hG1⟩;obtain⟨n1,nsz,ρ1,ninv,ntm⟩:=hr.turn hB hk1;have:jY ops m=o.dst:=by unfold jY;rw[ho];rfl
 unfold yS;rw[this];exact dP n1 nsz ninv ntm (b7 rfl)
variable {Q:Exit->AS->γ->Prop}
theorem Bb (hmx:P.follows .mixedOrders=true) {l:Nat} {args:List Value} {b:Bool} (hy:pG P L l args g g' b) (items:List (aH P)) (ow:List Nat) {id:Nat} {ops:Array Oper} (hE:xf ops=true)
  (h:ca P (items.map aH.a) ow (bC ops (ops.toList.take (ops.size-1)) 0) (some s) (fun s1=>Q6 ops (ops.size-1) s1=some (l,args)/\Q .normal (yS ops (ops.size-1) b s1) g')):nK P L (.region id ops true) Q s g:=fun w0 O X a w r0=>by
 obtain⟨s1,h1,q,h2⟩:=bi P (items.map aH.a) ow ops _ 0 s _ h;exact DH (R1:=ee L w0 O X g) (R2:=ee L w0 O X g') pW hmx items ow hE h1 (ur hy q) r0 fun a' w' r'=>⟨_,g',h2,r'⟩
end
end
section
section
variable {P:Program} {w0 w w':World} {O X:Nat->Prop} {s s':AS} {a:Act} {ρ:Rho}
def RelR (ρ:Rho) (ds:List Deferred) (w0:World) (O X:Nat->Prop) (s:AS) (a:Act) (w:World):Prop:=a.defers=ds/\a.tmps.size=s.tmps.length/\Inv w0 O X s.H ρ w/\bq X ρ s a w
theorem RelR.put {ds:List Deferred} (h:RelR ρ ds w0 O X s a w) {d:Option Tmp} {t:TV} {v:Value} (hv:t.rel ρ s.H (Xo X ρ s.H) w v):RelR ρ ds w0 O X (s.put d t) (a.put d v) w:=
 ⟨by rw[fB];exact h.1,by rw[i6,eA];exact h.2.1,by rw[eK];exact h.2.2.1,nC h.2.1 h.2.2.2 hv⟩
noncomputable def nZ (P:Program) (o:Oper) (s:AS):Option AS:=
 if mR o.op then(iB P s.ev o.op).map (s.put o.dst)
 else if uC o.op then(bQ P s.ev s.H o.op).map (s.put o.dst)
 else match o.op with
  | .store t ad x=>match s.ev ad,gh P t with
   |some (.one (.ptr a r i j)),some n=>match(s.H a)[r]? with
    |some ob=>match ob.elems[i]? with
     |some e=>match s.ev x with
      |some (.one (.sl a' r' off len))=>if a'=a/\n=1/\j<e.length then some (AS.put ⟨s.tmps,aJ s.H a ((s.H a).set r {ob with elems:=ob.elems.set i (putCells e j [.sl a' r' off len])})⟩ o.dst .undef)else none
      |some v=>match cellsOf v with
       |some cs=>if cs.length=n/\j+n<=e.length/\cs.all isPure then some (AS.put ⟨s.tmps,aJ s.H a ((s.H a).set r {ob with elems:=ob.elems.set i (putCells e j cs)})⟩ o.dst .undef)else none
       |none=>none
      |none=>none
     |none=>none
    |none=>none
   |_,_=>none
  |_=>none
theorem ww {ds:List Deferred} (h:RelR ρ ds w0 O X s a w) {o:Oper} {t:TypeId} {ad x:Operand} (ho:o.op= .store t ad x)
  {fa r i j n:Nat} {ob:OObj} {e cs:List AV} (had:s.ev ad=some (.one (.ptr fa r i j))) (hn:gh P t=some n) (hob:(s.H fa)[r]?=some ob) (he:ob.elems[i]?=some e) (hcs:cs.length=n) (hj:j+n<=e.length)
  (hx:kw ρ s.H (Xo X ρ s.H) w cs (a.eval x).cells) (hself: ∀y∈cs,bG fa y): ∃w',(execOp a.eval o).run P w= .ok .skip w'/\RelR ρ ds w0 O X (AS.put ⟨s.tmps,aJ s.H fa ((s.H fa).set r {ob with elems:=ob.elems.set i (putCells e j cs)})⟩ o.dst .undef) (a.put o.dst undef) w':=by
 obtain⟨h1,hsz,hinv,htm⟩:=h;have htm:bq X ρ s a w:=htm;obtain⟨ob',b,c,g1,g2,g3,g4⟩:=bD htm ad _ had;rw[hob]at g1;injection g1 with g1
 subst g1;obtain⟨x1,x2⟩:=hx;have hvl:(a.eval x).cells.toList.length=cs.length:=by simpa using x1
 obtain⟨cells,c1,c2,c3,c4⟩:=wv (act:={a with defers:=[]}) rfl hsz hinv htm (vs:=(a.eval x).cells.toList) (j:=j) hob g2 he (by omega) hvl (fun k y hy=>by
  obtain⟨u,u1,u2⟩:=x2 k y hy;exact⟨u,by simpa using u1,u2⟩) hself
 have hone: ∀u∈(a.eval x).cells,u.oneCell'=true:=fun u hu=>by
  obtain⟨k,hk,rfl⟩:=Array.getElem_of_mem hu;obtain⟨y,hy⟩:=getElem?_of_lt (l:=cs) (k:=k) (by rw[<- x1];exact hk);obtain⟨u,u1,u2,_⟩:=x2 k y hy;rw[Array.getElem?_eq_getElem hk]at u1;injection u1 with u1
  rw[u1];exact u2
 have hrun:=qS (P:=P) (t:=t) (v:=a.eval x) (by rw[hn,x1,hcs]) c1 (by simpa using c2) hone;have c4:bq X ρ _ a _:=c4;have hex: ∀w1,(Instr.storeAt t (.pointer (some ⟨b,i*ob.es+j,none⟩)) (a.eval x)).run P w= .ok () w1->(execOp a.eval o).run P w= .ok .skip w1:=fun w1 hr=>by
  unfold execOp;simp only[ho,g4];exact Or hr
 exact⟨_,hex _ hrun,RelR.put (s:=⟨s.tmps,aJ s.H fa ((s.H fa).set r {ob with elems:=ob.elems.set i (putCells e j cs)})⟩) ⟨h1,hsz,by simpa using c3,by simpa using c4⟩ dX⟩
theorem LJ {ds:List Deferred} {o:Oper} {s1:AS} (hs:nZ P o s=some s1) (h:RelR ρ ds w0 O X s a w):(∀c,o.op≠ .defer c)/\ ∃x v w',(execOp a.eval o).run P w= .ok x w'/\(x= .value v\/(x= .skip/\v=undef))/\RelR ρ ds w0 O X s1 (a.put o.dst v) w':=by
 obtain⟨h1,hsz,hinv,htm⟩:=id h;have htm:bq X ρ s a w:=htm;unfold nZ at hs;split at hs
 ·rename_i hM;obtain⟨t,ht,rfl⟩:=Option.map_eq_some_iff.1 hs;obtain⟨v,g1,g2⟩:=sv (bD htm) ht;exact⟨fun c e=>(by rw[e]at hM;cases hM),_,v,w,g1,.inl rfl,h.put g2⟩
 split at hs
 ·rename_i hR;obtain⟨t,ht,rfl⟩:=Option.map_eq_some_iff.1 hs;obtain⟨v,g1,g2⟩:=sC (bD htm) hinv.objs ht;exact⟨fun c e=>(by rw[e]at hR;cases hR),_,v,w,g1,.inl rfl,h.put g2⟩
 split at hs
 case h_2=>cases hs
 rename_i t ad x hop;refine⟨fun c e=>(by rw[e]at hop;cases hop),?_⟩;split at hs
 case h_2=>cases hs
 rename_i fa r i j n had hn;split at hs
 case h_2=>cases hs
 rename_i ob hob;split at hs
 case h_2=>cases hs
 rename_i e he;split at hs
 ·rename_i a' r' off len hx;split at hs
  case isFalse=>cases hs
  rename_i hc;obtain⟨rfl,hc1,hc2⟩:=hc;injection hs with hs
  subst hs;have hxr:=bD htm x _ hx;have hone:(a.eval x).oneCell'=true:=Bq (ρ:=ρ) (H:=s.H) (X:=Xo X ρ s.H) (w:=w) (x:= .sl a' r' off len) (by simp) hxr;obtain⟨w1,k1,k2⟩:=ww (P:=P) h hop had hn hob he (cs:=[.sl a' r' off len]) (by simp;omega) (by omega) ⟨by rw[d9 hone];rfl,fun k y hy=>by
   cases k with
   |succ k=>simp at hy
   |zero=>simp at hy;subst hy;exact⟨a.eval x,by rw[d9 hone];rfl,hone,hxr⟩⟩ (fun y hy=>by simp at hy;subst hy;rfl)
  exact⟨_,undef,w1,k1,.inr ⟨rfl,rfl⟩,k2⟩
 ·rename_i v hv hx;split at hs
  case h_2=>cases hs
  rename_i cs hcs;split at hs
  case isFalse=>cases hs
  rename_i hc;obtain⟨c1,c2,c3⟩:=hc;injection hs with hs
  subst hs;simp only[aj]at c3;obtain⟨w1,k1,k2⟩:=ww (P:=P) h hop had hn hob he c1 c2 (gZ hcs (bD htm x _ hx)) (fun y hy=>cd (c3 y hy));exact⟨_,undef,w1,k1,.inr ⟨rfl,rfl⟩,k2⟩
 cases hs
noncomputable def kO (P:Program):List Oper->Option AS->(AS->Prop)->Prop
 |_,none,_=>False
 |[],some s,K=>K s
 |o::l,some s,K=>kO P l (if o.guard.isNone then nZ P o s else none) K
theorem wh (l:List Oper) (K:AS->Prop):kO P l none K=False:=by cases l<;>rfl
theorem Eh {ro:Option Nat} {n:Nat} {ds:List Deferred} {ops:Array Oper} {Q:Exit->Act->World->Prop} {Ka:AS->Prop} (hQ: ∀s a w,Ka s->RelR ρ ds w0 O X s a w->Q .normal a w): ∀(l:List Oper) (k:Nat) (s:AS) (a:Act) (w:World),(∀(j:Nat) o,l[j]?=some o->ops[k+j]?=some o)->
  kO P l (some s) Ka->RelR ρ ds w0 O X s a w->wpOpsIn (FW ro) n P ops Q (List.range' k l.length) a w
 |[],k,s,a,w,_,h,r=>hQ s a w h r
 |o::l,k,s,a,w,hl,h,r=>by
  simp only[List.length_cons,List.range'_succ];rw[wpOpsIn_cons];have ho:ops[k]?=some o:=by have:=hl 0 o rfl;simpa using this
  unfold wpOpIn;rw[ho];simp only[kO]at h;split at h
  case isFalse=>rw[wh]at h;exact h.elim
  rename_i hg;cases hs:nZ P o s with
  |none=>rw[hs,wh]at h;exact h.elim
  |some s1=>
   rw[hs]at h;obtain⟨hnd,x,v,w1,hrun,hx,hr⟩:=LJ hs r;simp only;rw[if_pos (by simp[Region.wanted,Option.isNone_iff_eq_none.1 hg])];refine⟨fun _ _=>trivial,?_⟩;rw[Oper.semAt_eq _ _ _ hnd,hrun];have ih:=Eh (ro:=ro) (n:=n) hQ l (k+1) s1 _ w1 (fun j o hj=>by have:=hl (j+1) o (by simpa using hj);rwa[show k+(j+1)=k+1+j by omega]at this) h hr;rcases hx with rfl|⟨rfl,rfl⟩
   ·exact ih
   exact ih
def rR (P:Program) (ro:Option Nat) (ρ:Rho) (ds:List Deferred) (c:Code) (Q:Exit->AS->Prop) (s:AS):Prop:=
 ∀(w0:World) (O X:Nat->Prop) (a:Act) (w:World),RelR ρ ds w0 O X s a w->c.wpIn (FW ro) 0 P (fun e a' w'=> ∃s',Q e s'/\RelR ρ ds w0 O X s' a' w') a w
variable {ro:Option Nat} {ds:List Deferred} {Q:Exit->AS->Prop}
theorem Do {id:Nat} {ops:Array Oper} (h:kO P ops.toList (some s) (Q .normal)):rR P ro ρ ds (.region id ops false) Q s:=fun w0 O X a w r=>by
 refine wpIn_region ?_;have:=Eh (ro:=ro) (n:=0) (ops:=ops) (Q:=fun e a' w'=> ∃s',Q e s'/\RelR ρ ds w0 O X s' a' w') (fun s a w k r=>⟨s,k,r⟩) ops.toList 0 s a w (fun j o hj=>by simpa using hj) h r;rwa[<- List.range_eq_range',Array.length_toList]at this
theorem wN {x y:Code} (h:rR P ro ρ ds x (mc (rR P ro ρ ds y Q) Q) s):rR P ro ρ ds (.seq x y) Q s:=fun _ _ _ _ _ r=>
 wpIn_seq (wpIn_mono (h _ _ _ _ _ r) fun e a w ⟨s',h1,h2⟩=>by
  cases e with
  |normal=>exact h1 _ _ _ _ _ h2
  |_=>exact⟨s',h1,h2⟩)
theorem HJ {y:Code} {id:Nat} {ops:Array Oper} (h: ∀K:AS->Prop,(∀s',rR P ro ρ ds y Q s'->K s')->kO P ops.toList (some s) K):rR P ro ρ ds (.seq (.region id ops false) y) Q s:=
 wN (Do (h _ fun _ h=>h))
theorem Hy {id:Nat} {ops:Array Oper} (h: ∀K:AS->Prop,(∀s',Q .normal s'->K s')->kO P ops.toList (some s) K):rR P ro ρ ds (.region id ops false) Q s:=Do (h _ fun _ h=>h)
theorem Hz (h:Q .normal s):rR P ro ρ ds .skip Q s:=fun _ _ _ _ _ r=>wpIn_skip ⟨s,h,r⟩
theorem Dp (h:Q .ret s):rR P ro ρ ds .ret Q s:=fun _ _ _ _ _ r=>wpIn_ret ⟨s,h,r⟩
theorem vh {id:Nat} {x:Code} (h:rR P ro ρ ds x (lF id Q) s):rR P ro ρ ds (.block id x) Q s:=fun _ _ _ _ _ r=>
 wpIn_block (wpIn_mono (h _ _ _ _ _ r) fun e a w ⟨s',h1,h2⟩=>by
  cases e with
  |exit id'=>
   simp only[lF]at h1;simp only[Exit.inBlock];split at h1
   ·rename_i hid;rw[if_pos hid];exact⟨s',h1,h2⟩
   rename_i hid;rw[if_neg hid];exact⟨s',h1,h2⟩
  |_=>exact⟨s',h1,h2⟩)
theorem yA {c:Operand} {x y:Code} {v:Bool} (hc:s.ev c=some (.raw (.bool v))) (ht:v=true->rR P ro ρ ds x Q s) (hf:v=false->rR P ro ρ ds y Q s):rR P ro ρ ds (.cond c x y) Q s:=fun _ _ _ _ _ r=>by
 obtain⟨h1,hsz,hinv,htm⟩:=id r;have hb:=(bs (bD htm c _ hc)).1;exact wpIn_cond_split hb (fun h=>ht h _ _ _ _ _ r) (fun h=>hf h _ _ _ _ _ r)
end
end
section
def ownB (ρ:Rho):Nat->Prop:=fun j=> ∃(x r c:Nat),ρ x r=some (j,c)
structure wH where
 l:Nat
 D:Nat
 fn:FuncId
 tm:Array Value
 ps:Array Tmp
 asg:Code
 bd:Code
def wH.loop (R:wH) (st:LoopState) (jump:Option Code):Loop:={state:=st,pending:=jump,fn:=R.fn,tmps:=R.tm,params:=R.ps,assign:=R.asg,body:=R.bd,defers:=R.D}
def wH.obj (R:wH) (jump:Option Code):Obj:= .loop (R.loop (if jump.isNone then .ready else .done) jump)
def oR:TV->Bool
 | .one x=>fC x
 |_=>false
def tT (H:OH):Prop:= ∀a,∀o∈H a,∀e∈o.elems,∀x∈e,fC x=true
section
variable {P:Program} {w0 w w':World} {O X:Nat->Prop} {s s':AS} {a:Act} {ρ:Rho} {ds:List Deferred} {γ:Type}
theorem tU {H H':OH} {Y Y':Nat->Prop} {x:AV} {v:Value} (hs:fC x=true) (hH: ∀(x r:Nat) (o:OObj),(H x)[r]?=some o-> ∃o':OObj,(H' x)[r]?=some o'/\o'.es=o.es/\o'.elems.length=o.elems.length) (h:AV.rel ρ H Y w x v):AV.rel ρ H' Y' w' x v:=by
 have key: ∀x v,zM x=true->fC x=true->AV.rel ρ H Y w x v->AV.rel ρ H' Y' w' x v:=fun x v hn hs h=>by
  cases x with
  |fn=>cases hn
  |p x=>
   cases x with
   |raw u=>
    obtain⟨rfl,h1⟩:=bs (ρ:=ρ) (H:=H) h;exact bX.raw _ h1
   |sl xs=>
    cases xs with
    |nil=>
     have h:bX Y w (.sl []) v:=h;generalize hx:PV.sl []=x at h;cases h with
     |raw v h=>cases hx
     |ptr b off cs f hX hb hc hr=>cases hx
     |nil a c=>exact bX.nil _ _
     |sl b off es cap xs f hX hb hes hcap hm hc hr=>
      injection hx with hx
      subst hx;exact bX.nil _ _
    |cons e xs=>cases hs
   |ptr cs=>cases hs
  |sl b r off len=>
   obtain⟨o,h1,h2,h3⟩:=h;obtain⟨o',k1,k2,k3⟩:=hH b r o h1;exact⟨o',k1,by omega,by rw[k2];exact h3⟩
  |ptr b r i j=>
   obtain⟨o,b',c,h1,h2,h3,h4⟩:=h;obtain⟨o',k1,k2,k3⟩:=hH b r o h1;exact⟨o',b',c,k1,h2,by omega,by rw[k2];exact h4⟩
  |junk=>trivial
 exact iW (c:=fun x=>fC x=true) (g:=id) (fun _ _ _ _ _ _ _=>rfl) oL key x v hs h
theorem xR {H H':OH} {Y Y':Nat->Prop} {t:TV} {v:Value} (hs:oR t=true) (hH: ∀(x r:Nat) (o:OObj),(H x)[r]?=some o-> ∃o':OObj,(H' x)[r]?=some o'/\o'.es=o.es/\o'.elems.length=o.elems.length) (h:t.rel ρ H Y w v):t.rel ρ H' Y' w' v:=by
 cases t with
 |one x=>exact tU hs hH h
 |_=>cases hs
theorem kP (H:OH): ∀(x r:Nat) (o:OObj),(H x)[r]?=some o-> ∃o':OObj,(H x)[r]?=some o'/\o'.es=o.es/\o'.elems.length=o.elems.length:=fun _ _ o h=>⟨o,h,rfl,rfl⟩
theorem zo {H:OH} (hH:tT H) (h:Inv w0 O X H ρ w) (k: ∀j,ownB ρ j->w'.heap[j]?=w.heap[j]?) (hX':Nat->Prop) (hx: ∀j,hX' j->j<w'.heap.size) (hno: ∀j,ownB ρ j-> ¬hX' j):Inv w' (ownB ρ) hX' H ρ w':=by
 refine⟨Keep.refl _,fun x r o ho=>?_,h.inj,fun x r o b c ho hr=>⟨.inr ⟨x,r,c,hr⟩,hno b ⟨x,r,c,hr⟩⟩,hx,h.self⟩;obtain⟨q1,q2,q3⟩:=h.objs x r o ho;refine⟨q1,q2,?_⟩;cases hr:ρ x r with
 |none=>rw[hr]at q3;exact q3
 |some bc=>
  obtain⟨b,c⟩:=bc;rw[hr]at q3;obtain⟨cells,p1,p2,p3,p4,p5⟩:=q3;refine⟨cells,by rw[k b ⟨x,r,c,hr⟩];exact p1,p2,p3,p4,fun i e j z he hz=>?_⟩;obtain⟨u,u1,u2,u3⟩:=p5 i e j z he hz;exact⟨u,u1,u2,tU (hH x o (ax ho) e (ax he) z (ax hz)) (kP H) u3⟩
theorem RelR.turn (h:RelR ρ ds w0 O X s a w) (k: ∀j,¬X j->w'.heap[j]?=w.heap[j]?) (hsz:w.heap.size<=w'.heap.size):RelR ρ ds w' (ownB ρ) X s a w':=by
 obtain⟨h1,h2,hinv,htm⟩:=h;have mono: ∀x v,AV.rel ρ s.H (Xo X ρ s.H) w x v->AV.rel ρ s.H (Xo X ρ s.H) w' x v:=n9 fun x v hn h=>by
  cases x with
  |fn=>cases hn
  |p x=>exact bX.later (fun _ _ h=>h) hsz (fun p v hp hno hc=>by rw[<- hc];exact iK (k p.block fun hb=>hno (.inl hb))) h
  |sl x r off len=>exact h
  |ptr x r i j=>exact h
  |junk=>trivial
 refine⟨h1,h2,⟨Keep.refl _,fun x r o ho=>?_,hinv.inj,fun x r o b c ho hr=>⟨.inr ⟨x,r,c,hr⟩,(hinv.old x r o b c ho hr).2⟩,fun j hj=>Nat.lt_of_lt_of_le (hinv.bar j hj) hsz,hinv.self⟩,fun t x hx=>?_⟩
 ·obtain⟨q1,q2,q3⟩:=hinv.objs x r o ho;refine⟨q1,q2,?_⟩;cases hr:ρ x r with
  |none=>rw[hr]at q3;exact q3
  |some bc=>
   obtain⟨b,c⟩:=bc;rw[hr]at q3;obtain⟨cells,p1,p2,p3,p4,p5⟩:=q3;refine⟨cells,by rw[k b (hinv.old x r o b c ho hr).2];exact p1,p2,p3,p4,fun i e j z he hz=>?_⟩;obtain⟨u,u1,u2,u3⟩:=p5 i e j z he hz;exact⟨u,u1,u2,mono z u u3⟩
 obtain⟨v,v1,v2⟩:=htm t x hx;exact⟨v,v1,TV.rel_map v2 mono⟩
def A4 (R:wH) (ρ:Rho) (tml:List TV) (H:γ->OH) (jump:γ->Option Code) (hl: ∀x r c,ρ x r≠some (R.l,c)) (hH: ∀g,tT (H g)) (ht:tml.all oR=true):jd γ where
 B:=fun j=>j=R.l\/ownB ρ j
 G:=fun g w=>w.heap[R.l]?=some (R.obj (jump g))/\RelR ρ [] w (ownB ρ) (fun j=>j=R.l) ⟨tml,H g⟩ ⟨R.tm,[]⟩ w
 sp:=fun g w w' k ⟨h1,h2,h3,h4,h5⟩=>by
  have hh:w'.heap[R.l]?=some (R.obj (jump g)):=by rw[k R.l (.inl rfl)];exact h1
  refine⟨hh,h2,h3,zo (hH g) h4 (fun j hj=>k j (.inr hj)) _ (fun j hj=>by subst hj;exact(Array.getElem?_eq_some_iff.1 hh).1) (fun j ⟨x,r,c,hr⟩ hj=>by subst hj;exact hl x r c hr),fun t x hx=>?_⟩;obtain⟨v,v1,v2⟩:=h5 t x hx;simp only[aj]at ht;exact⟨v,v1,xR (ht x (ax hx)) (kP _) v2⟩
variable {R:wH} {tml:List TV} {H:γ->OH} {jump:γ->Option Code} {hl: ∀x r c,ρ x r≠some (R.l,c)} {hH: ∀g,tT (H g)} {ht:tml.all oR=true}
theorem C8 {g g':γ} {b:Bool} {p1 p2:Nat} {v1 v2:Value} (hps:R.ps= #[p1,p2]) (hv1:v1.oneCell'=true) (hv2:v2.oneCell'=true) (hj:jump g=none) (hsh: ∀(x r:Nat) (o:OObj),(H g x)[r]?=some o-> ∃o':OObj,(H g' x)[r]?=some o'/\o'.es=o.es/\o'.elems.length=o.elems.length)
  (hw:rR P (some R.l) ρ [] R.asg (fun e s1=>e= .normal/\rR P (some R.l) ρ [] R.bd (fun e s2=>s2.H=H g'/\((e= .normal/\b=true/\jump g'=none)\/(e= .ret/\b=false/\jump g'=some .ret))) s1) ((AS.put ⟨tml,H g⟩ (some p1) (.raw v1)).put (some p2) (.raw v2))):
  pG P (A4 R ρ tml H jump hl hH ht) R.l [v1,v2] g g' b:=fun w ⟨h1,h2⟩=>by
 have hlt:R.l<w.heap.size:=(Array.getElem?_eq_some_iff.1 h1).1;have hno: ¬ownB ρ R.l:=fun⟨x,r,c,hr⟩=>hl x r c hr
 rw[hj]at h1;refine⟨R.fn,(R.tm.setIfInBounds p1 v1).setIfInBounds p2 v2,R.asg,R.bd,?_,?_⟩
 ·have:=run_yield (P:=P) (args:= #[v1,v2]) h1 (by show(#[v1,v2]:Array Value).size=R.ps.size;rw[hps];rfl);rw[show([v1,v2]:List Value).toArray= #[v1,v2]from rfl,this];show Result.ok (Next.round R.l R.fn ((R.ps.zip #[v1,v2]).foldl _ R.tm) R.asg R.bd) w=_;rw[hps];simp
 refine roundIn_of_wpIn (F:=FW none) trivial ?_;have r0:RelR ρ [] w (ownB ρ) (fun j=>j=R.l) ((AS.put ⟨tml,H g⟩ (some p1) (.raw v1)).put (some p2) (.raw v2)) {tmps:=(R.tm.setIfInBounds p1 v1).setIfInBounds p2 v2,defers:=[]} w:=
  (h2.put (d:=some p1) (v:=v1) (b7 hv1)).put (d:=some p2) (v:=v2) (b7 hv2)
 refine wpIn_mono (hw _ _ _ _ _ r0) fun e a1 w1 ⟨s1,⟨he,hb⟩,r1⟩=>?_
 subst he;have k1:w1.heap[R.l]?=some (R.obj none):=by rw[r1.2.2.1.keep.block _ hlt hno];exact h1
 refine⟨_,run_beginRound k1 rfl,?_⟩;generalize hw2:w1.putObj R.l _=w2;have hl1:R.l<w1.heap.size:=(Array.getElem?_eq_some_iff.1 k1).1;have r2:RelR ρ [] w2 (ownB ρ) (fun j=>j=R.l) s1 a1 w2:=by
  subst hw2;exact r1.turn (fun j hj=>World.putObj_heap_other hj) (by simp)
 have k2:w2.heap[R.l]?=some (.loop (R.loop .busy none)):=by subst hw2;exact World.putObj_heap_same hl1
 refine wpIn_mono (hb _ _ _ _ _ r2) fun e a3 w3 ⟨s3,⟨hs3,he⟩,r3⟩=>?_
 have k3:w3.heap[R.l]?=some (.loop (R.loop .busy none)):=by
  rw[r3.2.2.1.keep.block _ (by subst hw2;simpa using hl1) hno];exact k2
 have hl3:R.l<w3.heap.size:=(Array.getElem?_eq_some_iff.1 k3).1;have fin: ∀w4,w4=w3.putObj R.l (R.obj (jump g'))->Keep (fun j=>j=R.l\/ownB ρ j) w w4/\w4.heap[R.l]?=some (R.obj (jump g'))/\RelR ρ [] w4 (ownB ρ) (fun j=>j=R.l) ⟨tml,H g'⟩ ⟨R.tm,[]⟩ w4:=fun w4 hw4=>by
  have r4:RelR ρ [] w4 (ownB ρ) (fun j=>j=R.l) s3 a3 w4:=by
   subst hw4;exact r3.turn (fun j hj=>World.putObj_heap_other hj) (by simp)
  have kk1:=r1.2.2.1.keep;have kk3:=r3.2.2.1.keep;refine⟨?_,by subst hw4;exact World.putObj_heap_same hl3,rfl,h2.2.1,by have:=r4.2.2.1;rwa[hs3]at this,fun t x hx=>?_⟩
  ·subst hw4 hw2;refine⟨kk3.os.trans kk1.os,kk3.tape.trans kk1.tape,kk3.output.trans kk1.output,?_,fun j hj hn=>?_⟩
   ·have:=kk1.size;have:=kk3.size;simp at this⊢;omega
   have hjl:j≠R.l:=fun h=>hn (.inl h)
   have hjo: ¬ownB ρ j:=fun h=>hn (.inr h)
   rw[World.putObj_heap_other hjl,kk3.block j (by have:=kk1.size;simp;omega) hjo,World.putObj_heap_other hjl,kk1.block j hj hjo]
  obtain⟨v,u1,u2⟩:=h2.2.2.2 t x hx;have ht':=ht;simp only[aj]at ht';exact⟨v,u1,xR (ht' x (ax hx)) hsh u2⟩
 have fin2: ∀o,o=R.obj (jump g')->Keep (fun j=>j=R.l\/ownB ρ j) w (w3.putObj R.l o)/\(A4 R ρ tml H jump hl hH ht).G g' (w3.putObj R.l o):=fun o ho=>by subst ho;exact fin _ rfl
 rcases he with⟨rfl,rfl,hj'⟩|⟨rfl,rfl,hj'⟩
 ·refine⟨_,_,run_endRound none k3,rfl,?_⟩;exact fin2 _ (by rw[hj'];rfl)
 refine⟨_,_,run_endRound (some .ret) k3,rfl,?_⟩;exact fin2 _ (by rw[hj'];rfl)
end
end
section
theorem xP {P:Program} {f:FuncId} (hf:callable P f=true) (args:Array Value) (w:World):(callFunc f args).run P w= .ok (.enter f args) w:=by
 obtain⟨fn,h1,h2,h3⟩:=jG hf;unfold callFunc;simp only[Sem.run_bind];show Result.andThen (.ok P w) _=_;rw[Result.andThen_ok,h1];simp only[h3,h2,Bool.false_eq_true,if_false]
 simp
def rZ (fa:Nat):AV->Bool
 | .sl x _ _ _=>x !=fa
 | .ptr x _ _ _=>x !=fa
 | .fn _ x _=>x !=fa
 |_=>true
def Ib (fa:Nat):TV->Bool
 | .one x=>rZ fa x
 |_=>false
section
variable {P:Program} {w0 w w':World} {O X:Nat->Prop} {s s':AS} {a:Act} {ρ:Rho} {γ:Type}
open Classical in
noncomputable def kL (ρ:Rho) (H:OH) (fa:Nat):Rho:=fun x r=>if x=fa\/(H x)[r]?=none then none else ρ x r
theorem v8 {H:OH} {fa x r:Nat} {bc:Nat×Nat} (h:kL ρ H fa x r=some bc):x≠fa/\ ∃o,(H x)[r]?=some o/\ρ x r=some bc:=by
 unfold kL at h;split at h
 ·cases h
 rename_i hc;have h2:(H x)[r]?≠none:=fun e=>hc (.inr e)
 obtain⟨o,ho⟩:=Option.ne_none_iff_exists'.1 h2;exact⟨fun e=>hc (.inl e),o,ho,h⟩
theorem mF {H:OH} {fa x r:Nat} {o:OObj} (hx:x≠fa) (ho:(H x)[r]?=some o):kL ρ H fa x r=ρ x r:=by
 unfold kL;rw[if_neg];rintro(h|h)
 ·exact hx h
 rw[ho]at h;cases h
structure Lx (w0:World) (ρ:Rho) (D:Nat) (s:AS) (a:Act) (w:World):Prop where
 rel:RelR ρ [{target:= .collected D,args:= #[]}] w (ownB ρ) (fun j=>j<w0.heap.size\/j=D) s a w
 keep:Keep (fun _=>False) w0 w
 own: ∀j,ownB ρ j->w0.heap.size<=j
 mark:w.heap[D]?=some (.deferred (some []))
 no: ¬ownB ρ D/\w0.heap.size<=D
theorem Lb {gs:Tmp} {ps:Array Tmp} {asg bd:Code} {f:FuncId} {fs:Array Value} {targs:List TV} {fa:Nat} {F F':List OObj} {tml:List TV} {H:γ->OH} {jump:γ->Option Code} {hH: ∀g,tT (H g)} {ht:tml.all oR=true} {g0 g1:γ} {r:TV} {Q:Exit->Act->World->Prop}
  (hr:cW w0 (fun _=>False) X s a w) (hX: ∀j,X j->j<w0.heap.size) (hg:a.tmps[gs]?=some (.func (.func f) fs #[])) (hfs:fs.size=targs.length) (hts: ∀(j:Nat) t,targs[j]?=some t-> ∃v:Value,fs[j]?=some v/\ ∃y,s.ev y=some (renTV fa t)/\a.eval y=v)
  (hfa:fa<=4999) (hF:s.H fa=F.map (renO fa)) (hH0:H g0=aJ s.H fa []) (hj0:jump g0=none) (htl:tml.length=s.tmps.length/\ ∀(t:Nat) x,tml[t]?=some x->x= .one .junk\/s.tmps[t]?=some x) (haw:tml.all (Ib fa)=true)
  (hcon: ∀(R:wH) (ρ:Rho) (hl: ∀x r c,ρ x r≠some (R.l,c)),R.ps=ps->R.asg=asg->R.bd=bd->mM P (A4 R ρ tml H jump hl hH ht) f (targs++[.raw (.func (.yield R.l) #[] #[])]) F F' g0 g1 r)
  (hQ: ∀(ρ:Rho) (D:Nat) (w3:World),Lx w0 ρ D ⟨tml,H g1⟩ {a with defers:=[{target:= .collected D,args:= #[]}]} w3->match jump g1 with
   |none=>Q .normal {a with defers:=[{target:= .collected D,args:= #[]}]} w3
   |some c=>c.wp P Q {a with defers:=[{target:= .collected D,args:= #[]}]} w3):(Code.rangeFunc (.tmp gs) ps asg bd).wp P Q a w:=by
 obtain⟨h1,hsz,ρ,hinv,htm⟩:=hr;have htm:bq X ρ s a w:=htm;refine(wpIn_wide (n:=0)).1 (wpIn_rangeFunc (F:=FW none) fun fn _=>?_)
 let R:wH:=⟨w.heap.size+1,w.heap.size,fn,a.tmps,ps,asg,bd⟩
 obtain⟨W1,hW1⟩: ∃W1,(w.alloc (.deferred (some []))).alloc (R.obj none)=W1:=⟨_,rfl⟩;have hsz1:W1.heap.size=w.heap.size+2:=by rw[<- hW1];simp
 have hL1:W1.heap[w.heap.size+1]?=some (R.obj none):=by
  rw[<- hW1];have:=World.alloc_heap_new (w.alloc (.deferred (some []))) (R.obj none);rwa[World.size_alloc]at this
 have hK1:W1.heap[w.heap.size]?=some (.deferred (some [])):=by
  rw[<- hW1];exact(Below.heap_alloc _ _ _ (by simp)).trans (World.alloc_heap_new w _)
 have hold: ∀j,j<w.heap.size->W1.heap[j]?=w.heap[j]?:=fun j hj=>by
  rw[<- hW1];exact(Below.heap_alloc _ _ _ (by simp;omega)).trans (Below.heap_alloc _ _ _ hj)
 have hge:a.eval (.tmp gs)= .func (.func f) fs #[]:=by
  show a.tmps.getD gs undef=_;rw[Array.getD_eq_getD_getElem?,hg];rfl
 have hls: ∀(x r:Nat) (o:OObj) (b c:Nat),(s.H x)[r]?=some o->ρ x r=some (b,c)->b<w.heap.size:=fun x r o b c g1 g2=>bO (hinv.objs x r o g1) g2
 have hnl: ∀x r c,kL ρ s.H fa x r≠some (R.l,c):=fun x r c h=>by
  obtain⟨_,o,h2,h3⟩:=v8 h;have:=hls x r o _ c h2 h3;have:R.l=w.heap.size+1:=rfl;omega
 have hown: ∀j,ownB (kL ρ s.H fa) j->(∃(x r:Nat) (o:OObj) (c:Nat),x≠fa/\(s.H x)[r]?=some o/\ρ x r=some (j,c)):=fun j ⟨x,r,c,h⟩=>by
  obtain⟨h1,o,h2,h3⟩:=v8 h;exact⟨x,r,o,c,h1,h2,h3⟩
 have hownlt: ∀j,ownB (kL ρ s.H fa) j->j<w.heap.size/\w0.heap.size<=j:=fun j h=>by
  obtain⟨x,r,o,c,_,h2,h3⟩:=hown j h;exact⟨hls x r o j c h2 h3,(hinv.old x r o j c h2 h3).1.resolve_right id⟩
 have hcon':=hcon R (kL ρ s.H fa) hnl rfl rfl rfl;have hab:=hcon'.able
 -- the state that the function is handed
 let X2:Nat->Prop:=fun j=>j<W1.heap.size/\(X j\/ownB (kL ρ s.H fa) j\/j=w.heap.size\/j=w.heap.size+1)
 have hXo: ∀j,j<w.heap.size->Xo X2 ρ (famH fa (s.H fa)) j->Xo X ρ s.H j:=fun j hj h=>by
  rcases h with⟨_,h|h|h|h⟩|⟨x,r,o,c,g1,g2⟩
  ·exact .inl h
  ·obtain⟨x,r,o,c,_,h2,h3⟩:=hown j h;exact .inr ⟨x,r,o,c,h2,h3⟩
  ·omega
  ·omega
  unfold famH at g1;split at g1
  ·rename_i hx;subst hx;exact .inr ⟨x,r,o,c,g1,g2⟩
  simp at g1
 have mono: ∀x v,bG fa x->AV.rel ρ s.H (Xo X ρ s.H) w x v->AV.rel ρ (famH fa (s.H fa)) (Xo X2 ρ (famH fa (s.H fa))) W1 x v:=iW (c:=bG fa) (g:=id) (fun _ _ _ _ _ _ h=>h.1) oL fun x v hn hs h=>by
  cases x with
  |fn=>cases hn
  |p x=>exact bX.later hXo (by omega) (fun p v hp hno hc=>by rw[<- hc];exact iK (hold p.block hp)) h
  |junk=>trivial
  |sl x r off len=>
   have hs:x=fa:=hs;subst hs;obtain⟨o,k1,k2,k3⟩:=h;exact⟨o,by simpa[famH] using k1,k2,k3⟩
  |ptr x r i j=>
   have hs:x=fa:=hs;subst hs;obtain⟨o,b,c,k1,k2⟩:=h;exact⟨o,b,c,by simpa[famH] using k1,k2⟩
 have hfam: ∀(x r:Nat) (o:OObj),(famH fa (s.H fa) x)[r]?=some o->x=fa/\(s.H fa)[r]?=some o:=fun x r o h=>by
  unfold famH at h;split at h
  ·rename_i hx;exact⟨hx,h⟩
  simp at h
 have hinv2:Inv W1 (fun _=>True) X2 (famH fa (s.H fa)) ρ W1:=by
  refine⟨Keep.refl _,fun x r o ho=>?_,fun x r x' r' o o' b c c' ho ho' e1 e2=>?_,fun x r o b c ho hr=>⟨.inr trivial,?_⟩,fun j hj=>hj.1,fun x r o ho=>?_⟩
  ·obtain⟨rfl,ho⟩:=hfam x r o ho;obtain⟨q1,q2,q3⟩:=hinv.objs x r o ho;refine⟨q1,q2,?_⟩;cases hr:ρ x r with
   |none=>rw[hr]at q3;exact q3
   |some bc=>
    obtain⟨b,c⟩:=bc;rw[hr]at q3;obtain⟨cells,p1,p2,p3,p4,p5⟩:=q3;refine⟨cells,by rw[hold b (hls x r o b c ho hr)];exact p1,p2,p3,p4,fun i e j z he hz=>?_⟩;obtain⟨u,u1,u2,u3⟩:=p5 i e j z he hz;exact⟨u,u1,u2,mono z u (hinv.self x r o ho e (ax he) z (ax hz)) u3⟩
  ·obtain⟨rfl,ho⟩:=hfam x r o ho;obtain⟨rfl,ho'⟩:=hfam x' r' o' ho';exact hinv.inj _ r _ r' o o' b c c' ho ho' e1 e2
  ·obtain⟨rfl,ho⟩:=hfam x r o ho;have hlt:=hls x r o b c ho hr;rintro⟨_,h|h|h|h⟩
   ·exact(hinv.old x r o b c ho hr).2 h
   ·obtain⟨x',r',o',c',hne,k2,k3⟩:=hown b h;exact hne (hinv.inj x' r' x r o' o b c' c k2 ho k3 hr).1
   ·omega
   omega
  obtain⟨rfl,ho⟩:=hfam x r o ho;exact hinv.self x r o ho
 obtain⟨X1,ρ0,c1,c2,c3,c4,_⟩:=sE (s:=⟨[],famH fa (s.H fa)⟩) (a:=⟨#[],[]⟩) (B:=(A4 R (kL ρ s.H fa) tml H jump hnl hH ht).B) rfl rfl hinv2 (fun t x hx=>by simp at hx) (fun j hj=>⟨trivial,by
  rcases hj with hj|hj
  ·have:j=w.heap.size+1:=hj;exact⟨by omega,.inr (.inr (.inr this))⟩
  exact⟨by have:=(hownlt j hj).1;omega,.inr (.inl hj)⟩⟩) hcon'.sR hcon'.sF hcon'.sF' hfa (by show(famH fa (s.H fa)) fa=_;simp[famH,hF])
 -- the rows that are lent
 have monoL: ∀x v (z:Nat),z≠fa->bG z x/\fC x=true-> ∀(Y:Nat->Prop),AV.rel ρ s.H (Xo X ρ s.H) w x v->AV.rel (kL ρ s.H fa) (aJ s.H fa []) Y W1 x v:=fun x v z hz hs Y h=>by
  refine iW (c:=fun x=>bG z x/\fC x=true) (g:=id) (fun _ _ _ _ _ _ h=>⟨h.1.1,rfl⟩) oL (fun x v hn hs h=>?_) x v hs h;cases x with
  |fn=>cases hn
  |p x=>
   have q0:bX (Xo X ρ s.H) W1 x v:=bX.later (w:=w) (fun _ _ h=>h) (by omega) (fun p v hp hno hc=>by rw[<- hc];exact iK (hold p.block hp)) h;have q:AV.rel ρ s.H Y W1 (.p x) v:=tU (x:= .p x) (Y:=Xo X ρ s.H) hs.2 (kP _) q0;exact q
  |junk=>trivial
  |sl x r off len=>
   have hs1:x=z:=hs.1;subst hs1;obtain⟨o,k1,k2,k3⟩:=h;exact⟨o,by rw[aN hz];exact k1,k2,by rw[mF hz k1];exact k3⟩
  |ptr x r i j=>
   have hs1:x=z:=hs.1;subst hs1;obtain⟨o,b,c,k1,k2⟩:=h;exact⟨o,b,c,by rw[aN hz];exact k1,by rw[mF hz k1];exact k2⟩
 have hsafe:tT (aJ s.H fa []):=by rw[<- hH0];exact hH g0
 have hupd: ∀(x r:Nat) (o:OObj),(aJ s.H fa [] x)[r]?=some o->x≠fa/\(s.H x)[r]?=some o:=fun x r o h=>by
  by_cases hx:x=fa
  ·subst hx;rw[aX]at h;simp at h
  rw[aN hx]at h;exact⟨hx,h⟩
 have hinvL:Inv W1 (ownB (kL ρ s.H fa)) (fun j=>j=R.l) (aJ s.H fa []) (kL ρ s.H fa) W1:=by
  refine⟨Keep.refl _,fun x r o ho=>?_,fun x r x' r' o o' b c c' ho ho' e1 e2=>?_,fun x r o b c ho hr=>⟨.inr ⟨x,r,c,hr⟩,fun hb=>?_⟩,fun j hj=>?_,fun x r o ho=>?_⟩
  ·have hso:=hsafe x o (ax ho);obtain⟨hx,ho⟩:=hupd x r o ho;obtain⟨q1,q2,q3⟩:=hinv.objs x r o ho;refine⟨q1,q2,?_⟩;rw[mF hx ho];cases hr:ρ x r with
   |none=>rw[hr]at q3;exact q3
   |some bc=>
    obtain⟨b,c⟩:=bc;rw[hr]at q3;obtain⟨cells,p1,p2,p3,p4,p5⟩:=q3;refine⟨cells,by rw[hold b (hls x r o b c ho hr)];exact p1,p2,p3,p4,fun i e j z he hz=>?_⟩;obtain⟨u,u1,u2,u3⟩:=p5 i e j z he hz;exact⟨u,u1,u2,monoL z u x hx ⟨hinv.self x r o ho e (ax he) z (ax hz),hso e (ax he) z (ax hz)⟩ _ u3⟩
  ·obtain⟨hx,ho⟩:=hupd x r o ho;obtain⟨hx',ho'⟩:=hupd x' r' o' ho';rw[mF hx ho]at e1;rw[mF hx' ho']at e2;exact hinv.inj x r x' r' o o' b c c' ho ho' e1 e2
  ·obtain⟨hx,ho⟩:=hupd x r o ho;rw[mF hx ho]at hr;have:=hls x r o b c ho hr;have:R.l=w.heap.size+1:=rfl;omega
  ·have:R.l=w.heap.size+1:=rfl;omega
  exact hinv.self x r o (hupd x r o ho).2
 have htmL: ∀(H':OH) (Y:Nat->Prop),H'=aJ s.H fa []-> ∀(t:Nat) x,tml[t]?=some x-> ∃v:Value,a.tmps[t]?=some v/\x.rel (kL ρ s.H fa) H' Y W1 v:=fun H' Y e t x hx=>by
  subst e;have hlt:t<a.tmps.size:=by rw[hsz,<- htl.1];exact(List.getElem?_eq_some_iff.1 hx).1
  rcases htl.2 t x hx with rfl|h
  ·exact⟨a.tmps[t],by simp,trivial⟩
  obtain⟨v,v1,v2⟩:=htm t x h;refine⟨v,v1,?_⟩;have h3:=ht;simp only[aj]at h3 haw;have h3:=h3 x (ax hx);have h4:=haw x (ax hx);cases x with
  |one y=>
   have h3:fC y=true:=h3;have h4:rZ fa y=true:=h4;cases y with
   |p y=>exact monoL (.p y) v (fa+1) (by omega) ⟨trivial,h3⟩ Y v2
   |junk=>trivial
   |sl z r off len=>exact monoL (.sl z r off len) v z (by simpa[rZ] using h4) ⟨rfl,h3⟩ Y v2
   |ptr z r i j=>exact monoL (.ptr z r i j) v z (by simpa[rZ] using h4) ⟨rfl,h3⟩ Y v2
   |fn f z qs=>
    obtain⟨vs,e1,e2,e3,e4⟩:=v2;exact monoL (.fn f z qs) v z (by simpa[rZ] using h4) ⟨⟨rfl,List.ne_nil_of_length_pos e3⟩,h3⟩ Y ⟨vs,e1,e2,e3,e4⟩
  |_=>cases h3
 have hG0:(A4 R (kL ρ s.H fa) tml H jump hnl hH ht).G g0 W1:=by
  refine⟨by rw[hj0];exact hL1,rfl,by show a.tmps.size=_;rw[hsz,<- htl.1],?_,fun t x hx=>htmL _ _ hH0 t x hx⟩;show Inv W1 _ _ (H g0) _ W1;rw[hH0];exact hinvL
 refine⟨w.heap.size+1,[{target:= .collected w.heap.size,args:= #[]}],W1,{target:= .fn (.func f) #[],args:=fs++ #[.func (.yield (w.heap.size+1)) #[] #[]]},W1,f,fs++ #[.func (.yield (w.heap.size+1)) #[] #[]],W1,?_,?_,fun _ _=>trivial,?_,fun h=>by simp[Fence.wide]at h,?_⟩
 ·rw[<- hW1];exact run_enterLoop_outer _ _ _ _ _
 ·simp only[resolve,hge,Deferred.ofValue];simp[go_sem]
 ·simp only[invoke];rw[xP hab]
  simp
 have e1:{a with defers:=[({target:= .collected w.heap.size,args:= #[]}:Deferred)]++a.defers}={a with defers:=[{target:= .collected w.heap.size,args:= #[]}]}:=by rw[h1];rfl
 rw[e1];refine CallsIn.mono (callsIn_wide.2 (hcon'.calls X1 W1 _ ρ0 c1 c2 hG0 (by simp[hfs]) fun j t hj=>?_)) ?_
 ·by_cases hjl:j<targs.length
  ·rw[aq hjl]at hj;obtain⟨v,v1,y,y1,y2⟩:=hts j t hj;refine⟨v,by rw[Array.getElem?_append_left (by omega)];exact v1,c3 t v (hcon'.sA t (by rw[List.mem_append];exact .inl (ax hj))) ?_⟩;have hrel:=bD htm y _ y1;rw[y2]at hrel;have hst:selfTV 0 t:=hcon'.sA t (by rw[List.mem_append];exact .inl (ax hj));cases t with
   |one z=>exact mono _ v (de fa z) hrel
   |agg cs=>
    obtain⟨vs,e1,e2,e3⟩:=hrel;refine⟨vs,e1,e2,fun j x hx=>?_⟩;obtain⟨u,u1,u2,u3⟩:=e3 j x hx;rw[az]at hx;obtain⟨z,_,rfl⟩:=Option.map_eq_some_iff.1 hx;exact⟨u,u1,u2,mono _ u (de fa z) u3⟩
   |fn g cs=>
    obtain⟨u0,⟨vs,e1,e2,e3⟩,e4⟩:=hrel;refine⟨u0,⟨vs,e1,e2,fun j x hx=>?_⟩,e4⟩;obtain⟨u,u1,u2,u3⟩:=e3 j x hx;rw[az]at hx;obtain⟨z,_,rfl⟩:=Option.map_eq_some_iff.1 hx;exact⟨u,u1,u2,mono _ u (de fa z) u3⟩
   |tup ts=>
    obtain⟨vs,e1,e2,e3⟩:=hrel;refine⟨vs,e1,e2,fun j b cs hx=>?_⟩;obtain⟨u,u1,u2⟩:=e3 j b cs hx;rw[az]at hx;obtain⟨z,_,hz⟩:=Option.map_eq_some_iff.1 hx;injection hz with hz1 hz2
    subst hz2;refine⟨u,u1,?_⟩;rcases u2 with⟨u2,vs2,k1,k2,k3⟩|⟨u2,x,e,u4⟩
    ·refine .inl ⟨u2,vs2,k1,k2,fun i x hi=>?_⟩;obtain⟨q,q1,q2,q3⟩:=k3 i x hi;rw[az]at hi;obtain⟨z',_,rfl⟩:=Option.map_eq_some_iff.1 hi;exact⟨q,q1,q2,mono _ q (de fa z') q3⟩
    refine .inr ⟨u2,x,e,mono _ u ?_ u4⟩;have:x∈List.map (cb fa) z.2:=by rw[e];simp
    obtain⟨z',_,rfl⟩:=List.mem_map.1 this;exact de fa z'
  have hj0:j=targs.length:=by
   have:=(List.getElem?_eq_some_iff.1 hj).1;simp at this;omega
  subst hj0;rw[ar (ae _),Nat.sub_self]at hj;injection hj with hj
  subst hj;exact⟨.func (.yield (w.heap.size+1)) #[] #[],by rw[Array.getElem?_append_right (by omega),hfs,Nat.sub_self];rfl,b7 rfl⟩
 rintro e w3 ⟨v,rfl,ρ',hi,⟨hG1,hG2⟩,_⟩;have hG1:w3.heap[w.heap.size+1]?=some (R.obj (jump g1)):=hG1;refine⟨jump g1,_,run_endLoop hG1 (by show(if(jump g1).isNone=true then LoopState.ready else LoopState.done)≠ .busy;split<;>simp),?_⟩;generalize hw4:w3.putObj _ _=w4;have hl3:w.heap.size+1<w3.heap.size:=(Array.getElem?_eq_some_iff.1 hG1).1;have same4: ∀j,j≠w.heap.size+1->w4.heap[j]?=w3.heap[j]?:=fun j hj=>by rw[<- hw4];exact World.putObj_heap_other hj
 have hsz4:w4.heap.size=w3.heap.size:=by rw[<- hw4];simp
 have hb: ∀j,famB F ρ0 j\/(A4 R (kL ρ s.H fa) tml H jump hnl hH ht).B j->j≠w.heap.size/\w0.heap.size<=j:=fun j hj=>by
  have hw0:=hinv.keep.size;rcases hj with hj|hj|hj
  ·obtain⟨y,o',c',k1,k2⟩:=c4 j hj;have k1:(s.H fa)[y]?=some o':=by simpa[famH] using k1
   have:=hls fa y o' j c' k1 k2;have:=(hinv.old fa y o' j c' k1 k2).1.resolve_right id;omega
  ·have:j=w.heap.size+1:=hj;omega
  have:=hownlt j hj;omega
 have hk:=hi.keep;have htail:Lx w0 (kL ρ s.H fa) w.heap.size ⟨tml,H g1⟩ {a with defers:=[{target:= .collected w.heap.size,args:= #[]}]} w4:=by
  have hinv4:Inv w4 (ownB (kL ρ s.H fa)) (fun j=>j<w0.heap.size\/j=w.heap.size) (H g1) (kL ρ s.H fa) w4:=zo (hH g1) hG2.2.2.1 (fun j hj=>same4 j (fun h=>by have:=(hownlt j hj).1;omega)) _ (fun j hj=>by
   have h1:=hinv.keep.size;have h2:=hk.size;omega) (fun j hj h=>by have:=hownlt j hj;omega)
  refine⟨⟨rfl,by show a.tmps.size=_;rw[hsz,<- htl.1],hinv4,fun t x hx=>?_⟩,⟨?_,?_,?_,?_,fun j hj _=>?_⟩,fun j hj=>(hownlt j hj).2,?_,fun h=>by have:=(hownlt _ h).1;omega,hinv.keep.size⟩
  ·obtain⟨v,v1,v2⟩:=hG2.2.2.2 t x hx;have ht':=ht;simp only[aj]at ht';exact⟨v,v1,xR (ht' x (ax hx)) (kP _) v2⟩
  ·rw[<- hw4];show w3.os=_;rw[hk.os,<- hW1];exact hinv.keep.os
  ·rw[<- hw4];show w3.tape=_;rw[hk.tape,<- hW1];exact hinv.keep.tape
  ·rw[<- hw4];show w3.output=_;rw[hk.output,<- hW1];exact hinv.keep.output
  ·have:=hinv.keep.size;have:=hk.size;omega
  ·have hs0:=hinv.keep.size;rw[same4 j (by omega),hk.block j (by omega) (fun h=>by have:=(hb j h).2;omega),hold j (by omega),hinv.keep.block j hj (fun h=>h)]
  rw[same4 _ (by omega),hk.block _ (by omega) (fun h=>(hb _ h).1 rfl)];exact hK1
 have:=hQ _ _ _ htail;cases hj:jump g1 with
 |none=>rw[hj]at this;exact this
 |some c=>rw[hj]at this;exact(wpIn_wide (n:=0)).2 this
end
end
section
section
variable {P:Program} {w0 w w':World} {O X:Nat->Prop} {s s':AS} {a:Act} {ρ:Rho} {γ:Type}
def ym (w0:World) (X:Nat->Prop) (r:TV) (e:Ending) (w':World):Prop:= ∃v,e= .returned v/\ ∃ρ:Rho,Inv w0 (fun _=>False) X (famH 0 []) ρ w'/\r.rel ρ (famH 0 []) (Xo X ρ (famH 0 [])) w' v
def jj (P:Program) (fn:Func) (r:TV) (w0:World) (X:Nat->Prop):Exit->Act->World->Prop:=bodyPostM (FW none) 0 P fn (ym w0 X r)
def yg (P:Program) (c:Code) (Post:World->(Nat->Prop)->Exit->Act->World->Prop) (s:AS):Prop:=
 ∀(w0:World) (X:Nat->Prop) (a:Act) (w:World),(∀b,X b->b<w0.heap.size)->cW w0 (fun _=>False) X s a w->c.wp P (Post w0 X) a w
def u7 (P:Program) (fn:Func) (r:TV) (s:AS):Prop:= ∃s',bW s s'/\qc P s' fn.results.toList=some r/\noRefTV r=true
def Hj (P:Program) (fn:Func) (r:TV) (Post:World->(Nat->Prop)->Exit->Act->World->Prop) (next:AS->Prop):Exit->AS->Prop
 | .normal,s=>next s
 | .ret,s=>u7 P fn r s/\Post=jj P fn r
 |_,_=>False
theorem DL {r:TV} {v:Value} {s6:AS} {wB:World} {OB XB:Nat->Prop} {ρ6:Rho} (hX: ∀b,X b->b<w0.heap.size) (hk:Keep (fun _=>False) w0 w) (hXB: ∀j,X j->XB j) (hn:noRefTV r=true) (h:r.rel ρ6 s6.H (Xo XB ρ6 s6.H) w v):ym w0 X r (.returned v) w:=by
 refine⟨v,rfl,fun _ _=>none,⟨hk,fun x y o ho=>?_,fun x y x' y' o o' b c c' _ _ h=>(by cases h),fun x y o b c _ h=>(by cases h),fun b hb=>Nat.lt_of_lt_of_le (hX b hb) hk.size,fun x y o ho=>?_⟩,Cf (fun j _ hj=>?_) hn h⟩
 ·unfold famH at ho;split at ho<;>simp at ho
 ·unfold famH at ho;split at ho<;>simp at ho
 rcases hj with hj|⟨_,_,_,_,_,hj⟩
 ·exact .inl (hXB j hj)
 cases hj
theorem Gb {fn:Func} {r:TV} (h:u7 P fn r s) (hX: ∀b,X b->b<w0.heap.size) (hr:cW w0 (fun _=>False) X s a w) {e:Exit} (he:e= .normal\/e= .ret):jj P fn r w0 X e a w:=by
 obtain⟨s6,hw,hres,hn⟩:=h;obtain⟨h1,hsz,ρ6,hinv,htm⟩:=hw _ _ _ _ _ hr;have htm:bq X ρ6 s6 a w:=htm;obtain⟨v,v1,v2⟩:=eL hinv htm hres;have key:LeavesInM (FW none) 0 P fn a.tmps (ym w0 X r) a.defers .returning w:=by
  rw[h1];exact⟨v,v1,DL (wB:=w) (OB:=fun _=>False) hX hinv.keep (fun _ h=>h) hn v2⟩
 rcases he with rfl|rfl
 ·exact key
 exact key
theorem yN {f:FuncId} {fn:Func} {c:Code} {args:List TV} {r:TV} (hf:P.funcs[f]?=some fn) (hb:fn.body=some c) (hn:callable P f=true)
  (h:yg P c (jj P fn r) ⟨args++List.replicate (fn.ntmps-args.length) .undef,fun _=>[]⟩):CallC P f args ⟨[],r⟩:=by
 refine⟨hn,fun X w vs hX hvs hargs=>?_⟩;refine(callsIn_wide (n:=0)).1 (callsIn_of_wp_marks (F:=FW none) (n:=0) (R:=ym w X r) hf hb trivial ((wpIn_wide (n:=0)).2 (h w X _ w hX ?_)));refine⟨rfl,by simp[hvs],fun _ _=>none,⟨Keep.refl w,fun a r o ho=>by simp at ho,fun a r a' r' o o' b c c' ho=>by simp at ho,fun a r o b c ho=>by simp at ho,hX,fun a r o ho=>by simp at ho⟩,fun t x hx=>?_⟩;have hXo: ∀b,b<w.heap.size->Xo X (fun _ _=>none) (fun _=>[]) b->X b:=fun b _ h=>by
  rcases h with h|⟨a,r,o,c,h1,h2⟩
  ·exact h
  cases h2
 by_cases ht:t<args.length
 ·rw[aq ht]at hx;obtain⟨v,v1,v2⟩:=hargs t x hx;refine⟨v,by rw[Array.getElem?_append_left (by omega)];exact v1,TV.rel_map v2 (fun y u hy=>?_)⟩;cases y with
  |p y=>exact bX.weaken hXo hy
  |sl a r off len=>obtain⟨o,h1,_⟩:=hy;simp at h1
  |ptr a r i j=>obtain⟨o,_,_,h1,_⟩:=hy;simp at h1
  |fn f a qs=>exact(oA (fun _=>rfl) hy).elim
  |junk=>trivial
 rw[ar (by omega),List.getElem?_replicate]at hx;split at hx
 ·rename_i hlt;injection hx with hx
  subst hx;refine⟨undef,?_,dX⟩;rw[Array.getElem?_append_right (by omega),Array.getElem?_replicate,if_pos (by omega)]
 cases hx
variable {fn:Func} {r:TV} {Post:World->(Nat->Prop)->Exit->Act->World->Prop}
theorem Dq {x y:Code} (h:bu P x (Hj P fn r Post (yg P y Post)) s):yg P (.seq x y) Post s:=fun w0 X a w hX hr=>
 wp_seq (wp_mono (h _ _ _ _ _ hr) fun e a' w' ⟨s',h1,h2⟩=>by
  cases e with
  |normal=>exact h1 w0 X a' w' hX h2
  |ret=>obtain⟨h1,rfl⟩:=h1;exact Gb h1 hX h2 (.inr rfl)
  |_=>exact h1.elim)
theorem wA {D:Nat} (hX: ∀b,X b->b<w0.heap.size) (hf:Lx w0 ρ D s a w) {s':AS} {a':Act} {w':World} (hr:RelR ρ [{target:= .collected D,args:= #[]}] w (ownB ρ) (fun j=>j<w0.heap.size\/j=D) s' a' w') (hm:u7 P fn r s') {e:Exit} (he:e= .normal\/e= .ret):jj P fn r w0 X e a' w':=by
 obtain⟨s6,hw,hres,hn⟩:=hm;have hD:D<w.heap.size:=(Array.getElem?_eq_some_iff.1 hf.mark).1;have hk:=hr.2.2.1.keep;have hD':w'.heap[D]?=some (.deferred (some [])):=by rw[hk.block D hD hf.no.1];exact hf.mark
 obtain⟨w6,hw6⟩: ∃w6,w6=w'.putObj D (.deferred none):=⟨_,rfl⟩;have hr6:RelR ρ [{target:= .collected D,args:= #[]}] w6 (ownB ρ) (fun j=>j<w0.heap.size\/j=D) s' a' w6:=by
  subst hw6;exact hr.turn (fun j hj=>World.putObj_heap_other fun h=>hj (.inr h)) (by simp)
 obtain⟨q1,q2,q3,q4⟩:=hr6;obtain⟨_,_,ρ6,hinv6,htm6⟩:=hw w6 (ownB ρ) _ {a' with defers:=[]} w6 ⟨rfl,q2,ρ,q3,q4⟩;have htm6:bq _ ρ6 s6 {a' with defers:=[]} w6:=htm6;obtain⟨v,v1,v2⟩:=eL hinv6 htm6 hres;have hkeep:Keep (fun _=>False) w0 w6:=by
  subst hw6;refine⟨hk.os.trans hf.keep.os,hk.tape.trans hf.keep.tape,hk.output.trans hf.keep.output,?_,fun j hj _=>?_⟩
  ·have:=hf.keep.size;have:=hk.size;simp;omega
  have:=hf.no.2;have:=hf.keep.size;rw[World.putObj_heap_other (by omega),hk.block j (by omega) (fun h=>by have:=hf.own j h;omega),hf.keep.block j hj (fun h=>h)]
 have key:LeavesInM (FW none) 0 P fn a'.tmps (ym w0 X r) a'.defers .returning w':=by
  rw[q1];refine⟨by simp,.inl ⟨D,w6,rfl,by rw[hw6];exact run_takeDeferred hD',v,v1,DL (wB:=w6) (OB:=ownB ρ) hX hkeep (fun j hj=> .inl (hX j hj)) hn v2⟩⟩
 rcases he with rfl|rfl
 ·exact key
 exact key
theorem Kx {D:Nat} {c:Code} (hX: ∀b,X b->b<w0.heap.size) (hf:Lx w0 ρ D s a w) (h:rR P none ρ [{target:= .collected D,args:= #[]}] c (fun e s'=>(e= .normal\/e= .ret)/\u7 P fn r s') s):c.wp P (jj P fn r w0 X) a w:=
 (wpIn_wide (n:=0)).1 (wpIn_mono (h _ _ _ _ _ hf.rel) fun _ _ _ ⟨_,⟨he,hm⟩,hr⟩=>wA hX hf hr hm he)
end
end
section
section
variable {P:Program} {w0 w w':World} {O X:Nat->Prop} {s s':AS} {a:Act} {ρ:Rho} {γ:Type} {L:jd γ} {g g':γ}
theorem sO {H:OH} (hinv:Inv w0 O X H ρ w) {d r:Nat} {o o':OObj} {b c:Nat} {cells:Array Value} (ho:(H d)[r]?=some o) (hρ:ρ d r=some (b,c)) (hh:w.heap[b]?=some (.cells cells o.ty (0,0))) (hty:o'.ty=o.ty) (hes:o'.es=o.es) (hlen:o'.elems.length=o.elems.length) (hel: ∀e∈o'.elems,e.length=o'.es) (hself:selfO d o')
  (hc: ∀(i:Nat) e (j:Nat) x,o'.elems[i]?=some e->e[j]?=some x-> ∃v:Value,cells[i*o.es+j]?=some v/\v.oneCell'=true/\x.rel ρ H (Xo X ρ H) w v):
  Inv w0 O X (aJ H d ((H d).set r o')) ρ w/\ ∀x v,AV.rel ρ H (Xo X ρ H) w x v->AV.rel ρ (aJ H d ((H d).set r o')) (Xo X ρ (aJ H d ((H d).set r o'))) w x v:=by
 have hget: ∀(x y:Nat) q,(aJ H d ((H d).set r o') x)[y]?=some q->(x=d/\y=r/\q=o')\/((x≠d\/y≠r)/\(H x)[y]?=some q):=fun x y q h=>by
  by_cases hx:x=d
  ·subst hx;rw[aX,pg ho]at h;split at h
   ·rename_i hy;injection h with h;exact .inl ⟨rfl,hy,h.symm⟩
   rename_i hy;exact .inr ⟨.inr hy,h⟩
  rw[aN hx]at h;exact .inr ⟨.inl hx,h⟩
 have hof: ∀(x y:Nat) q,(H x)[y]?=some q-> ∃q',(aJ H d ((H d).set r o') x)[y]?=some q'/\q'.es=q.es/\q.elems.length<=q'.elems.length/\ρ x y=ρ x y:=fun x y q h=>by
  by_cases hx:x=d
  ·subst hx;rw[aX,pg ho];by_cases hy:y=r
   ·subst hy;rw[ho]at h;injection h with h
    subst h;exact⟨o',if_pos rfl,hes,by omega,rfl⟩
   exact⟨q,by rw[if_neg hy];exact h,rfl,ae _,rfl⟩
  exact⟨q,by rw[aN hx];exact h,rfl,ae _,rfl⟩
 have hback: ∀(x y:Nat) q b' c',(aJ H d ((H d).set r o') x)[y]?=some q->ρ x y=some (b',c')->b'<w.heap.size->Xo X ρ H b':=fun x y q b' c' h1 h2 _=>by
  rcases hget x y q h1 with⟨rfl,rfl,_⟩|⟨_,h3⟩
  ·exact .inr ⟨_,_,o,c',ho,h2⟩
  exact .inr ⟨x,y,q,c',h3,h2⟩
 have mono: ∀x v,AV.rel ρ H (Xo X ρ H) w x v->AV.rel ρ (aJ H d ((H d).set r o')) (Xo X ρ (aJ H d ((H d).set r o'))) w x v:=fun x v h=>
  lG (b:=b) (.inr ⟨d,r,o,c,ho,hρ⟩) ⟨rfl,rfl,rfl,ae _,fun _ _ _=>rfl⟩ hof hback h
 have hobj: ∀(x y:Nat) q,(aJ H d ((H d).set r o') x)[y]?=some q-> ∃q0,(H x)[y]?=some q0:=fun x y q h=>by
  rcases hget x y q h with⟨rfl,rfl,_⟩|⟨_,h3⟩
  ·exact⟨o,ho⟩
  exact⟨q,h3⟩
 refine⟨⟨hinv.keep,fun x y q h=>?_,fun x y x' y' q q' b1 c1 c2 h h' e1 e2=>?_,fun x y q b1 c1 h e1=>?_,hinv.bar,fun x y q h=>?_⟩,mono⟩
 ·rcases hget x y q h with⟨rfl,rfl,rfl⟩|⟨_,h3⟩
  ·obtain⟨q1,q2,q3⟩:=hinv.objs x y o ho;rw[hρ]at q3;obtain⟨cells',p1,p2,p3,p4,p5⟩:=q3;rw[hh]at p1;injection p1 with p1
   injection p1 with p1
   subst p1;refine⟨hel,by omega,?_⟩;rw[hρ];refine⟨cells,by rw[hty];exact hh,by rw[hes];exact p2,by omega,p4,fun i e j z he hz=>?_⟩;obtain⟨u,u1,u2,u3⟩:=hc i e j z he hz;exact⟨u,by rw[hes];exact u1,u2,mono z u u3⟩
  obtain⟨q1,q2,q3⟩:=hinv.objs x y q h3;refine⟨q1,q2,?_⟩;cases hr:ρ x y with
  |none=>rw[hr]at q3;exact q3
  |some bc=>
   obtain⟨b1,c1⟩:=bc;rw[hr]at q3;obtain⟨cells',p1,p2,p3,p4,p5⟩:=q3;exact⟨cells',p1,p2,p3,p4,fun i e j z he hz=>by obtain⟨u,u1,u2,u3⟩:=p5 i e j z he hz;exact⟨u,u1,u2,mono z u u3⟩⟩
 ·obtain⟨q0,h0⟩:=hobj x y q h;obtain⟨q0',h0'⟩:=hobj x' y' q' h';exact hinv.inj x y x' y' q0 q0' b1 c1 c2 h0 h0' e1 e2
 ·obtain⟨q0,h0⟩:=hobj x y q h;exact hinv.old x y q0 b1 c1 h0 e1
 rcases hget x y q h with⟨rfl,rfl,rfl⟩|⟨_,h3⟩
 ·exact hself
 exact hinv.self x y q h3
def O5 (s:AS) (d fa k:Nat) (e:TypeId) (cs:List AV) (ob:OObj) (len:Nat):AS:=
 ⟨(s.tmps.map (a7 fun x _=>x==fa)).set d (.one (.ptr d 0 0 0)),aJ (aJ s.H d [⟨e,cs.length,[cs.set k (.sl d 1 0 len)]⟩,ob]) fa []⟩
theorem Gp {o:Oper} {e:TypeId} {x:Operand} {d k fa len:Nat} {s1:AS} {cs:List AV} {ob:OObj} (ho:o.op= .box e x) (hdst:o.dst=some d) (hx:s1.ev x=some (.agg cs)) (hk:cs[k]?=some (.sl fa 0 0 len)) (hp: ∀(j:Nat) y,cs[j]?=some y->j≠k->isPure y=true)
  (hfa:s1.H fa=[ob]) (hpo: ∀e∈ob.elems,∀x∈e,isPure x=true) (hf5:fa<=4999) (hd:s1.H d=[]):wJ P o (cW w0 O X s1) (cW w0 O X (O5 s1 d fa k e cs ob len)):=fun a w K Q hr hK=>by
 obtain⟨h1,hsz,ρ,hinv,htm⟩:=hr;have htm:bq X ρ s1 a w:=htm;have hne:fa≠d:=by rintro rfl;rw[hd]at hfa;cases hfa
 obtain⟨vs,hv,r1,r2⟩:=bD htm x _ hx;have hkl:k<cs.length:=(List.getElem?_eq_some_iff.1 hk).1;refine iF (.inl rfl) ?_;have hexec:(execOp a.eval o).run P w= .ok (.value (.pointer (some ⟨w.heap.size,0,none⟩))) (w.alloc (.cells vs e)):=by
  unfold execOp;rw[ho];simp only;have:=df (P:=P) (Ei (P:=P) (w:=w) e (a.eval x));rw[hv]at this⊢;exact this
 unfold Oper.wp;rw[hexec];refine hK _ _ ?_;rw[hdst]
 -- the box with the slice forgotten
 have hext:Ext w (w.alloc (.cells vs e)):=⟨rfl,rfl,rfl,by simp,fun j hj=>Below.heap_alloc _ _ _ hj⟩;have hnewb:(w.alloc (.cells vs e)).heap[w.heap.size]?=some (.cells vs e (0,0)):=World.alloc_heap_new _ _
 let f:Nat->Option (Nat×Nat):=fun r=>if r=0 then some (w.heap.size,1)else none
 have hf: ∀r b c,f r=some (b,c)->r=0/\b=w.heap.size/\c=1:=fun r b c h=>by
  show r=0/\_;have h:(if r=0 then some (w.heap.size,1)else none)=some (b,c):=h;split at h
  ·rename_i h0;injection h with h;injection h with h h';exact⟨h0,h.symm,h'.symm⟩
  cases h
 have hnew: ∀r b c,f r=some (b,c)->w.heap.size<=b:=fun r b c h=>by have:=hf r b c h;omega
 have hcsk: ∀(j:Nat) y,(cs.set k .junk)[j]?=some y->(j=k/\y= .junk)\/(j≠k/\cs[j]?=some y):=fun j y h=>by
  rw[List.getElem?_set]at h;split at h
  ·rename_i hj;injection h with h;exact .inl ⟨hj.symm,h.symm⟩
  rename_i hj;exact .inr ⟨fun e=>hj e.symm,h⟩
 obtain⟨inv1,tm1⟩:=Ea (F:=[⟨e,cs.length,[cs.set k .junk]⟩]) hinv htm hext hd f hnew (fun r r' b c c' h h'=>by have:=hf r b c h;have:=hf r' b c' h';omega) (fun r q hq=>by
  cases r with
  |succ r=>simp at hq
  |zero=>
   simp at hq;subst hq;intro e' he y hy;simp at he;subst he;obtain⟨j,hj⟩:=List.mem_iff_getElem?.1 hy;rcases hcsk j y hj with⟨_,rfl⟩|⟨hj2,hj3⟩
   ·trivial
   exact cd (hp j y hj3 hj2)) (fun r q hq=>by
  cases r with
  |succ r=>simp at hq
  |zero=>
   simp at hq;subst hq;refine⟨fun e' he=>by simp at he;subst he;simp,by show 0<cs.length;omega,?_⟩;rw[newρ_eq,show f 0=some (w.heap.size,1)from rfl];refine⟨vs,hnewb,by rw[r1,Nat.one_mul],ae _,by decide,fun i e' j y he hy=>?_⟩;cases i with
   |succ i=>simp at he
   |zero=>
    simp at he;subst he;rw[Nat.zero_mul,Nat.zero_add];rcases hcsk j y hy with⟨rfl,rfl⟩|⟨hj2,hj3⟩
    ·obtain⟨u,u1,u2,_⟩:=r2 j _ hk;exact⟨u,u1,u2,trivial⟩
    obtain⟨u,u1,u2,u3⟩:=r2 j y hj3;exact⟨u,u1,u2,il hinv hext hd hnew u3⟩)
 -- the row joins the box
 have hfa1:aJ s1.H d [⟨e,cs.length,[cs.set k .junk]⟩] fa=[ob]:=by rw[aN hne];exact hfa
 obtain⟨inv2,mono2,sl2⟩:=vM inv1 (a:=d) (b:=fa) hf5 hne hfa1 hpo;have htm2:=xl (s:=⟨s1.tmps,_⟩) tm1 mono2;generalize hρ2:(fun x y=>if x=d/\y=(aJ s1.H d [⟨e,cs.length,[cs.set k .junk]⟩] d).length then newρ ρ d f fa 0 else newρ ρ d f x y:Rho)=ρ2 at*
 generalize hH2:aJ (aJ (aJ s1.H d [⟨e,cs.length,[cs.set k .junk]⟩]) d (aJ s1.H d [⟨e,cs.length,[cs.set k .junk]⟩] d++[ob])) fa []=H2 at*
 have hH2d:H2 d=[⟨e,cs.length,[cs.set k .junk]⟩,ob]:=by rw[<- hH2,aN (Ne.symm hne),aX,aX];rfl
 have hρ20:ρ2 d 0=some (w.heap.size,1):=by
  rw[<- hρ2];simp only[aX,List.length_singleton];rw[if_neg (by omega),newρ_eq];rfl
 -- what the cell holds
 obtain⟨u,u1,u2,u3⟩:=r2 k _ hk;have hcell:AV.rel ρ2 H2 (Xo X ρ2 H2) (w.alloc (.cells vs e)) (.sl d 1 0 len) u:=by
  have:=sl2 0 len u (il hinv hext hd hnew u3);rw[aX]at this;exact this
 obtain⟨inv3,mono3⟩:=sO inv2 (d:=d) (r:=0) (o:=⟨e,cs.length,[cs.set k .junk]⟩) (o':=⟨e,cs.length,[cs.set k (.sl d 1 0 len)]⟩) (by rw[hH2d];rfl) hρ20 hnewb rfl rfl rfl (fun e' he=>by simp at he;subst he;simp) (fun e' he y hy=>by
   simp at he;subst he;obtain⟨j,hj⟩:=List.mem_iff_getElem?.1 hy;rw[List.getElem?_set]at hj;split at hj
   ·injection hj with hj;subst hj;rfl
   ·rename_i hjk;exact cd (hp j y hj (fun e=>hjk e.symm))) (fun i e' j y he hy=>by
   cases i with
   |succ i=>simp at he
   |zero=>
    simp at he;subst he;rw[Nat.zero_mul,Nat.zero_add];rw[List.getElem?_set]at hy;split at hy
    ·rename_i hj;subst hj;injection hy with hy
     subst hy;exact⟨u,u1,u2,hcell⟩
    rename_i hj;obtain⟨u',q1,q2,q3⟩:=r2 j y hy;refine⟨u',q1,q2,?_⟩;have hpj:=hp j y hy (fun e=>hj e.symm);have:=mono2 y u' (il hinv hext hd hnew q3);cases y with
    |p y=>exact this
    |_=>cases hpj)
 have htm3:bq X ρ2 ⟨s1.tmps.map (a7 fun x _=>x==fa),aJ H2 d ((H2 d).set 0 ⟨e,cs.length,[cs.set k (.sl d 1 0 len)]⟩)⟩ a (w.alloc (.cells vs e)):=fun t y hy=>by
  obtain⟨v,v1,v2⟩:=htm2 t y hy;exact⟨v,v1,TV.rel_map v2 mono3⟩
 have hfin:aJ H2 d ((H2 d).set 0 ⟨e,cs.length,[cs.set k (.sl d 1 0 len)]⟩)=aJ (aJ s1.H d [⟨e,cs.length,[cs.set k (.sl d 1 0 len)]⟩,ob]) fa []:=by
  funext z;by_cases hzd:z=d
  ·subst hzd;rw[aX,hH2d,aN (Ne.symm hne),aX];rfl
  rw[aN hzd];by_cases hzf:z=fa
  ·subst hzf;rw[<- hH2,aX,aX]
  rw[<- hH2,aN hzf,aN hzd,aN hzd,aN hzf,aN hzd]
 rw[hfin]at inv3 htm3;have:=dP (s:=⟨s1.tmps.map (a7 fun x _=>x==fa),aJ (aJ s1.H d [⟨e,cs.length,[cs.set k (.sl d 1 0 len)]⟩,ob]) fa []⟩) (d:=some d) (t:= .one (.ptr d 0 0 0)) (v:= .pointer (some ⟨w.heap.size,0,none⟩)) h1 (by simpa using hsz) inv3 htm3 ⟨⟨e,cs.length,[cs.set k (.sl d 1 0 len)]⟩,w.heap.size,1,by
  show(aJ (aJ s1.H d _) fa [] d)[0]?=_;rw[aN (Ne.symm hne),aX];rfl,hρ20,by simp,by simp⟩
 exact this
/-! The forms that the macros use. -/
variable {Q:Exit->AS->γ->Prop}
theorem Ba (hmx:P.follows .mixedOrders=true) {f:FuncId} {args:List TV} {F F':List OObj} {r:TV} (hcon:mM P L f args F F' g g' r) (fa:Nat) (items:List (aH P)) (ow:List Nat) {id:Nat} {ops:Array Oper} (hfa:fa<=4999) (hE:xf ops=true)
  (h: ∀K:AS->Prop,(∀s1,(yl ops (ops.size-1) f args fa F s1/\Q .normal (QW ops (ops.size-1) r fa F' s1) g')->K s1)->ca P (items.map aH.a) ow (bC ops (ops.toList.take (ops.size-1)) 0) (some s) K):nK P L (.region id ops true) Q s g:=
 EN hmx hcon fa items ow hfa hE (h _ fun _ q=>q)
theorem yw (hmx:P.follows .mixedOrders=true) {l:Nat} {args:List Value} {b:Bool} (hy:pG P L l args g g' b) (items:List (aH P)) (ow:List Nat) {id:Nat} {ops:Array Oper} (hE:xf ops=true)
  (h: ∀K:AS->Prop,(∀s1,(Q6 ops (ops.size-1) s1=some (l,args)/\Q .normal (yS ops (ops.size-1) b s1) g')->K s1)->ca P (items.map aH.a) ow (bC ops (ops.toList.take (ops.size-1)) 0) (some s) K):nK P L (.region id ops true) Q s g:=
 Bb hmx hy items ow hE (h _ fun _ q=>q)
variable {QA:Exit->AS->Prop}
structure Sh (ops:Array Oper) (m d fa k:Nat) (e:TypeId) (cs:List AV) (ob:OObj) (len:Nat) (s:AS):Prop where
 x: ∃o x,ops[m]?=some o/\o.guard=none/\o.op= .box e x/\o.dst=some d/\s.ev x=some (.agg cs)
 k:cs[k]?=some (.sl fa 0 0 len)
 fam:s.H fa=[ob]
 new:s.H d=[]
theorem EK (m d fa k:Nat) {e:TypeId} {cs:List AV} {ob:OObj} {len:Nat} (items:List (aH P)) (ow:List Nat) {id:Nat} {ops:Array Oper} (hp: ∀(j:Nat) y,cs[j]?=some y->j≠k->isPure y=true) (hpo: ∀e∈ob.elems,∀x∈e,isPure x=true) (hf5:fa<=4999) (hm:m<ops.toList.length)
  (h: ∀K:AS->Prop,(∀s1,(Sh ops m d fa k e cs ob len s1/\ ∀K:AS->Prop,(∀s',QA .normal s'->K s')->ca P (items.map aH.a) ow (bC ops (ops.toList.drop (m+1)) (m+1)) (some (O5 s1 d fa k e cs ob len)) K)->K s1)->ca P (items.map aH.a) ow (bC ops (ops.toList.take m) 0) (some s) K):bu P (.region id ops false) QA s:=fun w0 O X a w r0=>by
 obtain⟨s1,h1,⟨⟨o,x,ho,hg,hop,hdst,hx⟩,hk,hfam,hnew⟩,h2⟩:=bi P (items.map aH.a) ow ops _ 0 s _ (h _ fun _ h=>h);obtain⟨s',h3,h4⟩:=bi P (items.map aH.a) ow ops _ (m+1) _ _ (h2 _ fun _ h=>h);exact Ny (R1:=cW w0 O X) (R2:=cW w0 O X) zG zG m items ow hm h1 ⟨o,ho,hg,Gp hop hdst hx hk hp hfam hpo hf5 hnew⟩ h3 r0 fun a' w' r'=>⟨s',h4,r'⟩
end
end
end Go.Proofs.YtalmoejhjceflaaGreat
