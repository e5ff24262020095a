/-
  Part 6 of a proof (walks and plain facts).
-/
import Derived.Test.YtalmoejhjceflaaGreatP04
set_option linter.all false
set_option maxRecDepth 100000
set_option maxHeartbeats 64000000
open List renaming all_eq_true → aj
open Go.Result renaming andThen_ok → ak
open List renaming mem_map → am
open List renaming mem_of_getElem? → ax
open List renaming getElem?_map → az
namespace Go.Proofs.YtalmoejhjceflaaGreat
open Go.RowKit
section
def bu (P:Program) (c:Code) (Q:Exit->AS->Prop) (s:AS):Prop:=
 ∀(w0:World) (O X:Nat->Prop) (a:Act) (w:World),cW w0 O X s a w->c.wp P (fun e a' w'=> ∃s',Q e s'/\cW w0 O X s' a' w') a w
def bW (s s':AS):Prop:= ∀(w0:World) (O X:Nat->Prop) (a:Act) (w:World),cW w0 O X s a w->cW w0 O X s' a w
def mc (next:AS->Prop) (Q:Exit->AS->Prop):Exit->AS->Prop
 | .normal,s=>next s
 |e,s=>Q e s
def lF (id:Nat) (Q:Exit->AS->Prop):Exit->AS->Prop
 | .exit id',s=>if id'=id then Q .normal s else Q (.exit id') s
 |e,s=>Q e s
section
variable {P:Program} {s s':AS} {Q:Exit->AS->Prop}
theorem bW.refl (s:AS):bW s s:=fun _ _ _ _ _ h=>h
theorem bW.trans {s1 s2 s3:AS} (h:bW s1 s2) (k:bW s2 s3):bW s1 s3:=fun _ _ _ _ _ r=>k _ _ _ _ _ (h _ _ _ _ _ r)
theorem bu.weak {c:Code} (h:bW s s') (k:bu P c Q s'):bu P c Q s:=fun _ _ _ _ _ r=>k _ _ _ _ _ (h _ _ _ _ _ r)
theorem bu.mono {c:Code} {Q':Exit->AS->Prop} (h:bu P c Q s) (k: ∀e s',Q e s'->Q' e s'):bu P c Q' s:=fun _ _ _ _ _ r=>
 wp_mono (h _ _ _ _ _ r) fun _ _ _ ⟨s',h1,h2⟩=>⟨s',k _ _ h1,h2⟩
theorem aR (h:Q .normal s):bu P .skip Q s:=fun _ _ _ _ _ r=>wp_skip ⟨s,h,r⟩
theorem cK {id:Nat} (h:Q (.exit id) s):bu P (.exit id) Q s:=fun _ _ _ _ _ r=>wp_exit ⟨s,h,r⟩
theorem aL (h:Q .ret s):bu P .ret Q s:=fun _ _ _ _ _ r=>wp_ret ⟨s,h,r⟩
theorem aG {x y:Code} (h:bu P x (mc (bu P y Q) Q) s):bu P (.seq x y) Q s:=fun _ _ _ _ _ r=>
 wp_seq (wp_mono (h _ _ _ _ _ r) fun e a w ⟨s',h1,h2⟩=>by
  cases e with
  |normal=>exact h1 _ _ _ _ _ h2
  |_=>exact⟨s',h1,h2⟩)
theorem aP {id:Nat} {x:Code} (h:bu P x (lF id Q) s):bu P (.block id x) Q s:=fun _ _ _ _ _ r=>
 wp_block (wp_mono (h _ _ _ _ _ r) fun e a w ⟨s',h1,h2⟩=>by
  cases e with
  |exit id'=>
   simp only[lF]at h1;simp only[Exit.inBlock];split at h1
   ·rename_i hid;rw[if_pos hid];exact⟨s',h1,h2⟩
   rename_i hid;rw[if_neg hid];exact⟨s',h1,h2⟩
  |_=>exact⟨s',h1,h2⟩)
theorem gT {c:Operand} {x y:Code} {b:Bool} (hc:s.ev c=some (.raw (.bool b))) (ht:b=true->bu P x Q s) (hf:b=false->bu P y Q s):bu P (.cond c x y) Q s:=fun _ _ _ _ _ r=>by
 obtain⟨h1,hsz,ρ,hinv,htm⟩:=id r;have hb:=(bs (bD htm c _ hc)).1;exact wp_cond_split hb (fun h=>ht h _ _ _ _ _ r) (fun h=>hf h _ _ _ _ _ r)
theorem bo {c:Operand} {x y:Code} (hc:s.ev c=some (.raw (.bool true))) (h:bu P x Q s):bu P (.cond c x y) Q s:=gT hc (fun _=>h) (fun h=>by cases h)
theorem aU {c:Operand} {x y:Code} (hc:s.ev c=some (.raw (.bool false))) (h:bu P y Q s):bu P (.cond c x y) Q s:=gT hc (fun h=>by cases h) (fun _=>h)
theorem cX {c:Operand} {y z:Code} (hc:s.ev c=some (.raw (.bool true))) (h:bu P z Q s):bu P (.seq (.cond c .skip y) z) Q s:=aG (bo hc (aR h))
theorem di {c:Operand} {x z:Code} {id:Nat} (hc:s.ev c=some (.raw (.bool false))) (h:Q (.exit id) s):bu P (.seq (.cond c x (.exit id)) z) Q s:=aG (aU hc (cK h))
theorem bF {p:Nat->Prop} (h: ∃n,p n): ∃n,p n/\ ∀m,p m->n<=m:=by
 obtain⟨n,hn⟩:=h
 induction n using Nat.strongRecOn with
 |_ n ih=>
  by_cases hm: ∃m,m<n/\p m
  ·obtain⟨m,h1,h2⟩:=hm;exact ih m h1 h2
  exact⟨n,hn,fun m hp=>Nat.le_of_not_lt fun hlt=>hm ⟨m,hlt,hp⟩⟩
theorem Hq {G:Type} (St:G->AS) (μ:G->Nat) (g0:G) {c:Code} (h0:bW s (St g0))
  (round: ∀g,bu P c (mc (fun s'=> ∃g',μ g'<μ g/\bW s' (St g')) Q) (St g)):bu P (.loop c) Q s:=fun w0 O X a w r=>by
 classical
 let p:Act->World->Nat->Prop:=fun a w n=> ∃g,μ g=n/\cW w0 O X (St g) a w
 let m:Act->World->Nat:=fun a w=>if h: ∃n,p a w n then Classical.choose (bF h)else 0
 refine wp_loop (fun a w=> ∃n,p a w n) m ⟨_,g0,rfl,h0 _ _ _ _ _ r⟩ ?_;intro a w hI;have hm:m a w=Classical.choose (bF hI):=dif_pos hI;obtain⟨hp,hleast⟩:=Classical.choose_spec (bF hI);rw[<- hm]at hp;obtain⟨g,hg,hr⟩:=hp;refine wp_mono (round g _ _ _ _ _ hr) fun e a' w' ⟨s',h1,h2⟩=>?_
 cases e with
 |normal=>
  obtain⟨g',hlt,hw⟩:=h1;have hr':=hw _ _ _ _ _ h2;have hI': ∃n,p a' w' n:=⟨_,g',rfl,hr'⟩;refine⟨hI',?_⟩;have hm':m a' w'=Classical.choose (bF hI'):=dif_pos hI';obtain⟨_,hl'⟩:=Classical.choose_spec (bF hI');have:=hl' (μ g') ⟨g',rfl,hr'⟩;rw[hm'];omega
 |_=>exact⟨s',h1,h2⟩
theorem kN {items:List (cQ P)} (hI:fL P items) {ow:List Nat} {ops:Array Oper} {w0:World} {O X:Nat->Prop} {Q:Exit->Act->World->Prop}: ∀(l:List Oper) (k:Nat) (s s':AS) (a:Act) (w:World),(∀(j:Nat) o,l[j]?=some o->ops[k+j]?=some o)->
  eD P items ow ops (l.zipIdx k) s=some s'->cW w0 O X s a w->(∀a' w',cW w0 O X s' a' w'->Q .normal a' w')->wpOps P ops Q (List.range' k l.length) a w
 |[],k,s,s',a,w,_,h,r,hQ=>by
  simp only[List.zipIdx_nil,eD]at h;injection h with h
  subst h;exact hQ a w r
 |o::l,k,s,s',a,w,hl,h,r,hQ=>by
  simp only[List.zipIdx_cons,eD]at h;split at h
  ·rename_i s1 hs1;simp only[List.length_cons,List.range'_succ,wpOps];have ho:ops[k]?=some o:=by have:=hl 0 o rfl;simpa using this
   rw[ho];simp only;have:=gA (Q:=Q) hI r hs1 (K:=wpOps P ops Q (List.range' (k+1) l.length)) (fun v w' hr=>kN hI l (k+1) s1 s' _ _ (fun j o hj=>by have:=hl (j+1) o (by simpa using hj);rwa[show k+(j+1)=k+1+j by omega]at this) h hr hQ);split at this
   ·rename_i hw;rw[if_pos hw];exact .inl this
   rename_i hw;rw[if_neg hw];exact this
  cases h
theorem A9 (items:List (cQ P)) (hI:fL P items) (ow:List Nat) {id:Nat} {ops:Array Oper} (h:eD P items ow ops ops.toList.zipIdx s=some s') (hQ:Q .normal s'):bu P (.region id ops false) Q s:=fun w0 O X a w r=>by
 refine wp_region ?_;rw[List.range_eq_range'];have:=kN hI (Q:=fun e a' w'=> ∃s',Q e s'/\cW w0 O X s' a' w') ops.toList 0 s s' a w (fun j o hj=>by simpa using hj) h r (fun a' w' hr=>⟨s',hQ,hr⟩);simpa using this
end
/-! ### The end of a function -/
def qe (P:Program) (s:AS):ResultVar->Option TV
 | .tmp t=>s.tmps[t]?
 | .cell a t=>match s.tmps[a]? with
  |some (.one (.ptr fa r i j))=>match(s.H fa)[r]? with
   |some o=>match o.elems[i]? with
    |some e=>kY P t (e.drop j)
    |none=>none
   |none=>none
  |_=>none
def yb:TV->Option (Bool×List AV)
 | .one x=>some (false,[x])
 | .agg cs=>some (true,cs)
 | .tup _=>none
 | .fn _ _=>none
def tL (P:Program) (s:AS):List ResultVar->Option (List (Bool×List AV))
 |[]=>some []
 |r::l=>match(qe P s r).bind yb,tL P s l with
  |some t,some ts=>some (t::ts)
  |_,_=>none
def qc (P:Program) (s:AS):List ResultVar->Option TV
 |[r]=>qe P s r
 |rs=>(tL P s rs).map TV.tup
section
variable {P:Program} {w0 w:World} {O X:Nat->Prop} {ρ:Rho} {s:AS}
def tl (tmps:Array Value):ResultVar->Sem Value
 | .tmp t=>pure (tmps.getD t undef)
 | .cell ad t=>do loadVar t (<- asAddr (tmps.getD ad undef))
theorem Ct (fn:Func) (tmps:Array Value):results fn tmps=(do let vs<- fn.results.mapM (tl tmps);pure (if h:vs.size=1 then vs[0]else .tuple vs)):=by
 have h: ∀(f g:ResultVar->Sem Value),f=g->(do let vs<- fn.results.mapM f;pure (if h:vs.size=1 then vs[0]else .tuple vs):Sem Value)=(do let vs<- fn.results.mapM g;pure (if h:vs.size=1 then vs[0]else .tuple vs)):=fun f g h=>by rw[h]
 unfold results;apply h;funext x;cases x<;>rfl
theorem pa {a:Act} (hinv:Inv w0 O X s.H ρ w) (htm:bq X ρ s a w) {rv:ResultVar} {t:TV} (h:qe P s rv=some t):
  ∃v,(tl a.tmps rv).run P w= .ok v w/\t.rel ρ s.H (Xo X ρ s.H) w v:=by
 cases rv with
 |tmp k=>
  simp only[qe]at h;obtain⟨v,h1,h2⟩:=htm k t h;exact⟨v,by simp[tl,Array.getD_eq_getD_getElem?,h1],h2⟩
 |cell ad ty=>
  simp only[qe]at h;split at h
  ·rename_i fa r i j hk;obtain⟨v,h1,o,b,c,g1,g2,g3,g4⟩:=htm ad _ hk;rw[g1]at h;simp only at h;split at h
   ·rename_i e he;obtain⟨u,u1,u2⟩:=np h (kx (vU (hinv.objs fa r o g1) g2 he) j);refine⟨u,?_,u2⟩;simp only[tl,Array.getD_eq_getD_getElem?,h1,Option.getD_some,g4,asAddr,Sem.run_bind,Sem.run_pure,ak,u1]
   cases h
  cases h
theorem tM {a:Act} (hinv:Inv w0 O X s.H ρ w) (htm:bq X ρ s a w): ∀{rs:List ResultVar} {ts:List (Bool×List AV)},tL P s rs=some ts->
  ∃vs:List Value,(rs.mapM (tl a.tmps)).run P w= .ok vs w/\vs.length=ts.length/\
   ∀(j:Nat) b cs,ts[j]?=some (b,cs)-> ∃u:Value,vs[j]?=some u/\((b=true/\bJ ρ s.H (Xo X ρ s.H) w cs u)\/(b=false/\ ∃x,cs=[x]/\x.rel ρ s.H (Xo X ρ s.H) w u))
 |[],ts,h=>by
  simp only[tL]at h;injection h with h
  subst h;exact⟨[],by simp,rfl,fun j b cs h=>by simp at h⟩
 |r::l,ts,h=>by
  simp only[tL]at h;split at h
  ·rename_i t ts' h1 h2;injection h with h
   subst h;obtain⟨tv,htv,hp⟩:=Option.bind_eq_some_iff.1 h1;obtain⟨v,v1,v2⟩:=pa hinv htm htv;obtain⟨vs,g1,g2,g3⟩:=tM hinv htm h2;refine⟨v::vs,?_,by simp[g2],fun j b cs hj=>?_⟩
   ·rw[List.mapM_cons,Sem.run_bind,v1,ak,Sem.run_bind,g1];rfl
   cases j with
   |succ j=>simp at hj;obtain⟨u,u1,u2⟩:=g3 j b cs hj;exact⟨u,by simpa using u1,u2⟩
   |zero=>
    simp at hj;subst hj;refine⟨v,rfl,?_⟩;cases tv with
    |one x=>simp[yb]at hp;obtain⟨rfl,rfl⟩:=hp;exact .inr ⟨rfl,x,rfl,v2⟩
    |agg cs=>simp[yb]at hp;obtain⟨rfl,rfl⟩:=hp;exact .inl ⟨rfl,v2⟩
    |tup ts=>cases hp
    |fn f cs=>cases hp
  cases h
theorem eL {a:Act} (hinv:Inv w0 O X s.H ρ w) (htm:bq X ρ s a w) {fn:Func} {t:TV} (h:qc P s fn.results.toList=some t): ∃v,(results fn a.tmps).run P w= .ok v w/\t.rel ρ s.H (Xo X ρ s.H) w v:=by
 rw[Ct,Array.mapM_eq_mapM_toList];generalize hrs:fn.results.toList=rs at h;unfold qc at h;split at h
 ·rename_i r;obtain⟨v,v1,v2⟩:=pa hinv htm h;refine⟨v,?_,v2⟩;simp only[List.mapM_cons,List.mapM_nil,map_eq_pure_bind,Sem.run_bind,v1,ak,Sem.run_pure]
  simp
 rename_i hne;cases hl:tL P s rs with
 |none=>rw[hl]at h;cases h
 |some ts=>
  rw[hl]at h;simp at h;subst h;obtain⟨vs,g1,g2,g3⟩:=tM hinv htm hl;refine⟨.tuple vs.toArray,?_,vs.toArray,rfl,by simpa using g2,fun j b cs hj=>by simpa using g3 j b cs hj⟩;have hlen: ∀{rs:List ResultVar} {ts:List (Bool×List AV)},tL P s rs=some ts->ts.length=rs.length:=by
   intro rs
   induction rs with
   |nil=>intro ts h;simp only[tL]at h;injection h with h;subst h;rfl
   |cons r l ih=>
    intro ts h;simp only[tL]at h;split at h
    ·rename_i t ts' h1 h2;injection h with h
     subst h;simp[ih h2]
    cases h
  have hvl:vs.length≠1:=fun h1=>by
   have:=hlen hl;have hrl:rs.length=1:=by omega
   obtain⟨r,hr⟩:=List.length_eq_one_iff.1 hrl;exact hne r hr
  simp only[map_eq_pure_bind,Sem.run_bind,g1,ak,Sem.run_pure];rw[dif_neg (by simpa using hvl)]
def selfTV (a:Nat):TV->Prop
 | .one x=>bG a x
 | .agg cs=> ∀x∈cs,bG a x
 | .fn _ cs=> ∀x∈cs,bG a x
 | .tup ts=> ∀t∈ts,∀x∈t.2,bG a x
def qT (H:OH) (a0:Nat) (r:TV):Prop:=match Nat.ble a0 4999 with
 |true=>selfTV a0 r
 |false=>selfTV a0 r/\H a0=[]
theorem uc {H:OH} {a0:Nat} {r:TV} (h:qT H a0 r):selfTV a0 r/\(a0<=4999\/H a0=[]):=by
 unfold qT at h;split at h
 ·rename_i hb;exact⟨h,.inl (Nat.le_of_ble_eq_true hb)⟩
 exact⟨h.1,.inr h.2⟩
theorem Gk {H:OH} {a0:Nat} {r:TV} (h:selfTV a0 r) (h0:H a0=[]):qT H a0 r:=by
 unfold qT;split
 ·exact h
 exact⟨h,h0⟩
theorem Kf {H:OH} {a0:Nat} {r:TV} (h:selfTV a0 r) (h0:a0<=4999):qT H a0 r:=by
 unfold qT;rw[Nat.ble_eq_true_of_le h0];exact h
def qt (P:Program) (fn:Func) (res:CallRes) (s:AS):Prop:=
 ∃r a0,qc P s fn.results.toList=some r/\qT s.H a0 r/\res.fam=(s.H a0).map (renO 0)/\res.r=renTV 0 r
theorem Bv (G:World->Prop) {f:FuncId} {fn:Func} {c:Code} {args:List TV} {res:CallRes} (hf:P.funcs[f]?=some fn) (hb:fn.body=some c) (hn:callable P f=true)
  (h: ∀(w0:World) (X:Nat->Prop) (a:Act),G w0->cW w0 (fun _=>False) X ⟨args++List.replicate (fn.ntmps-args.length) .undef,fun _=>[]⟩ a w0->c.wp P (fun e a' w'=> ∃s1,((e= .normal\/e= .ret)/\ ∃s',bW s1 s'/\qt P fn res s')/\cW w0 (fun _=>False) X s1 a' w') a w0) (w:World) (hG:G w):Hf P f args res w:=by
 refine⟨hn,fun X vs hX hvs hargs=>?_⟩;refine calls_of_wp hf hb ?_;have hrel:cW w (fun _=>False) X ⟨args++List.replicate (fn.ntmps-args.length) .undef,fun _=>[]⟩ {tmps:=vs++Array.replicate (fn.ntmps-vs.size) undef,defers:=[]} w:=by
  refine⟨rfl,by simp[hvs],fun _ _=>none,⟨Keep.refl w,fun a r o ho=>by simp at ho,fun a r a' r' o o' b c c' ho=>by simp at ho,fun a r o b c ho=>by simp at ho,hX,fun a r o ho=>by simp at ho⟩,fun t x hx=>?_⟩;have hXo: ∀b,b<w.heap.size->Xo X (fun _ _=>none) (fun _=>[]) b->X b:=fun b _ h=>by
   rcases h with h|⟨a,r,o,c,h1,h2⟩
   ·exact h
   cases h2
  by_cases ht:t<args.length
  ·rw[List.getElem?_append_left ht]at hx;obtain⟨v,v1,v2⟩:=hargs t x hx;refine⟨v,by rw[Array.getElem?_append_left (by omega)];exact v1,TV.rel_map v2 (fun y u hy=>?_)⟩;cases y with
   |p y=>exact bX.weaken hXo hy
   |sl a r off len=>obtain⟨o,h1,_⟩:=hy;simp at h1
   |ptr a r i j=>obtain⟨o,_,_,h1,_⟩:=hy;simp at h1
   |fn f a qs=>exact(oA (fun _=>rfl) hy).elim
   |junk=>trivial
  rw[List.getElem?_append_right (by omega),List.getElem?_replicate]at hx;split at hx
  ·rename_i hlt;injection hx with hx
   subst hx;refine⟨undef,?_,dX⟩;rw[Array.getElem?_append_right (by omega),Array.getElem?_replicate,if_pos (by omega)]
  cases hx
 refine wp_mono (h _ _ _ hG hrel) fun e a' w' ⟨s1,⟨he,s2,hw,r,a0,hres,hself0,hfam,hr⟩,hrel1⟩=>?_
 obtain⟨hself,h5⟩:=uc hself0;obtain⟨h1,hsz,ρ,hinv,htm⟩:=hw _ _ _ _ _ hrel1;have htm:bq X ρ s2 a' w':=htm;obtain⟨v,v1,v2⟩:=eL hinv htm hres;have hF: ∀(k:Nat) o,(famH 0 res.fam 0)[k]?=some o-> ∃o',(s2.H a0)[k]?=some o'/\o=renO 0 o':=fun k o ho=>by
  simp only[famH,if_true,hfam,az]at ho;obtain⟨o',g1,g2⟩:=Option.map_eq_some_iff.1 ho;exact⟨o',g1,g2.symm⟩
 have hz: ∀(x k:Nat) o,(famH 0 res.fam x)[k]?=some o->x=0:=fun x k o ho=>by
  by_cases hx:x=0
  ·exact hx
  simp[famH,hx]at ho
 have hXo: ∀b,Xo X (fun _ k=>ρ a0 k) (famH 0 res.fam) b->Xo X ρ s2.H b:=fun b hb=>by
  rcases hb with hb|⟨x,k,o,n,g1,g2⟩
  ·exact .inl hb
  have:=hz x k o g1;subst this;obtain⟨o',g3,_⟩:=hF k o g1;exact .inr ⟨a0,k,o',n,g3,g2⟩
 have hmap: ∀x u,bG a0 x->AV.rel ρ s2.H (Xo X ρ s2.H) w' x u->AV.rel (fun _ k=>ρ a0 k) (famH 0 res.fam) (Xo X (fun _ k=>ρ a0 k) (famH 0 res.fam)) w' (cb 0 x) u:=iW (c:=bG a0) (fun _ _ _ _ _ _ h=>h.1) (mv 0) fun x u hn hs hx=>by
  cases x with
  |fn=>cases hn
  |p x=>exact bX.weaken (fun b _ hb=>hXo b hb) hx
  |sl x k off len=>
   have hs:x=a0:=hs;subst hs;obtain⟨o,g1,g2,g3⟩:=hx;have h6:x<=4999:=h5.resolve_right fun h=>by rw[h]at g1;simp at g1
   exact⟨renO 0 o,by simp[famH,hfam,g1],by simpa[renO] using g2,ma (ρ':=fun _ k=>ρ x k) (a':=0) (r':=k) h6 g3 rfl⟩
  |ptr x k i j=>
   have hs:x=a0:=hs;subst hs;obtain⟨o,b,c,g1,g2,g3,g4⟩:=hx;exact⟨renO 0 o,b,c,by simp[famH,hfam,g1],g2,by simpa[renO] using g3,g4⟩
  |junk=>trivial
 have hfin: ∃ρ':Rho,Inv w (fun _=>False) X (famH 0 res.fam) ρ' w'/\res.r.rel ρ' (famH 0 res.fam) (Xo X ρ' (famH 0 res.fam)) w' v:=by
  refine⟨fun _ k=>ρ a0 k,⟨hinv.keep,fun x k o ho=>?_,fun x k x' k' o o' b c c' ho ho' hr1 hr2=>?_,fun x k o b c ho hr1=>?_,hinv.bar,fun x k o ho=>?_⟩,?_⟩
  ·have:=hz x k o ho;subst this;obtain⟨o',g1,rfl⟩:=hF k o ho;obtain⟨z1,z2,z3⟩:=hinv.objs a0 k o' g1;refine⟨fun e he=>?_,z2,?_⟩
   ·simp only[renO,am]at he;obtain⟨e',he',rfl⟩:=he;rw[List.length_map];exact z1 e' he'
   cases hr0:ρ a0 k with
   |none=>rw[hr0]at z3;simp only[hr0];simp[renO,z3]
   |some bc=>
    obtain⟨b,n⟩:=bc;rw[hr0]at z3;obtain⟨cells,p1,p2,p3,p4,p5⟩:=z3;simp only[hr0];refine⟨cells,p1,p2,by simpa[renO] using p3,p4,fun i e j z he hz=>?_⟩;simp only[renO,az]at he;obtain⟨e',he',rfl⟩:=Option.map_eq_some_iff.1 he;rw[az]at hz;obtain⟨z',hz',rfl⟩:=Option.map_eq_some_iff.1 hz;obtain⟨u,u1,u2,u3⟩:=p5 i e' j z' he' hz';exact⟨u,u1,u2,hmap z' u (hinv.self a0 k o' g1 e' (ax he') z' (ax hz')) u3⟩
  ·have e1:=hz x k o ho;have e2:=hz x' k' o' ho';subst e1 e2;obtain⟨o1,g1,_⟩:=hF k o ho;obtain⟨o2,g2,_⟩:=hF k' o' ho';exact⟨rfl,(hinv.inj a0 k a0 k' o1 o2 b c c' g1 g2 hr1 hr2).2⟩
  ·have e1:=hz x k o ho;subst e1;obtain⟨o1,g1,_⟩:=hF k o ho;exact hinv.old a0 k o1 b c g1 hr1
  ·have e1:=hz x k o ho;subst e1;obtain⟨o1,g1,rfl⟩:=hF k o ho;intro e he z hzz;simp only[renO,am]at he;obtain⟨e',he',rfl⟩:=he;simp only[am]at hzz;obtain⟨z',hz',rfl⟩:=hzz;exact de _ _
  rw[hr];have agg: ∀cs u,(∀x∈cs,bG a0 x)->bJ ρ s2.H (Xo X ρ s2.H) w' cs u->bJ (fun _ k=>ρ a0 k) (famH 0 res.fam) (Xo X (fun _ k=>ρ a0 k) (famH 0 res.fam)) w' (cs.map (cb 0)) u:=fun cs u hs h=>by
   obtain⟨us,h1,h2,h3⟩:=h;refine⟨us,h1,by simpa using h2,fun j x hx=>?_⟩;rw[az]at hx;obtain⟨y,hy,rfl⟩:=Option.map_eq_some_iff.1 hx;obtain⟨u',u1,u2,u3⟩:=h3 j y hy;exact⟨u',u1,u2,hmap _ _ (hs y (ax hy)) u3⟩
  cases r with
  |one x=>exact hmap x v hself v2
  |agg cs=>exact agg cs v hself v2
  |fn f cs=>obtain⟨u,h1,h2⟩:=v2;exact⟨u,agg cs u hself h1,h2⟩
  |tup ts=>
   obtain⟨us,h1,h2,h3⟩:=v2;refine⟨us,h1,by simpa using h2,fun j b cs hx=>?_⟩;rw[az]at hx;obtain⟨y,hy,hyy⟩:=Option.map_eq_some_iff.1 hx;obtain⟨b',cs'⟩:=y;simp at hyy;obtain⟨rfl,rfl⟩:=hyy;obtain⟨u,u1,u2⟩:=h3 j b' cs' hy;have hs:=hself (b',cs') (ax hy);refine⟨u,u1,?_⟩;rcases u2 with⟨u2,u3⟩|⟨u2,x,rfl,u4⟩
   ·exact .inl ⟨u2,agg _ _ hs u3⟩
   exact .inr ⟨u2,_,rfl,hmap _ _ (hs x (by simp)) u4⟩
 rcases he with rfl|rfl
 ·exact⟨h1,v,v1,v,rfl,hfin⟩
 exact⟨h1,v,v1,v,rfl,hfin⟩
theorem aK {f:FuncId} {fn:Func} {c:Code} {args:List TV} {res:CallRes} (hf:P.funcs[f]?=some fn) (hb:fn.body=some c) (hn:callable P f=true)
  (h:bu P c (fun e s=>(e= .normal\/e= .ret)/\ ∃s',bW s s'/\qt P fn res s') ⟨args++List.replicate (fn.ntmps-args.length) .undef,fun _=>[]⟩):CallC P f args res:=
 ⟨hn,fun X w vs=>(Bv (fun _=>True) hf hb hn (fun w0 X a _ r=>h w0 _ X a w0 r) w trivial).2 X vs⟩
end
end
section
structure OM where
 i:Nat
 d:Option Tmp
 op:Op
 g:Option (Tmp×Bool)
def zU (ops:Array Oper) (o:Oper) (i:Nat):OM:=match o.guard with
 |none=>⟨i,o.dst,o.op,none⟩
 |some (g,want)=>match(ops[g]?).bind (·.dst)with
  |some d=>⟨i,o.dst,o.op,some (d,want)⟩
  |none=>⟨i,none,.extract (.func 0) 0,none⟩
def bC (ops:Array Oper):List Oper->Nat->List OM
 |[],_=>[]
 |o::l,i=>zU ops o i::bC ops l (i+1)
section
variable (P:Program) (items:List (cQ P)) (ow:List Nat)
noncomputable def Sb (i : Nat) (d : Option Tmp) (op : Op) (s : AS) : Option AS := dr P items ow i ⟨d, op, 0, "", #[], none⟩ s
noncomputable def cJ:OM->AS->Option AS
 |⟨i,d,op,none⟩,s=>Sb P items ow i d op s
 |⟨i,d,op,some (k,want)⟩,s=>match s.tmps[k]? with
  |some (.one (.p (.raw (.bool b))))=>if b=want then Sb P items ow i d op s else some (s.put d .undef)
  |some (.tup [])=>some (s.put d .undef)
  |_=>none
noncomputable def ca:List OM->Option AS->(AS->Prop)->Prop
 |_,none,_=>False
 |[],some s,Q=>Q s
 |st::l,some s,Q=>ca l (cJ P items ow st s) Q
theorem Gf (l:List OM) (Q:AS->Prop):ca P items ow l none Q=False:=by cases l<;>rfl
theorem Kb (s:AS) (Q:AS->Prop):ca P items ow [] (some s) Q=Q s:=rfl
theorem wj (st:OM) (l:List OM) (s:AS) (Q:AS->Prop):ca P items ow (st::l) (some s) Q=ca P items ow l (cJ P items ow st s) Q:=rfl
theorem rT (i : Nat) (o : Oper) (s : AS) : dr P items ow i ⟨o.dst, o.op, 0, "", #[], none⟩ s = dr P items ow i o s := rfl
theorem vj {i:Nat} {o:Oper} {s s1:AS} (hs:dr P items ow i o s=some s1):s1.tmps.length=s.tmps.length:=by
 unfold dr at hs;split at hs
 ·obtain⟨t,_,rfl⟩:=Option.map_eq_some_iff.1 hs;exact eA _ _ _
 split at hs
 ·obtain⟨t,_,rfl⟩:=Option.map_eq_some_iff.1 hs;exact eA _ _ _
 split at hs
 ·injection hs with hs;subst hs;rw[eA];simp
 split at hs
 ·cases hs
 split at hs
 ·injection hs with hs;subst hs;exact eA _ _ _
 ·split at hs
  ·injection hs with hs;subst hs;rw[eA]
  cases hs
 cases hs
theorem Gu {ops:Array Oper} {o:Oper} {i:Nat} {s s1:AS} (h:cJ P items ow (zU ops o i) s=some s1):bf P items ow ops i o s=some s1/\s1.tmps.length=s.tmps.length:=by
 unfold zU at h;unfold bf;cases hg:o.guard with
 |none=>
  rw[hg]at h;simp only[cJ,Sb,rT]at h;exact⟨h,vj P items ow h⟩
 |some gw=>
  obtain⟨g,want⟩:=gw;rw[hg]at h;simp only at h⊢;cases hd:(ops[g]?).bind (·.dst)with
  |none=>
   rw[hd]at h;cases h
  |some d=>
   rw[hd]at h;simp only[cJ,Sb,rT]at h;simp only;split at h
   ·rename_i b hb;rw[hb];simp only;split at h
    ·rename_i hbw;rw[if_pos hbw];exact⟨h,vj P items ow h⟩
    rename_i hbw;rw[if_neg hbw];exact⟨h,by injection h with h;subst h;exact eA _ _ _⟩
   ·rename_i hb;rw[hb];exact⟨h,by injection h with h;subst h;exact eA _ _ _⟩
   cases h
theorem bi (ops:Array Oper): ∀(l:List Oper) (i:Nat) (s:AS) (Q:AS->Prop),ca P items ow (bC ops l i) (some s) Q-> ∃s',eD P items ow ops (l.zipIdx i) s=some s'/\Q s'
 |[],i,s,Q,h=>⟨s,rfl,h⟩
 |o::l,i,s,Q,h=>by
  simp only[bC,wj]at h;simp only[List.zipIdx_cons,eD];cases hs:cJ P items ow (zU ops o i) s with
  |none=>rw[hs,Gf]at h;exact h.elim
  |some s1=>
   rw[hs]at h;obtain⟨h1,h2⟩:=Gu P items ow hs;rw[h1];exact bi ops l (i+1) s1 Q h
variable {P}
theorem rm (items:List (aH P)) (ow:List Nat) {id:Nat} {ops:Array Oper} {s:AS} {Q:Exit->AS->Prop} (h:ca P (items.map aH.a) ow (bC ops ops.toList 0) (some s) (Q .normal)):bu P (.region id ops false) Q s:=by
 obtain⟨s',h1,h2⟩:=bi P (items.map aH.a) ow ops ops.toList 0 s (Q .normal) h;exact A9 _ (aH.ok items) ow h1 h2
variable {items} {ow}
variable {i:Nat} {d:Option Tmp} {s:AS}
theorem Gt (op:Op) (k:Tmp) (want:Bool):cJ P items ow ⟨i,d,op,some (k,want)⟩ s=match s.tmps[k]? with
  |some (.one (.p (.raw (.bool b))))=>if b=want then cJ P items ow ⟨i,d,op,none⟩ s else some (s.put d .undef)
  |some (.tup [])=>some (s.put d .undef)
  |_=>none:=rfl
theorem qK {op:Op} (h:mR op=true):cJ P items ow ⟨i,d,op,none⟩ s=(iB P s.ev op).map (s.put d):=by
 show dr P items ow i ⟨d, op, 0, "", #[], none⟩ s = _;unfold dr;simp only[h,if_true]
theorem oS {op:Op} (h:mR op=false) (h':uC op=true):cJ P items ow ⟨i,d,op,none⟩ s=(bQ P s.ev s.H op).map (s.put d):=by
 show dr P items ow i ⟨d, op, 0, "", #[], none⟩ s = _;unfold dr;simp only[h,h',if_true,Bool.false_eq_true,if_false]
theorem JM (x:Operand):cJ P items ow ⟨i,d,.move x,none⟩ s=(s.ev x).map (s.put d):=qK rfl
theorem Cm (x:Operand):cJ P items ow ⟨i,d,.assign x,none⟩ s=(s.ev x).map (s.put d):=qK rfl
theorem JN (c a b:Operand):cJ P items ow ⟨i,d,.pick c a b,none⟩ s=(iB P s.ev (.pick c a b)).map (s.put d):=qK rfl
theorem MM (op:BinOp) (t t':TypeId) (x y:Operand):cJ P items ow ⟨i,d,.binOp op t x y t',none⟩ s=(iB P s.ev (.binOp op t x y t')).map (s.put d):=qK rfl
theorem P5 (op:UnOp) (t:TypeId) (x:Operand):cJ P items ow ⟨i,d,.unOp op t x,none⟩ s=(iB P s.ev (.unOp op t x)).map (s.put d):=qK rfl
theorem JK (t t':TypeId) (x:Operand):cJ P items ow ⟨i,d,.convert t t' x,none⟩ s=(iB P s.ev (.convert t t' x)).map (s.put d):=qK rfl
theorem zP (x:Operand) (k:Nat):cJ P items ow ⟨i,d,.extract x k,none⟩ s=(iB P s.ev (.extract x k)).map (s.put d):=qK rfl
theorem JL (t:TypeId) (x:Operand):cJ P items ow ⟨i,d,.load t x,none⟩ s=(bQ P s.ev s.H (.load t x)).map (s.put d):=oS rfl rfl
theorem uW (t:TypeId) (x y:Operand):cJ P items ow ⟨i,d,.indexAddr t x y,none⟩ s=(bQ P s.ev s.H (.indexAddr t x y)).map (s.put d):=oS rfl rfl
theorem uV (t:TypeId) (x:Operand) (f:Nat):cJ P items ow ⟨i,d,.fieldAddr t x f,none⟩ s=(bQ P s.ev s.H (.fieldAddr t x f)).map (s.put d):=oS rfl rfl
theorem FY (t:TypeId) (x:Operand) (f:Nat):cJ P items ow ⟨i,d,.field t x f,none⟩ s=(bQ P s.ev s.H (.field t x f)).map (s.put d):=oS rfl rfl
theorem FZ (t:TypeId) (x:Operand) (lo hi mx:Option Operand):cJ P items ow ⟨i,d,.slice t x lo hi mx,none⟩ s=(bQ P s.ev s.H (.slice t x lo hi mx)).map (s.put d):=oS rfl rfl
theorem FV (t:TypeId) (ps:Array (Nat×Operand)):cJ P items ow ⟨i,d,.build t ps,none⟩ s=(bQ P s.ev s.H (.build t ps)).map (s.put d):=oS rfl rfl
theorem xB (x:Operand):cJ P items ow ⟨i,d,.nilCheck x,none⟩ s=(bQ P s.ev s.H (.nilCheck x)).map (s.put d):=oS rfl rfl
theorem xA (f:Fn) (xs ys:Array Operand):cJ P items ow ⟨i,d,.makeFunc f xs ys,none⟩ s=(bQ P s.ev s.H (.makeFunc f xs ys)).map (s.put d):=oS rfl rfl
theorem MP (x y:Operand) (ts:Array TypeId):cJ P items ow ⟨i,d,.call {callee:= .builtin .min,args:= #[x,y],argTypes:=ts},none⟩ s=(Li (fun a b=>if b<a then b else a) [s.ev x,s.ev y]).map (s.put d):=qK rfl
theorem MO (xs:Array Operand) (ts:Array TypeId):cJ P items ow ⟨i,d,.call {callee:= .builtin .len,args:=xs,argTypes:=ts},none⟩ s=(bQ P s.ev s.H (.call {callee:= .builtin .len,args:=xs,argTypes:=ts})).map (s.put d):=oS rfl rfl
def uU (d:Nat) (s:AS):Option (TV×List OObj)->Option AS
 |some (t,[])=>some (s.put (some d) t)
 |some (t,o::l)=>(match s.H d with|[]=>some (AS.put ⟨s.tmps,aJ s.H d (o::l)⟩ (some d) t)|_=>none)
 |none=>none
theorem tn {op:Op} {d:Nat} (h:mR op=false) (h':uC op=false) (hD:eY P s.ev s.H op=none):cJ P items ow ⟨i,some d,op,none⟩ s=uU d s (cf P items ow i d s.ev s.H op):=by
 show dr P items ow i ⟨some d, op, 0, "", #[], none⟩ s = _;unfold dr uU;simp only[h,h',Bool.false_eq_true,if_false,hD];cases hA:cf P items ow i d s.ev s.H op with
 |none=>rfl
 |some tF=>
  obtain⟨t,F⟩:=tF;cases F with
  |nil=>rfl
  |cons o l=>simp only[];cases s.H d<;>rfl
theorem MN {d:Nat} (e:TypeId) (x:Operand):cJ P items ow ⟨i,some d,.box e x,none⟩ s=uU d s (cf P items ow i d s.ev s.H (.box e x)):=tn rfl rfl rfl
theorem FU {d:Nat} (e:TypeId):cJ P items ow ⟨i,some d,.alloc e,none⟩ s=uU d s (cf P items ow i d s.ev s.H (.alloc e)):=tn rfl rfl rfl
theorem uX {d:Nat} (t:TypeId) (x y:Operand):cJ P items ow ⟨i,some d,.makeSlice t x y,none⟩ s=uU d s (cf P items ow i d s.ev s.H (.makeSlice t x y)):=tn rfl rfl rfl
theorem tp {d:Nat} (t:TypeId) (n:Nat) (ps:Array (Nat×Operand)):cJ P items ow ⟨i,some d,.buildSlice t n ps,none⟩ s=uU d s (cf P items ow i d s.ev s.H (.buildSlice t n ps)):=tn rfl rfl rfl
theorem JJ {d:Nat} (f:FuncId) (xs:Array Operand) (ts:Array TypeId):cJ P items ow ⟨i,some d,.call {callee:= .value (.func f),args:=xs,argTypes:=ts},none⟩ s=uU d s (cf P items ow i d s.ev s.H (.call {callee:= .value (.func f),args:=xs,argTypes:=ts})):=tn rfl rfl rfl
theorem FX {d:Nat} (k:Tmp) (xs:Array Operand) (ts:Array TypeId):cJ P items ow ⟨i,some d,.call {callee:= .value (.tmp k),args:=xs,argTypes:=ts},none⟩ s=uU d s (cf P items ow i d s.ev s.H (.call {callee:= .value (.tmp k),args:=xs,argTypes:=ts})):=tn rfl rfl rfl
def Se (d:Option Tmp) (s:AS):Option A3->Option AS
 |some q=>some (AS.put ⟨s.tmps.map (a7 q.k),q.H⟩ d q.t)
 |none=>none
theorem F0 (t:TypeId) (x y:Operand):cJ P items ow ⟨i,d,.store t x y,none⟩ s=Se d s (eY P s.ev s.H (.store t x y)):=by
 show dr P items ow i ⟨d, .store t x y, 0, "", #[], none⟩ s = _;unfold dr Se;simp only[mR,uC,Bool.false_eq_true,if_false];cases hq:eY P s.ev s.H (.store t x y)with
 |some q=>rfl
 |none=>
  cases d with
  |none=>rfl
  |some d=>simp only[cf]
def Rp (d:Nat) (s:AS) (q:Option A3) (r:Option (TV×List OObj)):Option AS:=match q with
 |some q=>Se (some d) s (some q)
 |none=>uU d s r
theorem Cl {d:Nat} (xs:Array Operand) (ts:Array TypeId):cJ P items ow ⟨i,some d,.call {callee:= .builtin .append,args:=xs,argTypes:=ts},none⟩ s=
  Rp d s (eY P s.ev s.H (.call {callee:= .builtin .append,args:=xs,argTypes:=ts})) (cf P items ow i d s.ev s.H (.call {callee:= .builtin .append,args:=xs,argTypes:=ts})):=by
 cases hq:eY P s.ev s.H (.call {callee:= .builtin .append,args:=xs,argTypes:=ts})with
 |some q=>
  show dr P items ow i ⟨some d, .call { callee := .builtin .append, args := xs, argTypes := ts }, 0, "", #[], none⟩ s = _;unfold dr;simp only[mR,PH,uC,Bool.false_eq_true,if_false,hq];rfl
 |none=>exact tn rfl rfl hq
end
end
section
def Hm:List (Nat×List OObj)->OH
 |[],_=>[]
 |(k,F)::l,a=>if a=k then F else Hm l a
def OI (H:OH):List (Nat×List OObj)->Prop
 |[]=>True
 |(k,F)::l=>H k=F/\OI H l
def xz (ks:List Nat):AV->Bool
 | .sl a _ _ _=>ks.contains a
 | .ptr a _ _ _=>ks.contains a
 | .fn _ a _=>ks.contains a
 |_=>true
def JF (ks:List Nat):TV->Bool
 | .one x=>xz ks x
 | .agg cs=>cs.all (xz ks)
 | .fn _ cs=>cs.all (xz ks)
 | .tup ts=>ts.all fun t=>t.2.all (xz ks)
def OC (ks:List Nat):List TV->List TV->Prop
 |[],[]=>True
 |x::xs,y::ys=>(y= .one .junk\/(y=x/\JF ks y=true))/\OC ks xs ys
 |_,_=>False
section
variable {P:Program} {w0 w w':World} {O X:Nat->Prop} {ρ:Rho} {H:OH}
theorem Dh {H:OH}: ∀{l:List (Nat×List OObj)},OI H l-> ∀a,((l.map (·.1)).contains a=true->Hm l a=H a)/\((l.map (·.1)).contains a=false->Hm l a=[])
 |[],_,a=>⟨fun h=>by simp at h,fun _=>rfl⟩
 |(k,F)::l,h,a=>by
  obtain⟨h1,h2⟩:=h;obtain⟨g1,g2⟩:=Dh h2 a;by_cases ha:a=k
  ·subst ha;exact⟨fun _=>by simp[Hm,h1],fun h=>by simp at h⟩
  refine⟨fun h=>?_,fun h=>?_⟩
  ·simp only[Hm,ha,if_false];apply g1;simpa[ha] using h
  simp only[Hm,ha,if_false];apply g2;simpa[ha] using h
theorem ye {ks:List Nat}: ∀{l m:List TV},OC ks l m->m.length=l.length/\ ∀(t:Nat) y,m[t]?=some y->y= .one .junk\/(l[t]?=some y/\JF ks y=true)
 |[],[],_=>⟨rfl,fun t y h=>by simp at h⟩
 |x::xs,y::ys,h=>by
  obtain⟨h1,h2⟩:=h;obtain⟨g1,g2⟩:=ye h2;refine⟨by simp[g1],fun t z hz=>?_⟩;cases t with
  |succ t=>simp at hz⊢;exact g2 t z hz
  |zero=>
   simp at hz;subst hz;rcases h1 with h1|⟨h1,h3⟩
   ·exact .inl h1
   exact .inr ⟨by simp[h1],h3⟩
 |[],y::ys,h=>h.elim
 |x::xs,[],h=>h.elim
theorem Nq {H':OH} {Y Y':Nat->Prop} {ks:List Nat} (hk: ∀a,ks.contains a=true->H' a=H a) (hY: ∀b,Y' b->Y b) {x:AV} {v:Value} (ho:xz ks x=true) (h:x.rel ρ H Y w v):x.rel ρ H' Y' w v:=by
 cases x with
 |p x=>exact bX.weaken (fun b _ hb=>hY b hb) h
 |sl a r off len=>
  obtain⟨o,h1,h2⟩:=h;exact⟨o,by rw[hk a ho];exact h1,h2⟩
 |ptr a r i j=>
  obtain⟨o,b,c,h1,h2⟩:=h;exact⟨o,b,c,by rw[hk a ho];exact h1,h2⟩
 |fn f a qs=>
  obtain⟨vs,h1,h2,h0,h3⟩:=h;exact⟨vs,h1,h2,h0,fun n q hn=>by rw[hk a ho];exact h3 n q hn⟩
 |junk=>trivial
theorem aF {s:AS} {tm:List TV} {l:List (Nat×List OObj)} (hl:OI s.H l) (ht:OC (l.map (·.1)) s.tmps tm):bW s ⟨tm,Hm l⟩:=by
 rintro w0 O X a w ⟨h1,hsz,ρ,hinv,htm⟩;obtain⟨t1,t2⟩:=ye ht;have hk:=fun a=>Dh hl a
 have live: ∀(a r:Nat) o,(Hm l a)[r]?=some o->(l.map (·.1)).contains a=true/\(s.H a)[r]?=some o:=fun a r o ho=>by
  cases hc:(l.map (·.1)).contains a with
  |false=>rw[(hk a).2 hc]at ho;simp at ho
  |true=>rw[(hk a).1 hc]at ho;exact⟨rfl,ho⟩
 have hXo: ∀b,Xo X ρ (Hm l) b->Xo X ρ s.H b:=fun b hb=>by
  rcases hb with hb|⟨x,y,o,n,g1,g2⟩
  ·exact .inl hb
  exact .inr ⟨x,y,o,n,(live x y o g1).2,g2⟩
 have hmap: ∀x v,xz (l.map (·.1)) x=true->AV.rel ρ s.H (Xo X ρ s.H) w x v->AV.rel ρ (Hm l) (Xo X ρ (Hm l)) w x v:=fun x v ho h=>Nq (fun a ha=>(hk a).1 ha) hXo ho h
 have hagg: ∀cs v,cs.all (xz (l.map (·.1)))=true->bJ ρ s.H (Xo X ρ s.H) w cs v->bJ ρ (Hm l) (Xo X ρ (Hm l)) w cs v:=fun cs v ho h=>by
  simp only[aj]at ho;obtain⟨vs,g1,g2,g3⟩:=h;exact⟨vs,g1,g2,fun j x hx=>by obtain⟨u,u1,u2,u3⟩:=g3 j x hx;exact⟨u,u1,u2,hmap x u (ho x (ax hx)) u3⟩⟩
 refine⟨h1,by simp only;omega,ρ,⟨hinv.keep,fun a r o ho=>?_,fun a r a' r' o o' b c c' ho ho'=>hinv.inj a r a' r' o o' b c c' (live a r o ho).2 (live a' r' o' ho').2,fun a r o b c ho=>hinv.old a r o b c (live a r o ho).2,hinv.bar,fun a r o ho=>hinv.self a r o (live a r o ho).2⟩,fun t x hx=>?_⟩
 ·obtain⟨hc,ho'⟩:=live a r o ho;obtain⟨q1,q2,q3⟩:=hinv.objs a r o ho';refine⟨q1,q2,?_⟩;cases hr:ρ a r with
  |none=>rw[hr]at q3;exact q3
  |some bc=>
   obtain⟨b,c⟩:=bc;rw[hr]at q3;obtain⟨cells,p1,p2,p3,p4,p5⟩:=q3;refine⟨cells,p1,p2,p3,p4,fun i e j x he hx=>?_⟩;obtain⟨u,u1,u2,u3⟩:=p5 i e j x he hx;have hs:=hinv.self a r o ho' e (ax he) x (ax hx);refine⟨u,u1,u2,hmap x u ?_ u3⟩;cases x with
   |sl y _ _ _=>have hs:y=a:=hs;subst hs;exact hc
   |ptr y _ _ _=>have hs:y=a:=hs;subst hs;exact hc
   |fn _ y _=>have hs:y=a:=hs.1;subst hs;exact hc
   |p y=>rfl
   |junk=>rfl
 rcases t2 t x hx with rfl|⟨hx',hok⟩
 ·obtain⟨v,hv⟩: ∃v,a.tmps[t]?=some v:=by
   have:t<tm.length:=(List.getElem?_eq_some_iff.1 hx).1;exact⟨_,Array.getElem?_eq_getElem (by omega)⟩
  exact⟨v,hv,trivial⟩
 obtain⟨v,v1,v2⟩:=htm t x hx';refine⟨v,v1,?_⟩;cases x with
 |one x=>exact hmap x v hok v2
 |agg cs=>exact hagg cs v hok v2
 |fn f cs=>obtain⟨u,h1,h2⟩:=v2;exact⟨u,hagg cs u hok h1,h2⟩
 |tup ts=>
  simp only[JF,aj]at hok;obtain⟨vs,g1,g2,g3⟩:=v2;refine⟨vs,g1,g2,fun j b cs hj=>?_⟩;obtain⟨u,u1,u2⟩:=g3 j b cs hj;have hall:=hok (b,cs) (ax hj);refine⟨u,u1,?_⟩;rcases u2 with⟨u2,u3⟩|⟨u2,y,rfl,u4⟩
  ·exact .inl ⟨u2,hagg cs u (by simpa only[aj] using hall) u3⟩
  exact .inr ⟨u2,y,rfl,hmap y u (hall y (by simp)) u4⟩
theorem rM {s:AS} {k d:Nat} (ty:TypeId) (es:Nat) (hes:0<es) (hd:s.H d=[]) (hk:s.tmps[k]?=some (.raw (.slice none 0 0))):bW s ⟨s.tmps.set k (.one (.sl d 0 0 0)),aJ s.H d [⟨ty,es,[]⟩]⟩:=by
 rintro w0 O X a w ⟨h1,hsz,ρ,hinv,htm⟩;have htm:bq X ρ s a w:=htm;obtain⟨v,v1,v2⟩:=htm k _ hk;have hv:=(bs v2).1;subst hv;have hnew: ∀(r b c:Nat),(fun _=>none:Nat->Option (Nat×Nat)) r=some (b,c)->w.heap.size<=b:=fun r b c h=>by cases h
 have hmono: ∀x u,AV.rel ρ s.H (Xo X ρ s.H) w x u->AV.rel (newρ ρ d fun _=>none) (aJ s.H d [⟨ty,es,[]⟩]) (Xo X (newρ ρ d fun _=>none) (aJ s.H d [⟨ty,es,[]⟩])) w x u:=fun x u h=>il hinv (Ext.refl w) hd hnew h
 refine⟨h1,by simpa using hsz,newρ ρ d fun _=>none,⟨hinv.keep,fun a' r o ho=>?_,fun a' r a'' r' o o' b c c' ho ho' hr hr'=>?_,fun a' r o b c ho hr=>?_,hinv.bar,fun a' r o ho=>?_⟩,fun t x hx=>?_⟩
 ·by_cases ha:a'=d
  ·subst ha;simp only[aX]at ho;cases r with
   |succ r=>simp at ho
   |zero=>simp at ho;subst ho;exact⟨by simp,hes,by rw[newρ_eq]⟩
  simp only[aN ha]at ho;exact dK (hinv.objs a' r o ho) (newρ_ne ha r) (fun b c hb=>rfl) hmono
 ·by_cases ha:a'=d
  ·subst ha;rw[newρ_eq]at hr;cases hr
  by_cases ha':a''=d
  ·subst ha';rw[newρ_eq]at hr';cases hr'
  rw[newρ_ne ha]at hr;rw[newρ_ne ha']at hr';simp only[aN ha]at ho;simp only[aN ha']at ho';exact hinv.inj a' r a'' r' o o' b c c' ho ho' hr hr'
 ·by_cases ha:a'=d
  ·subst ha;rw[newρ_eq]at hr;cases hr
  rw[newρ_ne ha]at hr;simp only[aN ha]at ho;exact hinv.old a' r o b c ho hr
 ·by_cases ha:a'=d
  ·subst ha;simp only[aX]at ho;cases r with
   |succ r=>simp at ho
   |zero=>simp at ho;subst ho;exact fun e he=>by simp at he
  simp only[aN ha]at ho;exact hinv.self a' r o ho
 by_cases hkt:k=t
 ·subst hkt;simp only[List.getElem?_set,if_true]at hx;split at hx
  ·injection hx with hx
   subst hx;exact⟨_,v1,⟨ty,es,[]⟩,by show(aJ s.H d [⟨ty,es,[]⟩] d)[0]?=_;rw[aX];rfl,by simp,.inl ⟨by rw[newρ_eq],rfl,rfl,rfl⟩⟩
  cases hx
 simp only[List.getElem?_set_ne hkt]at hx;obtain⟨u,u1,u2⟩:=htm t x hx;exact⟨u,u1,TV.rel_map u2 hmono⟩
theorem mB {Y Z:Nat->Prop} {a r off len:Nat} {o:OObj} {v:Value} {F:AV->PV} (hob:objRel ρ H Y w a r o) (ho:(H a)[r]?=some o) (hcell: ∀e∈o.elems,∀x∈e,∀u,x.rel ρ H Y w u->bX Z w (F x) u) (hZb: ∀b c,ρ a r=some (b,c)-> ¬Z b)
  (h:AV.rel ρ H Y w (.sl a r off len) v):bX Z w (.sl (((o.elems.take (off+len)).drop off).map (List.map F))) v:=by
 obtain⟨o',g1,g2,g3⟩:=h;rw[ho]at g1;injection g1 with g1
 subst g1;obtain⟨q1,q2,q3⟩:=hob;have hl:(((o.elems.take (off+len)).drop off).map (List.map F)).length=len:=by simp;omega
 rcases g3 with⟨gr,gv,gl,go⟩|⟨b,c,cap,gr,gv,hcap,_⟩
 ·rw[List.length_eq_zero_iff.1 (hl.trans gl),gv];exact bX.nil _ _
 by_cases hl0:len=0
 ·rw[List.length_eq_zero_iff.1 (hl.trans hl0),gv,hl0];exact bX.nil _ _
 rw[gr]at q3;obtain⟨cells,p1,p2,p3,p4,p5⟩:=q3;have hsub: ∀(i:Nat) e,(((o.elems.take (off+len)).drop off).map (List.map F))[i]?=some e-> ∃e',o.elems[off+i]?=some e'/\e=e'.map F:=fun i e he=>by
  rw[az]at he;obtain⟨e',he',rfl⟩:=Option.map_eq_some_iff.1 he;rw[List.getElem?_drop,List.getElem?_take]at he';split at he'
  ·exact⟨e',he',rfl⟩
  cases he'
 have hcl: ∀(i:Nat) e (j:Nat) x,(((o.elems.take (off+len)).drop off).map (List.map F))[i]?=some e->e[j]?=some x-> ∃u:Value,cells[(off+i)*o.es+j]?=some u/\bX Z w x u:=fun i e j x he hx=>by
  obtain⟨e',he',rfl⟩:=hsub i e he;rw[az]at hx;obtain⟨x',hx',rfl⟩:=Option.map_eq_some_iff.1 hx;obtain⟨u,u1,u2,u3⟩:=p5 _ e' j x' he' hx';exact⟨u,u1,hcell e' (ax he') x' (ax hx') u u3⟩
 rw[gv];have:=bX.sl (X:=Z) (w:=w) b (off*o.es) o.es cap (((o.elems.take (off+len)).drop off).map (List.map F)) (fun i j=>(cells[(off+i)*o.es+j]?).getD undef) (hZb b c gr) (Array.getElem?_eq_some_iff.1 p1).1
  (fun e he=>by
   simp only[am]at he;obtain⟨e',he',rfl⟩:=he;rw[List.length_map];exact q1 e' (List.mem_of_mem_take (List.mem_of_mem_drop he'))) (by omega) (by omega)
  (fun i e j x he hx=>by
   obtain⟨u,u1,_⟩:=hcl i e j x he hx;rw[cell_of_row _ b _ cells o.ty (0,0) p1,<- Nat.add_mul,u1];rfl)
  (fun i e j x he hx=>by
   obtain⟨u,u1,u2⟩:=hcl i e j x he hx;simp only[u1,Option.getD_some];exact u2)
 rw[hl]at this;exact this
def kV (H:OH) (a:Nat):AV->PV
 | .p x=>x
 | .sl _ r off len=>match(H a)[r]? with
  |some o=> .sl (((o.elems.take (off+len)).drop off).map (List.map ri))
  |none=> .raw undef
 |_=> .raw undef
def dI (H:OH) (a:Nat):AV->AV
 | .sl b r off len=>if b=a then(match(H a)[r]? with
  |some o=> .p (.sl (((o.elems.take (off+len)).drop off).map (List.map (kV H a))))
  |none=> .junk)else .sl b r off len
 | .ptr b r i j=>if b=a then .junk else .ptr b r i j
 | .fn f b qs=>if b=a then .junk else .fn f b qs
 |x=>x
theorem zC (H:OH) (a:Nat):lf (dI H a):=fun f b qs=>by
 by_cases h:b=a
 ·exact .inl (if_pos h)
 exact .inr ⟨b,qs,if_neg h,rfl,fun n q hn=>⟨q,hn,if_neg h⟩⟩
def eZ (H:OH) (a:Nat):TV->TV
 | .one x=> .one (dI H a x)
 | .agg cs=> .agg (cs.map (dI H a))
 | .fn f cs=> .fn f (cs.map (dI H a))
 | .tup ts=> .tup (ts.map fun t=>(t.1,t.2.map (dI H a)))
def cU (o:OObj):Prop:= ∀e∈o.elems,∀x∈e,isPure x=true
def rc (H:OH) (a:Nat):Prop:= ∀(r:Nat) o,(H a)[r]?=some o-> ∀e∈o.elems,∀x∈e,isPure x=true\/ ∃r' off len o',x= .sl a r' off len/\(H a)[r']?=some o'/\cU o'
theorem dF {s:AS} (a:Nat) (hok:rc s.H a):bW s ⟨s.tmps.map (eZ s.H a),aJ s.H a []⟩:=by
 rintro w0 O X act w ⟨h1,hsz,ρ,hinv,htm⟩;have htm:bq X ρ s act w:=htm;have hna: ∀(x y:Nat) o,(aJ s.H a [] x)[y]?=some o->x≠a/\(s.H x)[y]?=some o:=fun x y o ho=>by
  by_cases hx:x=a
  ·subst hx;rw[aX]at ho;simp at ho
  rw[aN hx]at ho;exact⟨hx,ho⟩
 have hXo: ∀b,Xo X ρ (aJ s.H a []) b->Xo X ρ s.H b:=fun b hb=>by
  rcases hb with hb|⟨x,y,o,n,g1,g2⟩
  ·exact .inl hb
  exact .inr ⟨x,y,o,n,(hna x y o g1).2,g2⟩
 have hZb: ∀(r:Nat) o,(s.H a)[r]?=some o-> ∀b c,ρ a r=some (b,c)-> ¬Xo X ρ (aJ s.H a []) b:=fun r o ho b c hr hX=>by
  rcases hX with hX|⟨x,y,o',n,g1,g2⟩
  ·exact(hinv.old a r o b c ho hr).2 hX
  obtain⟨hx,g1'⟩:=hna x y o' g1;exact hx (hinv.inj x y a r o' o b n c g1' ho g2 hr).1
 have hpure: ∀x u,isPure x=true->AV.rel ρ s.H (Xo X ρ s.H) w x u->bX (Xo X ρ (aJ s.H a [])) w (ri x) u:=fun x u hp h=>by
  cases x<;>first|exact bX.weaken (fun b _ hb=>hXo b hb) h|cases hp
 have hcell: ∀(r:Nat) o,(s.H a)[r]?=some o-> ∀e∈o.elems,∀x∈e,∀u,AV.rel ρ s.H (Xo X ρ s.H) w x u->bX (Xo X ρ (aJ s.H a [])) w (kV s.H a x) u:=fun r o ho e he x hx u hu=>by
  rcases hok r o ho e he x hx with hp|⟨r',off,len,o',rfl,ho',hpr⟩
  ·have:=hpure x u hp hu;cases x<;>first|exact this|cases hp
  simp only[kV,ho'];exact mB (hinv.objs a r' o' ho') ho' (fun e he y hy u hu=>hpure y u (hpr e he y hy) hu) (hZb r' o' ho') hu
 have hmap: ∀x v,AV.rel ρ s.H (Xo X ρ s.H) w x v->AV.rel ρ (aJ s.H a []) (Xo X ρ (aJ s.H a [])) w (dI s.H a x) v:=fo (zC s.H a) fun x v hn h=>by
  cases x with
  |fn=>cases hn
  |p x=>exact bX.weaken (fun b _ hb=>hXo b hb) h
  |sl b r off len=>
   simp only[dI];by_cases hb:b=a
   ·subst hb;rw[if_pos rfl];have h':=h;obtain⟨o,g1,g2,g3⟩:=h;rw[g1];exact mB (hinv.objs b r o g1) g1 (hcell r o g1) (hZb r o g1) h'
   rw[if_neg hb];obtain⟨o,g1,g2⟩:=h;exact⟨o,by rw[aN hb];exact g1,g2⟩
  |ptr b r i j=>
   simp only[dI];by_cases hb:b=a
   ·subst hb;rw[if_pos rfl];trivial
   rw[if_neg hb];obtain⟨o,b',c,g1,g2⟩:=h;exact⟨o,b',c,by rw[aN hb];exact g1,g2⟩
  |junk=>trivial
 have hagg: ∀cs v,bJ ρ s.H (Xo X ρ s.H) w cs v->bJ ρ (aJ s.H a []) (Xo X ρ (aJ s.H a [])) w (cs.map (dI s.H a)) v:=fun cs v h=>by
  obtain⟨vs,g1,g2,g3⟩:=h;refine⟨vs,g1,by simpa using g2,fun j x hx=>?_⟩;rw[az]at hx;obtain⟨y,hy,rfl⟩:=Option.map_eq_some_iff.1 hx;obtain⟨u,u1,u2,u3⟩:=g3 j y hy;exact⟨u,u1,u2,hmap y u u3⟩
 refine⟨h1,by simpa using hsz,ρ,⟨hinv.keep,fun x y o ho=>?_,fun x y x' y' o o' b c c' ho ho'=>hinv.inj x y x' y' o o' b c c' (hna x y o ho).2 (hna x' y' o' ho').2,fun x y o b c ho=>hinv.old x y o b c (hna x y o ho).2,hinv.bar,fun x y o ho=>hinv.self x y o (hna x y o ho).2⟩,fun t x hx=>?_⟩
 ·obtain⟨hx,ho'⟩:=hna x y o ho;obtain⟨q1,q2,q3⟩:=hinv.objs x y o ho';refine⟨q1,q2,?_⟩;cases hr:ρ x y with
  |none=>rw[hr]at q3;exact q3
  |some bc=>
   obtain⟨b,c⟩:=bc;rw[hr]at q3;obtain⟨cells,p1,p2,p3,p4,p5⟩:=q3;refine⟨cells,p1,p2,p3,p4,fun i e j z he hz=>?_⟩;obtain⟨u,u1,u2,u3⟩:=p5 i e j z he hz;have hs:=hinv.self x y o ho' e (ax he) z (ax hz);have:=hmap z u u3;refine⟨u,u1,u2,?_⟩;cases z with
   |sl z _ _ _=>have hs:z=x:=hs;subst hs;simpa[dI,hx] using this
   |ptr z _ _ _=>have hs:z=x:=hs;subst hs;simpa[dI,hx] using this
   |fn _ z _=>have hs:z=x:=hs.1;subst hs;simpa[dI,hx] using this
   |p z=>exact this
   |junk=>trivial
 simp only[az]at hx;obtain⟨y,hy,rfl⟩:=Option.map_eq_some_iff.1 hx;obtain⟨v,v1,v2⟩:=htm t y hy;refine⟨v,v1,?_⟩;cases y with
 |one x=>exact hmap x v v2
 |agg cs=>exact hagg cs v v2
 |fn f cs=>obtain⟨u,h1,h2⟩:=v2;exact⟨u,hagg cs u h1,h2⟩
 |tup ts=>
  obtain⟨vs,g1,g2,g3⟩:=v2;refine⟨vs,g1,by simpa using g2,fun j b cs hj=>?_⟩;rw[az]at hj;obtain⟨z,hz,hzz⟩:=Option.map_eq_some_iff.1 hj;obtain⟨b',cs'⟩:=z;simp at hzz;obtain⟨rfl,rfl⟩:=hzz;obtain⟨u,u1,u2⟩:=g3 j b' cs' hz;refine⟨u,u1,?_⟩;rcases u2 with⟨u2,u3⟩|⟨u2,q,rfl,u4⟩
  ·exact .inl ⟨u2,hagg _ _ u3⟩
  exact .inr ⟨u2,_,rfl,hmap q u u4⟩
end
end
section
section
variable {P:Program} {s:AS} {Q:Exit->AS->Prop} {x y z:Code}
theorem aI (items:List (aH P)) (ow:List Nat) {id:Nat} {ops:Array Oper} (h: ∀K:AS->Prop,(∀s',bu P y Q s'->K s')->ca P (items.map aH.a) ow (bC ops ops.toList 0) (some s) K):bu P (.seq (.region id ops false) y) Q s:=
 aG (rm items ow (h _ fun _ h=>h))
theorem li (items:List (aH P)) (ow:List Nat) {id:Nat} {ops:Array Oper} (h: ∀K:AS->Prop,(∀s',Q .normal s'->K s')->ca P (items.map aH.a) ow (bC ops ops.toList 0) (some s) K):bu P (.region id ops false) Q s:=
 rm items ow (h _ fun _ h=>h)
theorem aE {y:Code} {id:Nat} {ops:Array Oper} (h: ∀K:AS->Prop,(∀s',bu P y Q s'->K s')->ca P [] [] (bC ops ops.toList 0) (some s) K):bu P (.seq (.region id ops false) y) Q s:=aI [] [] h
theorem aO {id:Nat} {ops:Array Oper} (h: ∀K:AS->Prop,(∀s',Q .normal s'->K s')->ca P [] [] (bC ops ops.toList 0) (some s) K):bu P (.region id ops false) Q s:=li [] [] h
theorem bH {G:Type} (St:G->AS) (μ:G->Nat) (g0:G) {id:Nat} (h0:bW s (St g0))
  (round: ∀g,bu P x (mc (fun s'=> ∃g',μ g'<μ g/\bW s' (St g')) (lF id Q)) (St g)):bu P (.block id (.loop x)) Q s:=
 aP (Hq St μ g0 h0 round)
theorem aM {n:Int} (h1: -9223372036854775808<=n) (h2:n<=9223372036854775807):IntKind.i64.wrap n=n:=IntWalk.i64_in _ (by omega)
theorem dM {n:Int} (h1:0<=n) (h2:n<18446744073709551616):IntKind.u64.wrap n=n:=by rw[IntKind.wrap_u64];omega
theorem EF {n:Int} (h1:0<=n) (h2:n<4294967296):IntKind.u32.wrap n=n:=by rw[IntKind.wrap_u32];omega
end
end
section
def ls {α:Type} (f:α->List PV) (l:List α):List (List PV):=l.map f
def lc {α:Type} (f:α->List PV) (l:List α):List (List AV):=l.map fun x=>(f x).map AV.p
section
variable {α:Type} {f:α->List PV}
theorem eH (l:List α):(ls f l).length=l.length:=by simp[ls]
theorem jK (l:List α):(lc f l).length=l.length:=by simp[lc]
theorem fY (l:List α) (i:Nat):(ls f l)[i]?=(l[i]?).map f:=by simp[ls]
theorem xn (l:List α) (i:Nat):(lc f l)[i]?=(l[i]?).map fun x=>(f x).map AV.p:=by simp[lc]
theorem Mw (l:List α) (i:Nat):(ls f l).take i=ls f (l.take i):=by simp[ls]
theorem Mv (l:List α) (i:Nat):(ls f l).drop i=ls f (l.drop i):=by simp[ls]
theorem gQ (l:List α) (i:Nat):(lc f l).take i=lc f (l.take i):=by simp[lc]
theorem xm (l:List α) (i:Nat):(lc f l).drop i=lc f (l.drop i):=by simp[lc]
theorem PS (l:List α):(ls f l).map (List.map AV.p)=lc f l:=by simp[ls,lc]
theorem My (l:List PV):(l.map AV.p).map ri=l:=by rw[List.map_map];exact(List.map_congr_left (fun _ _=>rfl)).trans (List.map_id l)
theorem mr (l:List α):(lc f l).map (List.map ri)=ls f l:=by
 simp only[ls,lc,List.map_map];exact List.map_congr_left fun x _=>My (f x)
theorem ij (H:OH) (a:Nat) (l:List α):(lc f l).map (List.map (kV H a))=ls f l:=by
 simp only[ls,lc,List.map_map];refine List.map_congr_left fun x _=>?_
 show((f x).map AV.p).map (kV H a)=f x;rw[List.map_map];exact(List.map_congr_left (fun _ _=>rfl)).trans (List.map_id _)
theorem Mq (l:List α):((lc f l).all fun e=>e.all isPure)=true:=by
 simp[lc,isPure]
theorem I7 (l m:List α):lc f l++lc f m=lc f (l++m):=by simp[lc]
theorem Mu (x:α) (l:List α):ls f (x::l)=f x::ls f l:=rfl
theorem xp:lc f []=[]:=rfl
theorem PR:ls f []=[]:=rfl
theorem pT (l:List α) (i:Nat) (x:α):(lc f l).set i ((f x).map AV.p)=lc f (l.set i x):=by simp[lc,List.map_set]
theorem sW {n:Nat} (hf: ∀x,(f x).length=n) (l:List α):(∀c∈ls f l,c.length=n)=True:=by
 simp only[eq_iff_iff,iff_true];intro c hc;obtain⟨x,_,rfl⟩:=List.mem_map.1 hc;exact hf x
theorem PO {n:Nat} (hf: ∀x,(f x).length=n) (l:List α):(∀c∈lc f l,c.length=n)=True:=by
 simp only[eq_iff_iff,iff_true];intro c hc;obtain⟨x,_,rfl⟩:=List.mem_map.1 hc;rw[List.length_map];exact hf x
theorem xo (k:Nat->Nat->Bool) (l:List α):(lc f l).map (List.map (a6 k))=lc f l:=by
 simp only[lc,List.map_map];refine List.map_congr_left fun x _=>?_
 show((f x).map AV.p).map (a6 k)=_;rw[List.map_map];exact List.map_congr_left (fun _ _=>rfl)
theorem jL (d:Nat) (l:List α):(lc f l).map (List.map (cb d))=lc f l:=by
 simp only[lc,List.map_map];refine List.map_congr_left fun x _=>?_
 show((f x).map AV.p).map (cb d)=_;rw[List.map_map];exact List.map_congr_left (fun _ _=>rfl)
theorem FL {z:Int} (h:0<=z):vN z=some z.toNat:=if_pos h
theorem bz (t:TypeId) (n:Nat) (l:List α):cU ⟨t,n,lc f l⟩:=fun e he x hx=>by
 obtain⟨y,_,rfl⟩:=List.mem_map.1 he;obtain⟨z,_,rfl⟩:=List.mem_map.1 hx;rfl
theorem dR {H:OH} {a:Nat} {t:TypeId} {n:Nat} {l:List α} (h:H a=[⟨t,n,lc f l⟩]):rc H a:=fun r o ho e he x hx=>by
 rw[h]at ho;cases r with
 |succ r=>simp at ho
 |zero=>simp at ho;subst ho;exact .inl (bz t n l e he x hx)
end
theorem OX {β:Type} (p:β->Prop):(∀e∈([]:List β),p e)=True:=by simp
theorem LK {β:Type} (p:β->Prop) (x:β) (l:List β):(∀e∈x::l,p e)=(p x/\ ∀e∈l,p e):=by simp
theorem Tb {c:Prop} [Decidable c] (h:c) {β:Type} (a b:β):(if c then a else b)=a:=if_pos h
theorem Ta {c:Prop} [Decidable c] (h: ¬c) {β:Type} (a b:β):(if c then a else b)=b:=if_neg h
theorem Sw {c:Prop} [Decidable c] (h:c):decide c=true:=decide_eq_true h
theorem Sv {c:Prop} [Decidable c] (h: ¬c):decide c=false:=decide_eq_false h
def fU (n:Nat):List PV:=[.raw (.int .u32 (n:Int))]
theorem Pw (n:Nat):(fU n).length=1:=rfl
def fI (z:Int):List PV:=[.raw (.int .i64 z)]
theorem BW (n:Int):(fI n).length=1:=rfl
def fN (z:Nat):List PV:=[.raw (.int .i64 (z:Int))]
theorem tj {d:Nat} {t:TV} (h:noRefTV t=true):selfTV d t/\renTV 0 t=t:=by
 have av: ∀x,dZ x=true->bG d x/\cb 0 x=x:=fun x hx=>by cases x<;>first|exact⟨trivial,rfl⟩|cases hx
 cases t with
 |one x=>exact⟨(av x h).1,by simp only[renTV,(av x h).2]⟩
 |agg cs=>
  simp only[noRefTV,aj]at h;exact⟨fun x hx=>(av x (h x hx)).1,by simp only[renTV];congr 1;exact(List.map_congr_left fun x hx=>(av x (h x hx)).2).trans (List.map_id _)⟩
 |fn f cs=>
  simp only[noRefTV,aj]at h;exact⟨fun x hx=>(av x (h x hx)).1,by simp only[renTV];congr 1;exact(List.map_congr_left fun x hx=>(av x (h x hx)).2).trans (List.map_id _)⟩
 |tup ts=>
  simp only[noRefTV,aj]at h;refine⟨fun t ht x hx=>(av x (h t ht x hx)).1,?_⟩;simp only[renTV]
  congr 1
  refine(List.map_congr_left fun t ht=>?_).trans (List.map_id _);show(t.1,t.2.map (cb 0))=t;rw[(List.map_congr_left fun x hx=>(av x (h t ht x hx)).2).trans (List.map_id t.2)]
theorem oI (l:List Int) (a:Int):lc fI l++[[AV.p (.raw (.int .i64 a))]]=lc fI (l++[a]):=by simp[lc,fI]
theorem j9 {P:Program} {fn:Func} {s:AS} {r:TV} {d:Nat} (hd:s.H d=[]) (h:qc P s fn.results.toList=some r) (hp:noRefTV r=true):qt P fn ⟨[],r⟩ s:=
 ⟨r,d,h,Gk (tj hp).1 hd,by rw[hd];rfl,(tj (d:=0) hp).2.symm⟩
theorem xM {P:Program} {fn:Func} {s:AS} {r:TV} (d:Nat) (hok:rc s.H d) (h:qc P ⟨s.tmps.map (eZ s.H d),aJ s.H d []⟩ fn.results.toList=some r) (hp:noRefTV r=true): ∃s',bW s s'/\qt P fn ⟨[],r⟩ s':=
 ⟨_,dF d hok,j9 (d:=d) (by simp[aJ]) h hp⟩
theorem aQ {P:Program} {fn:Func} {s:AS} {r:TV} (hd:s.H 1000=[]) (h:qc P s fn.results.toList=some r) (hp:noRefTV r=true): ∃s',bW s s'/\qt P fn ⟨[],r⟩ s':=
 ⟨_,bW.refl _,j9 hd h hp⟩
end
theorem Gz:fH Tryz.prog 131=some false:=by kernel_rfl
theorem GA:fH Tryz.prog 133=some true:=by kernel_rfl
theorem GC:fH Tryz.prog 143=some true:=by kernel_rfl
theorem GD:fH Tryz.prog 165=some false:=by kernel_rfl
theorem GE:fH Tryz.prog 180=some true:=by kernel_rfl
theorem GF:fH Tryz.prog 182=some false:=by kernel_rfl
theorem GG:fH Tryz.prog 188=some true:=by kernel_rfl
theorem GH:fH Tryz.prog 190=some false:=by kernel_rfl
theorem NC:fH Tryz.prog 2=some false:=by kernel_rfl
theorem KE:fH Tryz.prog 22=some false:=by kernel_rfl
theorem GI:fH Tryz.prog 224=some true:=by kernel_rfl
theorem KF:fH Tryz.prog 24=some true:=by kernel_rfl
theorem KG:fH Tryz.prog 26=some false:=by kernel_rfl
theorem KH:fH Tryz.prog 28=some false:=by kernel_rfl
theorem KI:fH Tryz.prog 29=some false:=by kernel_rfl
theorem ND:fH Tryz.prog 3=some false:=by kernel_rfl
theorem KJ:fH Tryz.prog 35=some false:=by kernel_rfl
theorem NE:fH Tryz.prog 4=some false:=by kernel_rfl
theorem KK:fH Tryz.prog 42=some false:=by kernel_rfl
theorem NF:fH Tryz.prog 5=some false:=by kernel_rfl
theorem KL:fH Tryz.prog 63=some false:=by kernel_rfl
theorem KM:fH Tryz.prog 65=some true:=by kernel_rfl
theorem KN:fH Tryz.prog 76=some false:=by kernel_rfl
theorem KO:fH Tryz.prog 79=some false:=by kernel_rfl
theorem KP:fH Tryz.prog 84=some false:=by kernel_rfl
theorem KQ:fH Tryz.prog 85=some false:=by kernel_rfl
theorem KR:vq Tryz.prog 4=true:=by kernel_rfl
theorem KS:E3 Tryz.prog 133=some 16:=by kernel_rfl
theorem KT:E3 Tryz.prog 165=some 4:=by kernel_rfl
theorem QH:E3 Tryz.prog 2=some 8:=by kernel_rfl
theorem QI:E3 Tryz.prog 3=some 8:=by kernel_rfl
theorem NG:E3 Tryz.prog 35=some 24:=by kernel_rfl
theorem NH:E3 Tryz.prog 42=some 24:=by kernel_rfl
theorem NI:E3 Tryz.prog 65=some 32:=by kernel_rfl
theorem NJ:E3 Tryz.prog 85=some 24:=by kernel_rfl
theorem AF:du Tryz.prog 133 0=some (0,2):=by kernel_rfl
theorem AG:du Tryz.prog 133 1=some (1,2):=by kernel_rfl
theorem AH:du Tryz.prog 143 0=some (0,65):=by kernel_rfl
theorem AI:du Tryz.prog 143 1=some (2,65):=by kernel_rfl
theorem AJ:du Tryz.prog 180 0=some (0,35):=by kernel_rfl
theorem AK:du Tryz.prog 180 1=some (1,26):=by kernel_rfl
theorem AL:du Tryz.prog 188 0=some (0,35):=by kernel_rfl
theorem AM:du Tryz.prog 188 1=some (1,26):=by kernel_rfl
theorem AN:du Tryz.prog 222 0=some (0,2):=by kernel_rfl
theorem AO:du Tryz.prog 222 1=some (1,35):=by kernel_rfl
theorem AP:du Tryz.prog 222 2=some (2,26):=by kernel_rfl
theorem AQ:du Tryz.prog 222 3=some (3,35):=by kernel_rfl
theorem AR:du Tryz.prog 224 0=some (0,84):=by kernel_rfl
theorem AT:du Tryz.prog 224 1=some (1,85):=by kernel_rfl
theorem CI:du Tryz.prog 24 0=some (0,5):=by kernel_rfl
theorem CJ:du Tryz.prog 24 1=some (1,5):=by kernel_rfl
theorem CK:du Tryz.prog 24 2=some (2,22):=by kernel_rfl
theorem CL:du Tryz.prog 65 0=some (0,4):=by kernel_rfl
theorem CM:du Tryz.prog 65 1=some (1,63):=by kernel_rfl
theorem GJ:uQ Tryz.prog 116=some .u64:=by kernel_rfl
theorem GK:uQ Tryz.prog 165=some .u32:=by kernel_rfl
theorem NK:uQ Tryz.prog 2=some .i64:=by kernel_rfl
theorem NL:uQ Tryz.prog 3=some .i64:=by kernel_rfl
theorem NM:uQ Tryz.prog 5=some .u8:=by kernel_rfl
theorem GL:gR Tryz.prog 104=some [(0,1),(1,1)]:=by kernel_rfl
theorem GM:gR Tryz.prog 133=some [(0,1),(1,1)]:=by kernel_rfl
theorem GN:gR Tryz.prog 143=some [(0,2),(2,2)]:=by kernel_rfl
theorem GO:gR Tryz.prog 180=some [(0,1),(1,1)]:=by kernel_rfl
theorem GP:gR Tryz.prog 188=some [(0,1),(1,1)]:=by kernel_rfl
theorem GQ:gR Tryz.prog 222=some [(0,1),(1,1),(2,1),(3,1)]:=by kernel_rfl
theorem GR:gR Tryz.prog 224=some [(0,1),(1,1)]:=by kernel_rfl
theorem KU:gR Tryz.prog 65=some [(0,1),(1,1)]:=by kernel_rfl
theorem CN:db Tryz.prog 26=some 35:=by kernel_rfl
theorem CO:db Tryz.prog 28=some 3:=by kernel_rfl
theorem CP:db Tryz.prog 35=some 2:=by kernel_rfl
theorem CQ:db Tryz.prog 42=some 85:=by kernel_rfl
theorem CR:db Tryz.prog 63=some 165:=by kernel_rfl
theorem CS:db Tryz.prog 76=some 133:=by kernel_rfl
theorem CT:db Tryz.prog 84=some 42:=by kernel_rfl
theorem CU:db Tryz.prog 85=some 65:=by kernel_rfl
theorem KV:gh Tryz.prog 131=some 1:=by kernel_rfl
theorem KW:gh Tryz.prog 133=some 2:=by kernel_rfl
theorem KX:gh Tryz.prog 143=some 4:=by kernel_rfl
theorem KY:gh Tryz.prog 165=some 1:=by kernel_rfl
theorem KZ:gh Tryz.prog 180=some 2:=by kernel_rfl
theorem K0:gh Tryz.prog 182=some 1:=by kernel_rfl
theorem K1:gh Tryz.prog 188=some 2:=by kernel_rfl
theorem K2:gh Tryz.prog 190=some 1:=by kernel_rfl
theorem QJ:gh Tryz.prog 2=some 1:=by kernel_rfl
theorem NN:gh Tryz.prog 22=some 1:=by kernel_rfl
theorem K3:gh Tryz.prog 224=some 2:=by kernel_rfl
theorem NO:gh Tryz.prog 24=some 4:=by kernel_rfl
theorem NP:gh Tryz.prog 26=some 1:=by kernel_rfl
theorem NQ:gh Tryz.prog 28=some 1:=by kernel_rfl
theorem NR:gh Tryz.prog 29=some 1:=by kernel_rfl
theorem QK:gh Tryz.prog 3=some 1:=by kernel_rfl
theorem NS:gh Tryz.prog 35=some 1:=by kernel_rfl
theorem QL:gh Tryz.prog 4=some 1:=by kernel_rfl
theorem NT:gh Tryz.prog 42=some 1:=by kernel_rfl
theorem QM:gh Tryz.prog 5=some 1:=by kernel_rfl
theorem NU:gh Tryz.prog 63=some 1:=by kernel_rfl
theorem NV:gh Tryz.prog 65=some 2:=by kernel_rfl
theorem NW:gh Tryz.prog 76=some 1:=by kernel_rfl
theorem NX:gh Tryz.prog 79=some 1:=by kernel_rfl
theorem NY:gh Tryz.prog 84=some 1:=by kernel_rfl
theorem NZ:gh Tryz.prog 85=some 1:=by kernel_rfl
theorem CV:dp Tryz.prog 104=some [(.slice none 0 0),(.int .i64 0)]:=by kernel_rfl
theorem CW:dp Tryz.prog 131=some [.nilFunc]:=by kernel_rfl
theorem CX:dp Tryz.prog 133=some [(.int .i64 0),(.int .i64 0)]:=by kernel_rfl
theorem CY:dp Tryz.prog 143=some [(.bool false),(.slice none 0 0),(.bool false),(.slice none 0 0)]:=by kernel_rfl
theorem CZ:dp Tryz.prog 165=some [(.int .u32 0)]:=by kernel_rfl
theorem C0:dp Tryz.prog 180=some [(.slice none 0 0),(.slice none 0 0)]:=by kernel_rfl
theorem C1:dp Tryz.prog 182=some [.nilFunc]:=by kernel_rfl
theorem C2:dp Tryz.prog 188=some [(.slice none 0 0),(.slice none 0 0)]:=by kernel_rfl
theorem C3:dp Tryz.prog 190=some [.nilFunc]:=by kernel_rfl
theorem K4:dp Tryz.prog 2=some [(.int .i64 0)]:=by kernel_rfl
theorem C4:dp Tryz.prog 222=some [(.int .i64 0),(.slice none 0 0),(.slice none 0 0),(.slice none 0 0)]:=by kernel_rfl
theorem C5:dp Tryz.prog 224=some [(.slice none 0 0),(.slice none 0 0)]:=by kernel_rfl
theorem GS:dp Tryz.prog 26=some [(.slice none 0 0)]:=by kernel_rfl
theorem GU:dp Tryz.prog 28=some [(.slice none 0 0)]:=by kernel_rfl
theorem GV:dp Tryz.prog 29=some [(.int .i64 0)]:=by kernel_rfl
theorem K5:dp Tryz.prog 3=some [(.int .i64 0)]:=by kernel_rfl
theorem GW:dp Tryz.prog 35=some [(.slice none 0 0)]:=by kernel_rfl
theorem K6:dp Tryz.prog 4=some [(.bool false)]:=by kernel_rfl
theorem GX:dp Tryz.prog 42=some [(.slice none 0 0)]:=by kernel_rfl
theorem GY:dp Tryz.prog 65=some [(.bool false),(.slice none 0 0)]:=by kernel_rfl
theorem GZ:dp Tryz.prog 76=some [(.slice none 0 0)]:=by kernel_rfl
theorem G0:dp Tryz.prog 79=some [(.map none)]:=by kernel_rfl
theorem G3:dp Tryz.prog 85=some [(.slice none 0 0)]:=by kernel_rfl
theorem bU:Tryz.prog.follows .mixedOrders=true:=by kernel_rfl
def natV:List Nat->Nat
 |[]=>0
 |a::l=>a+4294967296*natV l
def Lmb (l:List Nat):Prop:= ∀a∈l,a<4294967296
def nN (l:List Nat):Prop:=l.getLast?≠some 0
def eB:List Nat->List Nat
 |[]=>[]
 |a::l=>match eB l with
  |[]=>if a=0 then[]else[a]
  |b::m=>a::b::m
theorem ik (x y:List Nat):natV (x++y)=natV x+4294967296^x.length*natV y:=by
 induction x with
 |nil=>simp[natV]
 |cons a l ih=>simp[natV,ih,Nat.pow_succ,Nat.mul_add,Nat.mul_assoc,Nat.add_assoc,Nat.mul_comm]
theorem f8 {l:List Nat} (h:Lmb l):natV l<4294967296^l.length:=by
 induction l with
 |nil=>simp[natV]
 |cons a l ih=>
  have ha:=h a List.mem_cons_self;have:=ih (fun b hb=>h b (List.mem_cons_of_mem _ hb));rw[List.length_cons,Nat.pow_succ,natV];have h2:4294967296*(natV l+1)<=4294967296*4294967296^l.length:=Nat.mul_le_mul_left _ this;rw[Nat.mul_comm (4294967296^l.length)];omega
theorem FO (l:List Nat):natV (eB l)=natV l:=by
 induction l with
 |nil=>rfl
 |cons a l ih=>
  unfold eB;split
  ·rename_i h;rw[h]at ih;simp[natV]at ih;split
   ·rename_i h0;simp[natV,<- ih,h0]
   simp[natV,<- ih]
  rename_i b m h;rw[h]at ih;simp[natV,<- ih]
theorem KC (l:List Nat):nN (eB l):=by
 induction l with
 |nil=>simp[nN,eB]
 |cons a l ih=>
  unfold eB;split
  ·split
   ·simp[nN]
   rename_i h0;simp[nN,h0]
  rename_i b m h;rw[h]at ih;unfold nN at*
  rw[List.getLast?_cons_cons];exact ih
theorem oo {a:Nat} {l:List Nat} (h:nN (a::l)):nN l:=by
 cases l with
 |nil=>simp[nN]
 |cons b m=>unfold nN at*;rw[List.getLast?_cons_cons]at h;exact h
theorem qX {l:List Nat} (h:nN l):eB l=l:=by
 induction l with
 |nil=>rfl
 |cons a l ih=>
  have e:=ih (oo h);unfold eB;rw[e];cases l with
  |nil=>simp[nN]at h;simp[h]
  |cons b m=>rfl
theorem uz (l:List Nat):eB (l++[0])=eB l:=by
 induction l with
 |nil=>simp[eB]
 |cons a l ih=>rw[List.cons_append,eB,ih];rfl
theorem Gx {l:List Nat} {a:Nat} (h:a≠0):eB (l++[a])=l++[a]:=qX (by simp[nN,h])
theorem KD {l:List Nat} (h:Lmb l):Lmb (eB l):=by
 induction l with
 |nil=>exact h
 |cons a l ih=>
  have ih:=ih (fun b hb=>h b (List.mem_cons_of_mem _ hb));unfold eB;split
  ·split
   ·intro b hb;simp at hb
   intro b hb;simp at hb;subst hb;exact h _ List.mem_cons_self
  rename_i b m hh;rw[hh]at ih;intro c hc;rcases List.mem_cons.1 hc with rfl|hc
  ·exact h _ List.mem_cons_self
  exact ih c hc
theorem sa {l:List Nat} (h:nN l) (hne:l≠[]):4294967296^(l.length-1)<=natV l:=by
 induction l with
 |nil=>exact absurd rfl hne
 |cons a l ih=>
  cases l with
  |nil=>simp[nN]at h;simp[natV];omega
  |cons b m=>
   have:=ih (oo h) (by simp);simp only[List.length_cons,Nat.add_sub_cancel]at this⊢;rw[natV,Nat.pow_succ,Nat.mul_comm (4294967296^m.length)];have h2:=Nat.mul_le_mul_left 4294967296 this;omega
theorem Bw {l:List Nat} {k:Nat} (h:nN l) (hv:natV l<4294967296^k):l.length<=k:=by
 by_cases hne:l=[]
 ·subst hne;simp
 have:=sa h hne;have h2:4294967296^(l.length-1)<4294967296^k:=Nat.lt_of_le_of_lt this hv;have:=(Nat.pow_lt_pow_iff_right (by omega:1<4294967296)).1 h2;omega
theorem LT {l m:List Nat} (hl:Lmb l) (hm:Lmb m) (cl:nN l) (cm:nN m) (h:natV l=natV m):l=m:=by
 induction l generalizing m with
 |nil=>
  cases m with
  |nil=>rfl
  |cons b m=>
   have:=sa cm (by simp);have:0<4294967296^((b::m).length-1):=Nat.pow_pos (by omega);rw[<- h]at*
   simp[natV]at*
 |cons a l ih=>
  cases m with
  |nil=>
   have:=sa cl (by simp);have:0<4294967296^((a::l).length-1):=Nat.pow_pos (by omega);rw[h]at*
   simp[natV]at*
  |cons b m=>
   have ha:=hl a List.mem_cons_self;have hb:=hm b List.mem_cons_self;simp only[natV]at h;have e1:a=b:=by omega
   have e2:natV l=natV m:=by omega
   rw[e1,ih (fun c hc=>hl c (List.mem_cons_of_mem _ hc)) (fun c hc=>hm c (List.mem_cons_of_mem _ hc)) (oo cl) (oo cm) e2]
def Lz (w:World) (A:Option Addr) (l:List Nat):Prop:=RdI .u32 w A (l.map fun n:Nat=>(n:Int))
theorem Lz.ext {w w':World} {A:Option Addr} {l:List Nat} (h:Lz w A l) (e:Ext w w'):Lz w' A l:=RdI.ext h e
theorem Lz.nil (w:World) (A:Option Addr):Lz w A []:=RdI.nil _ _ _
theorem Lz.at_ {w:World} {A:Option Addr} {l:List Nat} (h:Lz w A l) {i z:Nat} (hi:l[i]?=some z):
  ∃b off,A=some ⟨b,off,none⟩/\w.cell? ⟨b,off+i,none⟩=some (.int .u32 (z:Int)):=RdI.at_ h (by simp[hi])
def iq (neg:Bool) (n:Nat):Int:=if neg then -(n:Int)else n
def yo (w:World) (v:Value) (z:Int) (k:Nat):Prop:=
 ∃neg A c l,v= .agg #[.bool neg,.slice A l.length c]/\l.length<=c/\Lz w A l/\Lmb l/\nN l/\z=iq neg (natV l)/\l.length<=k/\(l=[]->neg=false)
theorem yo.ext {w w':World} {v:Value} {z:Int} {k:Nat} (h:yo w v z k) (e:Ext w w'):yo w' v z k:=by
 obtain⟨neg,A,c,l,h1,h2,h3,h4⟩:=h;exact⟨neg,A,c,l,h1,h2,h3.ext e,h4⟩
theorem yo.mono {w:World} {v:Value} {z:Int} {k k':Nat} (h:yo w v z k) (e:k<=k'):yo w v z k':=by
 obtain⟨neg,A,c,l,h1,h2,h3,h4,h5,h6,h7,h8⟩:=h;exact⟨neg,A,c,l,h1,h2,h3,h4,h5,h6,by omega,h8⟩
theorem yo.zero (w:World) (k:Nat):yo w (.agg #[.bool false,.slice none 0 0]) 0 k:=
 ⟨false,none,0,[],rfl,by simp,Lz.nil _ _,by intro a h;simp at h,by simp[nN],rfl,by simp,fun _=>rfl⟩
theorem Fw (a:Int) (w:World):
  Calls Tryz.prog 224 #[.int .i64 a] w fun e w'=>e= .returned (.bool false)/\w=w':=by
 go_enter Tryz.func224,Tryz.ntmps224
 go_wp2
 go_ret
 exact⟨by simp,rfl⟩
def ng (a b:Int):Int:=if a<b then -1 else if b<a then 1 else 0
theorem lH (a b:Int) (w:World):
  Calls Tryz.prog 192 #[.int .i64 a,.int .i64 b] w fun e w'=>e= .returned (.int .i64 (ng a b))/\w=w':=by
 go_enter Tryz.func192,Tryz.ntmps192
 go_wp2_with (go_at_call 224;refine(Fw _ _).mono ?_;rintro e w' ⟨rfl,rfl⟩)
 all_goals
  go_ret
  exact⟨fq (by unfold ng;(repeat' split)<;>omega),rfl⟩
def cB:List Int->List Int->Int
 |[],[]=>0
 |[],_::_=> -1
 |_::_,[]=>1
 |a::x,b::y=>if a<b then -1 else if b<a then 1 else cB x y
theorem vt {x y:List Int} {k:Nat} {a b:Int} (ha:x[k]?=some a) (hb:y[k]?=some b):
  cB (x.drop k) (y.drop k)=if a<b then -1 else if b<a then 1 else cB (x.drop (k+1)) (y.drop (k+1)):=by
 obtain⟨h1,rfl⟩:=List.getElem?_eq_some_iff.1 ha;obtain⟨h2,rfl⟩:=List.getElem?_eq_some_iff.1 hb;rw[List.drop_eq_getElem_cons h1,List.drop_eq_getElem_cons h2];rfl
theorem vu {x y:List Int} {k:Nat} (h1:k>=x.length) (h2:k<y.length):cB (x.drop k) (y.drop k)= -1:=by
 rw[List.drop_of_length_le h1,List.drop_eq_getElem_cons h2];rfl
theorem si {x y:List Int} {k:Nat} (h1:k<x.length) (h2:k>=y.length):cB (x.drop k) (y.drop k)=1:=by
 rw[List.drop_of_length_le h2,List.drop_eq_getElem_cons h1];rfl
theorem vr {x y:List Int} {k:Nat} (h1:k>=x.length) (h2:k>=y.length):cB (x.drop k) (y.drop k)=0:=by
 rw[List.drop_of_length_le h1,List.drop_of_length_le h2];rfl
theorem LV {a b:Int} {r:Int} (h:(ng a b !=0)=true):ng a b=if a<b then -1 else if b<a then 1 else r:=by
 unfold ng at*;(repeat' split)<;>simp_all
theorem LU {a b:Int} {r:Int} (h:(ng a b !=0)=false):(if a<b then -1 else if b<a then 1 else r)=r:=by
 unfold ng at*;(repeat' split)<;>simp_all
theorem RN {a b:Int} {r:Int} (h:(a !=b)=true) (h':a<b): -1=if a<b then -1 else if b<a then 1 else r:=by simp[h']
theorem RM {a b:Int} {r:Int} (h:(a !=b)=true) (h': ¬a<b):1=if a<b then -1 else if b<a then 1 else r:=by
 have:a≠b:=by simpa using h
 rw[if_neg h',if_pos (by omega)]
theorem Md {a b:Int} {r:Int} (h:(a !=b)=false):(if a<b then -1 else if b<a then 1 else r)=r:=by
 have:a=b:=by simpa using h
 rw[if_neg (by omega),if_neg (by omega)]
theorem pk (A B:Option Addr) (c d:Nat) (x y:List Int) (w:World) (hx:RdI .i64 w A x) (hy:RdI .i64 w B y) (lx:x.length<=9223372036854775807) (ly:y.length<=9223372036854775807):
  Calls Tryz.prog 225 #[.slice A x.length c,.slice B y.length d] w fun e w'=>e= .returned (.int .i64 (cB x y))/\w=w':=by
 have HX:=Lib.hid hx;have HY:=Lib.hid hy;clear hx hy
 go_enter Tryz.func225,Tryz.ntmps225
 go_wp2_with fail
 go_loop [11,5,6,7,8] (fun i _ _ _ _=> ∃k:Nat,k<=x.length/\i= .int .i64 k/\Hid (cB (x.drop k) (y.drop k)=cB x y)) (fun i _ _ _ _=>x.length-(intOf i).toNat)
 case atStart=>exact⟨0,Nat.zero_le _,rfl,Lib.hid rfl⟩
 case round=>
  obtain⟨k,hk,rfl,HR⟩:=hrel;by_cases hlt:k<x.length
  ·obtain⟨a,ha⟩:=getElem?_of_lt hlt;obtain⟨b,off,rfl,hc⟩:=HX.out.at_ ha;have HA:=Lib.hid ha;clear ha;by_cases hly:k<y.length
   ·obtain⟨a',ha'⟩:=getElem?_of_lt hly;obtain⟨b',off',rfl,hc'⟩:=HY.out.at_ ha';have HA':=Lib.hid ha';clear ha';have hD:=Lib.hid (vt HA.out HA'.out)
    go_wp2_with (go_at_call 192;refine(lH _ _ _).mono ?_;rintro e w' ⟨rfl,rfl⟩)
    ·go_ret
     have hne:(ng a a' !=0)=true:=by assumption
     exact⟨fq (by rw[<- HR.out,hD.out];exact LV hne),rfl⟩
    go_round
    case rel=>
     have he:(ng a a' !=0)=false:=by assumption
     exact⟨k+1,by omega,by go_num,Lib.hid (by rw[<- HR.out,hD.out];exact(LU he).symm)⟩
    case measure=>simp[intOf];omega
   go_wp2_with fail
   go_ret
   exact⟨fq (by rw[<- HR.out,si hlt (by omega)]),rfl⟩
  have hk':k=x.length:=by omega
  subst hk'
  go_wp2_with fail
  all_goals
   go_ret
   exact⟨fq (by rw[<- HR.out];first|rw[vu (by omega) (by omega)]|rw[vr (by omega) (by omega)]),rfl⟩
theorem l7 (A B:Option Addr) (c d:Nat) (x y:List Int) (w:World) (hx:RdI .i64 w A x) (hy:RdI .i64 w B y) (lx:x.length<=9223372036854775807) (ly:y.length<=9223372036854775807):
  Calls Tryz.prog 21 #[.slice A x.length c,.slice B y.length d] w fun e w'=>e= .returned (.int .i64 (cB x y))/\ ∃n,w'=w.drewN n:=by
 have HX:=Lib.hid hx;have HY:=Lib.hid hy;clear hx hy
 go_enter Tryz.func21,Tryz.ntmps21
 go_wp2_with fail
 go_loopw [5] (fun i wr=> ∃k n:Nat,k<=x.length/\k<=y.length/\i= .int .i64 k/\wr=w.drewN n/\Hid (cB (x.drop k) (y.drop k)=cB x y)) (fun i _=>x.length-(intOf i).toNat)
 case atStart=>exact⟨0,0,Nat.zero_le _,Nat.zero_le _,rfl,rfl,Lib.hid rfl⟩
 case round=>
  obtain⟨k,n,hk,hky,rfl,rfl,HR⟩:=hrel;by_cases hlt:k<x.length
  ·obtain⟨a,ha⟩:=getElem?_of_lt hlt;obtain⟨b,off,rfl,hc⟩:=HX.out.at_ ha;have HA:=Lib.hid ha;clear ha;by_cases hly:k<y.length
   ·obtain⟨a',ha'⟩:=getElem?_of_lt hly;obtain⟨b',off',rfl,hc'⟩:=HY.out.at_ ha';have HA':=Lib.hid ha';clear ha';have hD:=Lib.hid (vt HA.out HA'.out)
    go_wp2_with fail
    go_quiet (fail)
    go_wp2_with fail
    ·go_quiet (fail)
     have hne:(a !=a')=true:=by assumption
     go_wp2_with fail
     all_goals
      go_ret
      exact⟨fq (by rw[<- HR.out,hD.out];first|exact RN hne (by omega)|exact RM hne (by omega)),_,by rw[World.drewN_drewN,World.drewN_drewN]⟩
    have he:(a !=a')=false:=by assumption
    go_roundw
    case rel=>exact⟨k+1,_,by omega,by omega,by go_num,rfl,Lib.hid (by rw[<- HR.out,hD.out];exact(Md he).symm)⟩
    case measure=>simp[intOf];omega
   go_wp2_with fail
   all_goals
    go_ret
    exact⟨fq (by rw[<- HR.out,si hlt (by omega)]),_,rfl⟩
  by_cases hly:k<y.length
  ·go_wp2_with fail
   all_goals
    go_ret
    exact⟨fq (by rw[<- HR.out,vu (by omega) (by omega)]),_,rfl⟩
  go_wp2_with fail
  all_goals
   go_ret
   exact⟨fq (by rw[<- HR.out,vr (by omega) (by omega)]),_,rfl⟩
theorem uB (A B:Option Addr) (c d:Nat) (x y:List Int) (w:World) (hx:RdI .i64 w A x) (hy:RdI .i64 w B y) (lx:x.length<=9223372036854775807) (ly:y.length<=9223372036854775807):
  Calls Tryz.prog 193 #[.slice A x.length c,.slice B y.length d] w fun e w'=>e= .returned (.int .i64 (cB x y))/\w=w':=by
 go_enter Tryz.func193,Tryz.ntmps193
 go_wp2_with (go_at_call 225;refine(pk A B c d x y _ hx hy lx ly).mono ?_;rintro e w' ⟨rfl,rfl⟩)
 go_ret
 exact⟨rfl,rfl⟩
end Go.Proofs.YtalmoejhjceflaaGreat
