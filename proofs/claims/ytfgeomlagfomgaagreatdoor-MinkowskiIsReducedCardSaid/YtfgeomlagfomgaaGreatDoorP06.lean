/-
  Part 7 of a proof (walks and plain facts).
-/
import Derived.Test.YtfgeomlagfomgaaGreatDoorP05
set_option linter.all false
set_option maxRecDepth 100000
set_option maxHeartbeats 64000000
open Option renaming map_some → am
open Option renaming bind_some → ao
open List renaming all_eq_true → aq
open List renaming mem_map → au
open List renaming mem_of_getElem? → aE
open List renaming getElem?_map → aH
namespace Go.Proofs.YtfgeomlagfomgaaGreatDoor
open Go.RowKit
section
inductive GF where
 |val (t:TV)
 |new (t:TV) (o:OObj) (l:List OObj)
 |wr (q:yH)
section
variable (P:Program) (items:List (fh P)) (ow:List Nat)
noncomputable def C0 (r:Option (TV×List OObj)):Option GF:=match r with
 |some (t,[])=>some (.val t)
 |some (t,o::l)=>some (.new t o l)
 |none=>none
noncomputable def lA (i:Nat) (d:Option Tmp) (op:Op) (ev:Operand->Option TV) (H:OH):Option GF:=
 if vJ op then(aU P ev op).map .val
 else if Hu op then(aZ P ev H op).map .val
 else match cU P ev H op with
  |some q=>some (.wr q)
  |none=>match d with
   |none=>none
   |some d=>C0 (bI P items ow i d ev H op)
def d9 (d:Option Tmp) (s:AS):GF->Option AS
 | .val t=>some (s.put d t)
 | .new t o l=>match d with
  |some d=>(match s.H d with|[]=>some (AS.put ⟨s.tmps,bD s.H d (o::l)⟩ (some d) t)|_=>none)
  |none=>none
 | .wr q=>some (AS.put ⟨s.tmps.map (bz q.k),q.H⟩ d q.t)
theorem tP (i:Nat) (o:Oper) (s:AS):gH P items ow i o s=(lA P items ow i o.dst o.op s.ev s.H).bind (d9 o.dst s):=by
 unfold gH lA
 split
 ·cases aU P s.ev o.op<;>rfl
 split
 ·cases aZ P s.ev s.H o.op<;>rfl
 cases cU P s.ev s.H o.op with
 |some q=>rfl
 |none=>
  cases hd:o.dst with
  |none=>rfl
  |some d=>
   simp only
   cases hA:bI P items ow i d s.ev s.H o.op with
   |none=>rfl
   |some tF=>
    obtain⟨t,F⟩:=tF
    cases F with
    |nil=>rfl
    |cons o' l=>simp only[C0,ao,d9];cases s.H d<;>rfl
def gate (ops:Array Oper) (o:Oper) (s:AS):Option Bool:=match o.guard with
 |none=>some true
 |some (g,want)=>match(ops[g]?).bind (·.dst)with
  |none=>none
  |some d=>match s.tmps[d]? with
   |some (.one (.p (.raw (.bool b))))=>some (b==want)
   |some (.tup [])=>some false
   |_=>none
noncomputable def eY (ops:Array Oper) (i:Nat) (o:Oper) (s:AS):Option GF:=match gate ops o s with
 |some true=>lA P items ow i o.dst o.op s.ev s.H
 |some false=>some (.val .undef)
 |none=>none
theorem dH (ops:Array Oper) (i:Nat) (o:Oper) (s:AS):dR P items ow ops i o s=(eY P items ow ops i o s).bind (d9 o.dst s):=by
 unfold dR eY gate
 cases hg:o.guard with
 |none=>simp only;exact tP P items ow i o s
 |some gw=>
  obtain⟨g,want⟩:=gw
  simp only
  cases(ops[g]?).bind (·.dst)with
  |none=>rfl
  |some d=>
   simp only
   cases hs:s.tmps[d]? with
   |none=>rfl
   |some t=>
    cases t with
    |agg cs=>rfl
    |fn f cs=>rfl
    |tup ts=>cases ts<;>rfl
    |one x=>
     cases x with
     |sl a r off len=>rfl
     |ptr a r i j=>rfl
     |junk=>rfl
     |p x=>
      cases x with
      |sl xs=>rfl
      |ptr cs=>rfl
      |raw v=>
       cases v<;>try rfl
       rename_i b
       simp only
       by_cases hbw:b=want
       ·subst hbw;simp only[if_true,beq_self_eq_true];exact tP P items ow i o s
       rw[if_neg hbw]
       have:(b==want)=false:=by simpa using hbw
       rw[this];rfl
variable {P} {items} {ow}
variable {ops:Array Oper} {s s1 s2 s':AS} {H H':OH}
theorem pe (s:AS) (d:Option Tmp) (t:TV) (k:Nat) (h: ∀e,d=some e->e≠k):(s.put d t).tmps[k]?=s.tmps[k]?:=by
 cases d with
 |none=>rfl
 |some e=>simp only[AS.put];exact List.getElem?_set_ne (h e rfl)
theorem Kk (s:AS) (d:Option Tmp) (t:TV) {x:Operand} (h: ∀e,d=some e->x≠ .tmp e):(s.put d t).ev x=s.ev x:=by
 cases x with
 |tmp k=>exact pe s d t k (fun e he hk=>h e he (by rw[hk]))
 |const v=>rfl
 |global g=>rfl
 |func f=>rfl
theorem im (s:AS) {d e:Option Tmp} (t u:TV) (h: ∀k,d=some k->e≠some k):(s.put d t).put e u=(s.put e u).put d t:=by
 cases d with
 |none=>rfl
 |some d=>
  cases e with
  |none=>rfl
  |some e=>
   have:d≠e:=fun hde=>h d rfl (by rw[hde])
   simp only[AS.put]
   rw[List.set_comm _ _ this]
def kF (ops:Array Oper) (o:Oper) (d:Option Tmp):Prop:= ∀e,d=some e->e∉o.looksAt ops
theorem kF.op {o:Oper} {d:Option Tmp} (h:kF ops o d): ∀x∈o.op.operands,∀e,d=some e->x≠ .tmp e:=fun x hx e he hxe=>by
 subst hxe
 exact h e he (List.mem_append_left _ (List.mem_filterMap.2 ⟨.tmp e,by simpa using hx,rfl⟩))
theorem kF.gate {o:Oper} {d:Option Tmp} (h:kF ops o d) {g:Nat} {w:Bool} (hg:o.guard=some (g,w)) {k:Tmp} (hk:(ops[g]?).bind (·.dst)=some k): ∀e,d=some e->e≠k:=fun e he hek=>by
 subst hek
 refine h e he (List.mem_append_right _ ?_)
 simp only[hg,hk]
 simp
theorem Et {o:Oper} {d:Option Tmp} (h:kF ops o d) (t:TV):gate ops o (s.put d t)=gate ops o s:=by
 unfold gate
 cases hg:o.guard with
 |none=>rfl
 |some gw=>
  obtain⟨g,want⟩:=gw
  simp only
  cases hk:(ops[g]?).bind (·.dst)with
  |none=>rfl
  |some k=>simp only;rw[pe s d t k (h.gate hg hk)]
theorem Hy (k:Nat->Nat->Bool) (H':OH) (x:Operand):AS.ev ⟨s.tmps.map (bz k),H'⟩ x=(s.ev x).map (bz k):=by
 cases x with
 |tmp t=>simp only[AS.ev,aH]
 |const v=>
  simp only[AS.ev,am]
  congr 1
  unfold aN
  split
  ·split
   ·simp only[bz];congr 1;rw[List.map_map];rfl
   rfl
  split<;>rfl
 |global g=>rfl
 |func f=>rfl
theorem Cy {o:Oper} (k:Nat->Nat->Bool) (H':OH):gate ops o ⟨s.tmps.map (bz k),H'⟩=gate ops o s:=by
 unfold gate
 cases hg:o.guard with
 |none=>rfl
 |some gw=>
  obtain⟨g,want⟩:=gw
  simp only
  cases hk:(ops[g]?).bind (·.dst)with
  |none=>rfl
  |some e=>
   simp only[aH]
   cases s.tmps[e]? with
   |none=>rfl
   |some t=>
    cases t with
    |one x=>
     cases x with
     |p x=>rfl
     |sl a r off len=>simp only[am,bz,bx];cases k a r<;>rfl
     |ptr a r i j=>simp only[am,bz,bx];cases k a r<;>rfl
     |junk=>rfl
    |agg cs=>rfl
    |fn f cs=>rfl
    |tup ts=>cases ts<;>rfl
theorem zf {ev ev':Operand->Option TV} {op:Op} (h: ∀x∈op.operands,ev x=ev' x):cU P ev H op=cU P ev' H op:=by
 cases op<;>simp only[Op.operands]at h<;>try (simp only[cU];done)
 case store t x y=>simp only[cU,<- h x (by simp),<- h y (by simp)]
 case call c=>
  obtain⟨callee,⟨args⟩,⟨argTypes⟩⟩:=c
  simp only[Call.operands]at h
  simp only[cU]
  split
  ·rename_i x y t t'
   rw[<- h x (by simp),<- h y (by simp)]
  rfl
theorem qx {i:Nat} {d:Option Tmp} {ev ev':Operand->Option TV} {op:Op} (h: ∀x∈op.operands,ev x=ev' x) (hs: ∀x∈op.operands,∀t,ev x=some t->kS H H' t) (hD:H'=H\/ ∀e G,cU P e G op=none):
  lA P items ow i d op ev H=lA P items ow i d op ev' H':=by
 unfold lA
 rw[rH h,rI h hs]
 have hd:cU P ev H op=cU P ev' H' op:=by
  rcases hD with rfl|hD
  ·exact zf h
  rw[hD,hD]
 rw[hd]
 have ha: ∀d,bI P items ow i d ev H op=bI P items ow i d ev' H' op:=fun d=>zc h hs
 simp only[ha]
theorem eD {i:Nat} {o:Oper} {d:Option Tmp} (h:kF ops o d) (t:TV):eY P items ow ops i o (s.put d t)=eY P items ow ops i o s:=by
 unfold eY
 rw[Et h,jY]
 split
 ·exact(qx (fun x hx=>(Kk s d t (h.op x hx)).symm) (fun x _ t _=>yb t) (.inl rfl)).symm
 ·rfl
 rfl
theorem pw {i:Nat} {o:Oper} (hl:oB s) (hg:wC s.H H') (hD: ∀e G,cU P e G o.op=none):eY P items ow ops i o ⟨s.tmps,H'⟩=eY P items ow ops i o s:=by
 unfold eY
 rw[show gate ops o ⟨s.tmps,H'⟩=gate ops o s from rfl]
 split
 ·refine(qx (fun x _=>?_) (fun x _ t ht=>ya (gA hl ht) hg) (.inr hD)).symm
  cases x<;>rfl
 ·rfl
 rfl
theorem uO {i:Nat} {o:Oper} (hM:vJ o.op=true) {out:GF} (h:eY P items ow ops i o s=some out): ∃t,out= .val t:=by
 unfold eY lA at h
 split at h
 ·rw[if_pos hM]at h
  obtain⟨t,_,rfl⟩:=Option.map_eq_some_iff.1 h
  exact⟨t,rfl⟩
 ·injection h with h;exact⟨_,h.symm⟩
 cases h
theorem sZ {i:Nat} {o:Oper} (hM:vJ o.op=true) (tm:List TV) (H H':OH):eY P items ow ops i o ⟨tm,H⟩=eY P items ow ops i o ⟨tm,H'⟩:=by
 unfold eY lA
 rw[show gate ops o ⟨tm,H⟩=gate ops o ⟨tm,H'⟩from rfl]
 simp only[hM,if_true]
 rfl
theorem px {i:Nat} {o:Oper} (hM:vJ o.op=true) (k:Nat->Nat->Bool) (H':OH) {t':TV}:eY P items ow ops i o ⟨s.tmps.map (bz k),H'⟩=some (.val t')↔ ∃t,eY P items ow ops i o s=some (.val t)/\t'=bz k t:=by
 unfold eY lA
 rw[Cy]
 cases gate ops o s with
 |none=>simp
 |some b=>
  cases b with
  |false=>
   simp only[Option.some.injEq,GF.val.injEq]
   constructor
   ·rintro rfl;exact⟨_,rfl,rfl⟩
   rintro⟨t,rfl,rfl⟩;rfl
  |true=>
   simp only[hM,if_true]
   have e:aU P (AS.ev ⟨s.tmps.map (bz k),H'⟩) o.op=(aU P s.ev o.op).map (bz k):=by
    rw[<- Cs]
    exact rH (fun x _=>Hy k H' x)
   rw[e]
   cases aU P s.ev o.op with
   |none=>simp
   |some t=>
    simp only[am,Option.some.injEq,GF.val.injEq]
    constructor
    ·rintro rfl;exact⟨t,rfl,rfl⟩
    rintro⟨t,rfl,rfl⟩;rfl
theorem Fp (tm:List TV) (H:OH) (d:Option Tmp) (t:TV):AS.put ⟨tm,H⟩ d t=⟨(AS.put ⟨tm,H⟩ d t).tmps,H⟩:=by cases d<;>rfl
theorem Be (s:AS) (k:Nat->Nat->Bool) (H':OH) (d:Option Tmp) (t:TV):(⟨(s.put d t).tmps.map (bz k),H'⟩:AS)=AS.put ⟨s.tmps.map (bz k),H'⟩ d (bz k t):=by
 cases d with
 |none=>rfl
 |some d=>simp only[AS.put,List.map_set]
def K1 (P:Program) (oi oj:Oper):Prop:=vJ oi.op=true\/vJ oj.op=true\/((∀e G,cU P e G oi.op=none)/\ ∀e G,cU P e G oj.op=none)
theorem oH {d:Option Tmp} {out:GF} (hw: ∀q,out≠ .wr q) (h:d9 d s out=some s1): ∃t H1,s1=AS.put ⟨s.tmps,H1⟩ d t/\wC s.H H1/\((H1=s.H/\out= .val t)\/ ∃e o l,d=some e/\s.H e=[]/\H1=bD s.H e (o::l)/\out= .new t o l):=by
 cases out with
 |val t=>simp only[d9]at h;injection h with h;exact⟨t,s.H,h.symm,fun _ _=>rfl,.inl ⟨rfl,rfl⟩⟩
 |new t o l=>
  simp only[d9]at h
  cases d with
  |none=>cases h
  |some e=>
   simp only at h
   split at h
   ·rename_i hH
    injection h with h
    refine⟨t,bD s.H e (o::l),h.symm,fun a ha=>?_,.inr ⟨e,o,l,rfl,hH,rfl,rfl⟩⟩
    exact cz (by rintro rfl;exact ha hH)
   cases h
 |wr q=>exact absurd rfl (hw q)
theorem Dj {i j:Nat} {oi oj:Oper} (hl:oB s) (hij:kF ops oj oi.dst) (hji:kF ops oi oj.dst) (hd: ∀k,oi.dst=some k->oj.dst≠some k) (hsw:K1 P oi oj)
  (h1:dR P items ow ops i oi s=some s1) (h2:dR P items ow ops j oj s1=some s'): ∃s2,dR P items ow ops j oj s=some s2/\dR P items ow ops i oi s2=some s':=by
 rw[dH]at h1 h2
 obtain⟨ui,hui,h1⟩:=Option.bind_eq_some_iff.1 h1
 obtain⟨uj,huj,h2⟩:=Option.bind_eq_some_iff.1 h2
 by_cases hMi:vJ oi.op=true
 ·obtain⟨t,rfl⟩:=uO hMi hui
  simp only[d9]at h1
  injection h1 with h1
  subst h1
  rw[eD hij]at huj
  cases uj with
  |val u=>
   simp only[d9]at h2
   injection h2 with h2
   subst h2
   refine⟨s.put oj.dst u,by rw[dH,huj];rfl,?_⟩
   rw[dH,eD hji,hui]
   simp only[ao,d9]
   rw[im s t u hd]
  |new u o l=>
   simp only[d9,jY]at h2
   cases hdj:oj.dst with
   |none=>rw[hdj]at h2;cases h2
   |some e=>
    rw[hdj]at h2
    simp only at h2
    split at h2
    ·rename_i hH
     injection h2 with h2
     subst h2
     refine⟨AS.put ⟨s.tmps,bD s.H e (o::l)⟩ (some e) u,by rw[dH,huj];simp only[ao,d9,hdj,hH],?_⟩
     rw[dH,<- hdj,eD hji,sZ hMi s.tmps _ s.H]
     rw[show(⟨s.tmps,s.H⟩:AS)=s from rfl,hui]
     simp only[ao,d9]
     rw[im _ u t (fun k hk hk'=>hd k hk' (by rw[hk]))]
     congr 2
     cases oi.dst<;>rfl
    cases h2
  |wr q=>
   simp only[d9]at h2
   injection h2 with h2
   subst h2
   refine⟨AS.put ⟨s.tmps.map (bz q.k),q.H⟩ oj.dst q.t,by rw[dH,huj];rfl,?_⟩
   rw[dH,eD hji,(px hMi q.k q.H).2 ⟨t,hui,rfl⟩]
   simp only[ao,d9]
   rw[Be,im _ _ _ (fun k hk hk'=>hd k hk' (by rw[hk]))]
 by_cases hMj:vJ oj.op=true
 ·obtain⟨u,rfl⟩:=uO hMj huj
  simp only[d9]at h2
  injection h2 with h2
  subst h2
  cases ui with
  |val t=>
   simp only[d9]at h1
   injection h1 with h1
   subst h1
   rw[eD hij]at huj
   refine⟨s.put oj.dst u,by rw[dH,huj];rfl,?_⟩
   rw[dH,eD hji,hui]
   simp only[ao,d9]
   rw[im s t u hd]
  |new t o l=>
   simp only[d9]at h1
   cases hdi:oi.dst with
   |none=>rw[hdi]at h1;cases h1
   |some e=>
    rw[hdi]at h1
    simp only at h1
    split at h1
    ·rename_i hH
     injection h1 with h1
     subst h1
     rw[<- hdi,eD hij,sZ hMj s.tmps _ s.H,show(⟨s.tmps,s.H⟩:AS)=s from rfl]at huj
     refine⟨s.put oj.dst u,by rw[dH,huj];rfl,?_⟩
     rw[dH,eD hji,hui]
     simp only[ao,d9,jY,hdi,hH]
     rw[im _ t u (fun k hk=>hd k (by rw[hdi];exact hk))]
     congr 2
     cases oj.dst<;>rfl
    cases h1
  |wr q=>
   simp only[d9]at h1
   injection h1 with h1
   subst h1
   rw[eD hij]at huj
   obtain⟨u0,hu0,rfl⟩:=(px hMj q.k q.H).1 huj
   refine⟨s.put oj.dst u0,by rw[dH,hu0];rfl,?_⟩
   rw[dH,eD hji,hui]
   simp only[ao,d9]
   rw[Be,im _ _ _ hd]
 obtain⟨hDi,hDj⟩:(∀e G,cU P e G oi.op=none)/\ ∀e G,cU P e G oj.op=none:=by
  rcases hsw with h|h|h
  ·exact absurd h hMi
  ·exact absurd h hMj
  exact h
 have nowr: ∀{i:Nat} {o:Oper} {s:AS} {u:GF},(∀e G,cU P e G o.op=none)->eY P items ow ops i o s=some u-> ∀q,u≠ .wr q:=fun{i o s u} hD hu q hq=>by
  subst hq
  unfold eY lA at hu
  split at hu
  ·split at hu
   ·obtain⟨_,_,hh⟩:=Option.map_eq_some_iff.1 hu;cases hh
   split at hu
   ·obtain⟨_,_,hh⟩:=Option.map_eq_some_iff.1 hu;cases hh
   rw[hD]at hu
   simp only at hu
   split at hu
   ·cases hu
   unfold C0 at hu
   split at hu<;>cases hu
  ·cases hu
  cases hu
 obtain⟨t,H1,rfl,hg1,hc1⟩:=oH (nowr hDi hui) h1
 rw[eD hij,pw hl hg1 hDj]at huj
 obtain⟨u,H2,rfl,hg2,hc2⟩:=oH (nowr hDj huj) h2
 simp only[jY]at hc2 hg2
 -- what j does to s alone
 have hj: ∃H3,dR P items ow ops j oj s=some (AS.put ⟨s.tmps,H3⟩ oj.dst u)/\wC s.H H3/\((H3=s.H/\H2=H1)\/ ∃e o l,oj.dst=some e/\H3=bD s.H e (o::l)/\H2=bD H1 e (o::l)):=by
  rcases hc2 with⟨e1,e2⟩|⟨e,o,l,e1,e2,e3,e4⟩
  ·exact⟨s.H,by rw[dH,huj,e2];rfl,fun _ _=>rfl,.inl ⟨rfl,e1⟩⟩
  have hse:s.H e=[]:=by
   rcases hc1 with⟨c1,_⟩|⟨e',o',l',c1,c2,c3,_⟩
   ·rw[<- c1];exact e2
   rw[c3,cz (by rintro rfl;exact hd _ c1 e1)]at e2;exact e2
  refine⟨bD s.H e (o::l),by rw[dH,huj,e4];simp only[ao,d9,e1,hse],fun a ha=>cz (by rintro rfl;exact ha hse),.inr ⟨e,o,l,e1,rfl,e3⟩⟩
 obtain⟨H3,hj1,hg3,hj2⟩:=hj
 refine⟨_,hj1,?_⟩
 rw[dH,eD hji,pw hl hg3 hDi,hui]
 simp only[ao]
 rcases hc1 with⟨c1,c2⟩|⟨e',o',l',c1,c2,c3,c4⟩
 ·subst c2
  simp only[d9]
  rw[im _ u t (fun k hk hk'=>hd k hk' (by rw[hk]))]
  congr 1
  have:H3=H2:=by
   rcases hj2 with⟨q1,q2⟩|⟨e,o,l,q0,q1,q2⟩
   ·rw[q1,q2,c1]
   rw[q1,q2,c1]
  rw[this,Fp s.tmps H1,c1]
  cases oi.dst<;>rfl
 subst c4
 have hH3:H3 e'=[]:=by
  rcases hj2 with⟨q1,_⟩|⟨e,o,l,q0,q1,_⟩
  ·rw[q1];exact c2
  rw[q1,cz (by rintro rfl;exact hd _ c1 q0)];exact c2
 simp only[d9,c1,jY,hH3]
 have e1:(⟨(AS.put ⟨s.tmps,H3⟩ oj.dst u).tmps,bD H3 e' (o'::l')⟩:AS)=AS.put ⟨s.tmps,bD H3 e' (o'::l')⟩ oj.dst u:=by cases oj.dst<;>rfl
 rw[e1,im _ u t (fun k hk hk'=>hd k (by rw[c1];exact hk') (by rw[hk]))]
 congr 1
 have:bD H3 e' (o'::l')=H2:=by
  rcases hj2 with⟨q1,q2⟩|⟨e,o,l,q0,q1,q2⟩
  ·rw[q1,q2,c3]
  rw[q1,q2,c3]
  funext z
  have hne:e'≠e:=by rintro rfl;exact hd _ c1 q0
  by_cases h1:z=e'
  ·subst h1;rw[dr,cz hne,dr]
  rw[cz h1]
  by_cases h2:z=e
  ·subst h2;rw[dr,dr]
  rw[cz h2,cz h2,cz h1]
 rw[this,Fp s.tmps H1]
 rfl
end
end
section
section
variable {P:Program} {items:List (fh P)} {ow:List Nat} {ops:Array Oper} {s s1 s':AS} {H H':OH}
theorem zG {t:TV} (h:noRefTV t=true):iH H t:=by
 have av: ∀x,bf x=true->iu H x:=fun x hx=>by cases x<;>first|trivial|cases hx
 cases t with
 |one x=>exact av x h
 |agg cs=>simp only[noRefTV,aq]at h;exact fun x hx=>av x (h x hx)
 |fn f cs=>simp only[noRefTV,aq]at h;exact fun x hx=>av x (h x hx)
 |tup ts=>simp only[noRefTV,aq]at h;exact fun t ht x hx=>av x (h t ht x hx)
theorem yf {t:TV} {d:Nat} (h:j7 d t) (hd:H d≠[]):iH H t:=by
 have av: ∀x,fP d x->iu H x:=fun x hx=>by
  cases x with
  |sl a _ _ _=>have hx:a=d:=hx;subst hx;exact hd
  |ptr a _ _ _=>have hx:a=d:=hx;subst hx;exact hd
  |p x=>trivial
  |junk=>trivial
 cases t with
 |one x=>exact av x h
 |agg cs=>exact fun x hx=>av x (h x hx)
 |fn f cs=>exact fun x hx=>av x (h x hx)
 |tup ts=>exact fun t ht x hx=>av x (h t ht x hx)
theorem j1 (d:Nat) (x:AV):fP d (bM d x):=by cases x<;>first|rfl|trivial
theorem sG (d:Nat) (t:TV):j7 d (bQ d t):=by
 cases t with
 |one x=>exact j1 d x
 |agg cs=>intro x hx;simp only[au]at hx;obtain⟨y,_,rfl⟩:=hx;exact j1 d y
 |fn f cs=>intro x hx;simp only[au]at hx;obtain⟨y,_,rfl⟩:=hx;exact j1 d y
 |tup ts=>
  intro t ht x hx
  simp only[au]at ht
  obtain⟨t',_,rfl⟩:=ht
  simp only[au]at hx
  obtain⟨y,_,rfl⟩:=hx
  exact j1 d y
theorem uz {d:Nat} {t:TV} (h:noRefTV t=true):noRefTV (bQ d t)=true:=by
 have av: ∀x,bf x=true->bf (bM d x)=true:=fun x hx=>by cases x<;>first|rfl|cases hx
 cases t with
 |one x=>exact av x h
 |agg cs=>simp only[noRefTV,aq]at h;simp only[bQ,noRefTV,aq,au];rintro _ ⟨x,hx,rfl⟩;exact av x (h x hx)
 |fn f cs=>simp only[noRefTV,aq]at h;simp only[bQ,noRefTV,aq,au];rintro _ ⟨x,hx,rfl⟩;exact av x (h x hx)
 |tup ts=>
  simp only[noRefTV,aq]at h
  simp only[bQ,noRefTV,aq,au]
  rintro _ ⟨t,ht,rfl⟩ _ hx
  simp only[au]at hx
  obtain⟨x,hx,rfl⟩:=hx
  exact av x (h t ht x hx)
theorem fg {a:Nat} {o:OObj} (h: ∀e∈o.elems,∀x∈e,isPure x=true):selfO a o:=fun e he x hx=>gS (h e he x hx)
theorem uy {t:TV} {news:List (List AV)} (h:eo H t=some news): ∀e∈news,∀x∈e,isPure x=true:=by
 unfold eo at h
 split at h
 ·injection h with h
  subst h
  intro e he x hx
  simp only[au]at he
  obtain⟨e',_,rfl⟩:=he
  simp only[au]at hx
  obtain⟨x',_,rfl⟩:=hx
  rfl
 ·injection h with h;subst h;intro e he;simp at he
 ·split at h
  ·split at h
   ·rename_i hp
    injection h with h
    subst h
    simp only[aq]at hp
    exact fun e he x hx=>hp e (List.mem_of_mem_take (List.mem_of_mem_drop he)) x hx
   cases h
  cases h
 cases h
theorem xD {ev:Operand->Option TV} {n:Nat}: ∀(parts:List (Nat×Operand)) (i:Nat) (l:List (List AV)),gU ev n i parts=some l-> ∀e∈l,∀x∈e,isPure x=true
 |[],i,l,h=>by simp only[gU]at h;injection h with h;subst h;intro e he;simp at he
 |(k,x)::rest,i,l,h=>by
  simp only[gU]at h
  split at h
  ·rename_i cs l' hcs hl'
   split at h
   ·rename_i hc
    injection h with h
    subst h
    intro e he y hy
    rcases List.mem_cons.1 he with rfl|he
    ·have:=hc.2.2;simp only[aq]at this;exact this y hy
    exact xD rest (i+1) l' hl' e he y hy
   cases h
  cases h
theorem ze {i d:Nat} {ev:Operand->Option TV} {op:Op} {t:TV} {F:List OObj} (h:bI P items ow i d ev H op=some (t,F)):j7 d t/\(F=[]->noRefTV t=true)/\ ∀o∈F,selfO d o:=by
 cases op<;>simp only[bI]at h<;>try cases h
 case box e x=>
  split at h
  ·split at h
   ·rename_i hc
    injection h with h
    injection h with h1 h2
    subst h1 h2
    refine⟨rfl,fun h=>by simp at h,fun o ho=>?_⟩
    simp at ho
    subst ho
    have:=hc.1
    simp only[aq]at this
    exact fg (fun e he x hx=>by simp at he;subst he;exact this x hx)
   cases h
  cases h
 case alloc e=>
  split at h
  ·split at h
   ·injection h with h
    injection h with h1 h2
    subst h1 h2
    refine⟨rfl,fun h=>by simp at h,fun o ho=>?_⟩
    simp at ho
    subst ho
    exact fg (fun e he x hx=>by simp at he;subst he;simp at hx;obtain⟨y,_,rfl⟩:=hx;rfl)
   cases h
  cases h
 case makeSlice ty l c=>
  split at h
  ·split at h
   ·split at h
    ·injection h with h
     injection h with h1 h2
     subst h1 h2
     refine⟨rfl,fun h=>by simp at h,fun o ho=>?_⟩
     simp at ho
     subst ho
     exact fg (fun e he x hx=>by simp[List.mem_replicate]at he;rw[he.2]at hx;simp at hx;obtain⟨y,_,rfl⟩:=hx;rfl)
    cases h
   cases h
  cases h
 case buildSlice ty n parts=>
  split at h
  ·split at h
   ·split at h
    ·rename_i l hl
     split at h
     ·split at h
      ·injection h with h
       injection h with h1 h2
       subst h1 h2
       refine⟨rfl,fun h=>by simp at h,fun o ho=>?_⟩
       simp at ho
       subst ho
       exact fg (xD _ _ _ hl)
      injection h with h
      injection h with h1 h2
      subst h1 h2
      exact⟨trivial,fun _=>rfl,fun o ho=>by simp at ho⟩
     cases h
    cases h
   cases h
  cases h
 case call c=>
  split at h
  ·split at h
   ·rename_i it ts hit hts
    split at h
    ·rename_i hc
     injection h with h
     injection h with h1 h2
     subst h1 h2
     refine⟨sG _ _,fun hF=>?_,fun o ho=>?_⟩
     ·have h4:=hc.2.2.2
      simp only[List.map_eq_nil_iff]at hF
      rw[hF]at h4
      exact uz (by simpa using h4)
     simp only[au]at ho
     obtain⟨o',_,rfl⟩:=ho
     intro e he x hx
     simp only[renO,au]at he
     obtain⟨e',_,rfl⟩:=he
     simp only[au]at hx
     obtain⟨y,_,rfl⟩:=hx
     exact j1 d y
    cases h
   cases h
  ·split at h
   ·rename_i f extra it ts hcl hit hts
    split at h
    ·rename_i hc
     injection h with h
     injection h with h1 h2
     subst h1 h2
     refine⟨sG _ _,fun hF=>?_,fun o ho=>?_⟩
     ·have h4:=hc.2.2.2
      simp only[List.map_eq_nil_iff]at hF
      rw[hF]at h4
      exact uz (by simpa using h4)
     simp only[au]at ho
     obtain⟨o',_,rfl⟩:=ho
     intro e he x hx
     simp only[renO,au]at he
     obtain⟨e',_,rfl⟩:=he
     simp only[au]at hx
     obtain⟨y,_,rfl⟩:=hx
     exact j1 d y
    cases h
   cases h
  ·split at h
   ·split at h
    ·rename_i news e hs hx hsl
     split at h
     ·split at h
      ·injection h with h
       injection h with h1 h2
       subst h1 h2
       refine⟨rfl,fun h=>by simp at h,fun o ho=>?_⟩
       simp at ho
       subst ho
       obtain⟨tx,_,hn⟩:=Option.bind_eq_some_iff.1 hx
       exact fg (uy hn)
      cases h
     cases h
    cases h
   cases h
  cases h
theorem kp {k:Nat->Nat->Bool} {x:AV} (h: ∀a r,H a≠[]->k a r=false->H' a≠[]) (hx:iu H x):iu H' (bx k x):=by
 cases x with
 |sl a r off len=>
  simp only[bx]
  cases hk:k a r with
  |true=>trivial
  |false=>exact h a r hx hk
 |ptr a r i j=>
  simp only[bx]
  cases hk:k a r with
  |true=>trivial
  |false=>exact h a r hx hk
 |p x=>trivial
 |junk=>trivial
theorem qt {k:Nat->Nat->Bool} {t:TV} (h: ∀a r,H a≠[]->k a r=false->H' a≠[]) (hx:iH H t):iH H' (bz k t):=by
 cases t with
 |one x=>exact kp h hx
 |agg cs=>intro y hy;simp only[au]at hy;obtain⟨z,hz,rfl⟩:=hy;exact kp h (hx z hz)
 |fn f cs=>intro y hy;simp only[au]at hy;obtain⟨z,hz,rfl⟩:=hy;exact kp h (hx z hz)
 |tup ts=>
  intro t ht y hy
  simp only[au]at ht
  obtain⟨t',ht',rfl⟩:=ht
  simp only[au]at hy
  obtain⟨z,hz,rfl⟩:=hy
  exact kp h (hx t' ht' z hz)
theorem sT {a r:Nat} {l:List OObj} {o o':OObj} (hl: ∀o∈l,selfO a o) (ho':selfO a o'): ∀o∈l.set r o',selfO a o:=fun x hx=>by
 rcases List.mem_or_eq_of_mem_set hx with hx|rfl
 ·exact hl x hx
 exact ho'
theorem sv {a i j:Nat} {o:OObj} {e cs:List AV} (ho:selfO a o) (he:o.elems[i]?=some e) (hc: ∀x∈cs,fP a x):selfO a {o with elems:=o.elems.set i (bu e j cs)}:=fun y hy x hx=>by
 rcases List.mem_or_eq_of_mem_set hy with hy|rfl
 ·exact ho y hy x hx
 unfold bu at hx
 simp only[List.mem_append]at hx
 rcases hx with(hx|hx)|hx
 ·exact ho e (aE he) x (List.mem_of_mem_take hx)
 ·exact hc x hx
 exact ho e (aE he) x (List.mem_of_mem_drop hx)
theorem Cr (hl:oB s) {op:Op} {q:yH} (h:cU P s.ev s.H op=some q):(∀a r,s.H a≠[]->q.k a r=false->q.H a≠[])/\(∀a,∀o∈q.H a,selfO a o)/\iH q.H q.t:=by
 have hundef: ∀H,iH H TV.undef:=fun H t ht=>by simp at ht
 have upd1: ∀{a r:Nat} {o:OObj} {F:List OObj},(s.H a)[r]?=some o->F.length>=(s.H a).length->(∀o∈F,selfO a o)->(∀(b r':Nat),s.H b≠[]->bD s.H a F b≠[])/\ ∀b,∀o∈bD s.H a F b,selfO b o:=fun{a r o F} ho hlen hF=>by
  have hpos:0<(s.H a).length:=by have:=(List.getElem?_eq_some_iff.1 ho).1;omega
  refine⟨fun b _ hb=>?_,fun b o' ho'=>?_⟩
  ·by_cases hba:b=a
   ·subst hba;rw[dr];intro h0;rw[h0]at hlen;simp at hlen;simp[hlen]at hpos
   rw[cz hba];exact hb
  by_cases hba:b=a
  ·subst hba;rw[dr]at ho';exact hF o' ho'
  rw[cz hba]at ho';exact hl.2 b o' ho'
 cases op<;>simp only[cU]at h<;>try cases h
 case store t ad x=>
  split at h
  ·rename_i a r i j n had hn
   split at h
   ·rename_i o ho
    have hso:=hl.2 a o (aE ho)
    split at h
    ·rename_i e he
     split at h
     ·rename_i a' r' off len hx
      split at h
      ·rename_i haa
       subst haa
       split at h
       ·injection h with h
        subst h
        obtain⟨g1,g2⟩:=upd1 ho (F:=(s.H a').set r {o with elems:=o.elems.set i (bu e j [.sl a' r' off len])}) (by simp) (sT (o:=o) (hl.2 a') (sv hso he (fun y hy=>by simp at hy;subst hy;rfl)))
        exact⟨fun b r hb _=>g1 b r hb,g2,hundef _⟩
       cases h
      rename_i haa
      split at h
      ·rename_i ob hH
       split at h
       ·rename_i hc
        injection h with h
        subst h
        have hp:=hc.2.2.2.2.2.2
        simp only[aq]at hp
        obtain⟨g1,g2⟩:=upd1 ho (F:=(s.H a).set r {o with elems:=o.elems.set i (bu e j [.sl a (s.H a).length 0 len])}++[ob]) (by simp) (fun y hy=>by
         rcases List.mem_append.1 hy with hy|hy
         ·exact sT (o:=o) (hl.2 a) (sv hso he (fun y hy=>by simp at hy;subst hy;rfl)) y hy
         simp at hy;subst hy;exact fg hp)
        refine⟨fun b r hb hk=>?_,fun b o' ho'=>?_,hundef _⟩
        ·have hba:b≠a':=by simpa using hk
         show bD _ a' [] b≠[]
         rw[cz hba];exact g1 b r hb
        by_cases hba:b=a'
        ·subst hba;simp only[dr]at ho';simp at ho'
        simp only[cz hba]at ho';exact g2 b o' ho'
       cases h
      cases h
     ·rename_i v hv hx
      split at h
      ·rename_i cs hcs
       split at h
       ·rename_i hc
        injection h with h
        subst h
        have hp:=hc.2.2
        simp only[aq]at hp
        obtain⟨g1,g2⟩:=upd1 ho (F:=(s.H a).set r {o with elems:=o.elems.set i (bu e j cs)}) (by simp) (sT (o:=o) (hl.2 a) (sv hso he (fun y hy=>gS (hp y hy))))
        exact⟨fun b r hb _=>g1 b r hb,g2,hundef _⟩
       cases h
      cases h
     cases h
    cases h
   cases h
  cases h
 case call c=>
  split at h
  ·split at h
   ·rename_i a r off len news e hs hx hsl
    split at h
    ·rename_i o z sz by_ ho hz hszo hby
     split at h
     ·injection h with h
      subst h
      obtain⟨tx,_,hn⟩:=Option.bind_eq_some_iff.1 hx
      have hso:=hl.2 a o (aE ho)
      obtain⟨g1,g2⟩:=upd1 ho (F:=((s.H a).map (fq fun x y=>x==a&&y==r)).set r {o with elems:=o.elems++news}) (by simp) (fun y hy=>by
       rcases List.mem_or_eq_of_mem_set hy with hy|rfl
       ·simp only[au]at hy
        obtain⟨o2,ho2,rfl⟩:=hy
        intro e he x hx
        simp only[fq,au]at he
        obtain⟨e',he',rfl⟩:=he
        simp only[au]at hx
        obtain⟨x',hx',rfl⟩:=hx
        have:=hl.2 a o2 ho2 e' he' x' hx'
        cases x' with
        |sl b _ _ _=>simp only[bx];split;trivial;exact this
        |ptr b _ _ _=>simp only[bx];split;trivial;exact this
        |p x=>trivial
        |junk=>trivial
       intro e he x hx
       rcases List.mem_append.1 he with he|he
       ·exact hso e he x hx
       exact gS (uy hn e he x hx))
      refine⟨fun b r hb _=>g1 b r hb,g2,?_⟩
      exact g1 a r (by intro h0;rw[h0]at ho;simp at ho)
     cases h
    cases h
   cases h
  cases h
theorem ve {i:Nat} {o:Oper} (hl:oB s) (h:dR P items ow ops i o s=some s1):oB s1:=by
 rw[dH]at h
 obtain⟨out,hout,h⟩:=Option.bind_eq_some_iff.1 h
 unfold eY at hout
 have hundef:iH s.H TV.undef:=fun t ht=>by simp at ht
 split at hout
 ·unfold lA at hout
  split at hout
  ·obtain⟨t,ht,rfl⟩:=Option.map_eq_some_iff.1 hout
   simp only[d9]at h;injection h with h;subst h
   exact lC hl (Ct hl ht)
  split at hout
  ·obtain⟨t,ht,rfl⟩:=Option.map_eq_some_iff.1 hout
   simp only[d9]at h;injection h with h;subst h
   exact lC hl (Cu hl ht)
  split at hout
  ·rename_i q hq
   injection hout with hout
   subst hout
   simp only[d9]at h;injection h with h;subst h
   obtain⟨g1,g2,g3⟩:=Cr hl hq
   refine lC ⟨fun t x hx=>?_,g2⟩ g3
   simp only[aH]at hx
   obtain⟨y,hy,rfl⟩:=Option.map_eq_some_iff.1 hx
   exact qt g1 (hl.1 t y hy)
  split at hout
  ·cases hout
  rename_i d hd
  cases hA:bI P items ow i d s.ev s.H o.op with
  |none=>rw[hA]at hout;cases hout
  |some tF=>
   obtain⟨t,F⟩:=tF
   rw[hA]at hout
   obtain⟨f1,f2,f3⟩:=ze hA
   cases F with
   |nil=>
    simp only[C0]at hout
    injection hout with hout
    subst hout
    simp only[d9]at h;injection h with h;subst h
    exact lC hl (zG (f2 rfl))
   |cons o' l=>
    simp only[C0]at hout
    injection hout with hout
    subst hout
    simp only[d9,hd]at h
    split at h
    ·rename_i hH
     injection h with h
     subst h
     refine lC ⟨fun k x hx=>?_,fun b o2 ho2=>?_⟩ (yf f1 (by simp[dr]))
     ·have:=hl.1 k x hx
      have hg: ∀a,s.H a≠[]->bD s.H d (o'::l) a≠[]:=fun a ha=>by rw[cz (by rintro rfl;exact ha hH)];exact ha
      have:=qt (H':=bD s.H d (o'::l)) (k:=fun _ _=>false) (fun a _ ha _=>hg a ha) this
      rwa[lW]at this
     by_cases hb:b=d
     ·subst hb;simp only[dr]at ho2;exact f3 o2 ho2
     simp only[cz hb]at ho2;exact hl.2 b o2 ho2
    cases h
 ·injection hout with hout
  subst hout
  simp only[d9]at h;injection h with h;subst h
  exact lC hl hundef
 cases hout
end
end
section
def LU:Op->Bool
 | .store ..=>false
 | .call {callee:= .builtin .append,..}=>false
 |_=>true
theorem xQ {P:Program} {op:Op} (h:LU op=true): ∀e G,cU P e G op=none:=fun e G=>by
 cases op<;>simp only[cU]<;>try rfl
 case store=>cases h
 case call c=>
  obtain⟨callee,args,tys⟩:=c
  cases callee with
  |value f=>rfl
  |invoke r m=>rfl
  |builtin b=>cases b<;>first|rfl|cases h
def jC (acc:List Nat):List Edge->Nat
 |[]=>0
 |e::l=>if Region.binds .any e then 2^e.on|||(acc.getD e.on 0|||jC acc l)else jC acc l
def ro:List Oper->List Nat->List Nat
 |[],acc=>acc
 |o::l,acc=>ro l (acc++[jC acc o.after.toList])
def FN (sep:List (Nat×Nat×Nat)) (oi oj:Oper):Bool:=match oi.op,oj.op with
 | .load _ (.tmp p),.store t (.tmp q) _=>sep.contains (p,q,t)&&oi.guard.isNone&&oj.guard.isNone
 |_,_=>false
def pV (sep:List (Nat×Nat×Nat)) (ops:Array Oper) (oi oj:Oper):Bool:=oi.apart ops oj&&(vJ oi.op||vJ oj.op||(LU oi.op&&LU oj.op)||FN sep oi oj)
def x5 (sep:List (Nat×Nat×Nat)) (ops:Array Oper) (oj:Oper) (m:Nat):List Oper->Nat->Bool
 |[],_=>true
 |oi::l,i=>(m.testBit i||pV sep ops oi oj)&&x5 sep ops oj m l (i+1)
def wb (sep:List (Nat×Nat×Nat)) (ops:Array Oper) (A:List Nat):List Oper->Nat->Bool
 |[],_=>true
 |oj::l,j=>oj.after.all (fun e=>!Region.binds .any e||decide (e.on<j))&&x5 sep ops oj (A.getD j 0) (ops.toList.take j) 0&&wb sep ops A l (j+1)
def gJ (sep:List (Nat×Nat×Nat)) (ops:Array Oper):Bool:=wb sep ops (ro ops.toList []) ops.toList 0&&ops.toList.all fun o=>sep.all fun x=>o.dst !=some x.1&&o.dst !=some x.2.1
def wF (sep:List (Nat×Nat×Nat)) (s:AS):Prop:= ∀x∈sep,∀a r i j b r' i' j',s.tmps[x.1]?=some (.one (.ptr a r i j))->s.tmps[x.2.1]?=some (.one (.ptr b r' i' j'))->b≠a
def DB (sep:List (Nat×Nat×Nat)) (s:AS):Prop:=oB s/\wF sep s
def Gv (P:Program) (sep:List (Nat×Nat×Nat)) (ops:Array Oper):Prop:=(∀x∈sep,kh P x.2.2≠some 1)/\ ∀(j:Nat) o,ops[j]?=some o-> ∀x∈sep,o.dst≠some x.1/\o.dst≠some x.2.1
section
variable {ops:Array Oper} {sep:List (Nat×Nat×Nat)}
theorem tR: ∀(l:List Oper) (acc:List Nat),(ro l acc).length=acc.length+l.length/\(∀k,k<acc.length->(ro l acc)[k]?=acc[k]?)/\
  ∀(j:Nat) o,l[j]?=some o->(ro l acc)[acc.length+j]?=some (jC ((ro l acc).take (acc.length+j)) o.after.toList)
 |[],acc=>⟨by simp[ro],fun k _=>rfl,fun j o h=>by simp at h⟩
 |o::l,acc=>by
  obtain⟨h1,h2,h3⟩:=tR l (acc++[jC acc o.after.toList])
  simp only[ro]
  refine⟨by rw[h1];simp;omega,fun k hk=>by rw[h2 k (by simp;omega),List.getElem?_append_left hk],fun j oj hj=>?_⟩
  cases j with
  |zero=>
   simp at hj
   subst hj
   rw[Nat.add_zero,h2 acc.length (by simp)]
   have:(ro l (acc++[jC acc o.after.toList])).take acc.length=acc:=by
    apply List.ext_getElem?
    intro k
    rw[List.getElem?_take]
    split
    ·rename_i hk;rw[h2 k (by simp;omega),List.getElem?_append_left hk]
    rename_i hk;rw[List.getElem?_eq_none (by omega)]
   rw[this]
   simp
  |succ j=>
   simp at hj
   have:=h3 j oj hj
   simp only[List.length_append,List.length_cons,List.length_nil]at this
   rw[show acc.length+(0+1)+j=acc.length+(j+1) by omega]at this
   exact this
theorem mw {acc:List Nat} {i:Nat}: ∀{l:List Edge},(jC acc l).testBit i=true-> ∃e∈l,Region.binds .any e=true/\(e.on=i\/(acc.getD e.on 0).testBit i=true)
 |[],h=>by simp[jC]at h
 |e::l,h=>by
  simp only[jC]at h
  split at h
  ·rename_i hb
   simp only[Nat.testBit_or,Bool.or_eq_true,Nat.testBit_two_pow,decide_eq_true_eq]at h
   rcases h with h|h|h
   ·exact⟨e,by simp,hb,.inl h⟩
   ·exact⟨e,by simp,hb,.inr h⟩
   obtain⟨e',h1,h2⟩:=mw h;exact⟨e',by simp[h1],h2⟩
  obtain⟨e',h1,h2⟩:=mw h;exact⟨e',by simp[h1],h2⟩
def GB (ops:Array Oper) (p:Nat->Bool):Prop:= ∀(j:Nat) o,ops[j]?=some o->p j=true-> ∀e∈o.after,Region.binds .any e=true->p e.on=true
theorem G4 {p:Nat->Bool} (hp:GB ops p) {i:Nat}: ∀(n j:Nat),j<n->j<ops.size->p j=true->((ro ops.toList []).getD j 0).testBit i=true->p i=true:=by
 intro n
 induction n with
 |zero=>intro j h;omega
 |succ n ih=>
  intro j _ hjs hpj hbit
  obtain⟨h1,_,h3⟩:=tR ops.toList []
  have ho:ops.toList[j]?=some ops[j]:=by simp[hjs]
  have:=h3 j _ ho
  simp only[List.length_nil,Nat.zero_add]at this
  rw[List.getD_eq_getElem?_getD,this,Option.getD_some]at hbit
  obtain⟨e,he,hb,h⟩:=mw hbit
  have hpe:=hp j ops[j] (by simp[hjs]) hpj e (by simpa using he) hb
  rcases h with rfl|h
  ·exact hpe
  rw[List.getD_eq_getElem?_getD,List.getElem?_take]at h
  split at h
  ·rename_i hlt
   exact ih e.on (by omega) (by omega) hpe (by rw[List.getD_eq_getElem?_getD];exact h)
  simp at h
theorem sI {oj:Oper} {m:Nat}: ∀{l:List Oper} {i0:Nat},x5 sep ops oj m l i0=true-> ∀(k:Nat) oi,l[k]?=some oi->m.testBit (i0+k)=true\/pV sep ops oi oj=true
 |[],i0,_,k,oi,h=>by simp at h
 |o::l,i0,h,k,oi,hk=>by
  simp only[x5,Bool.and_eq_true,Bool.or_eq_true]at h
  cases k with
  |zero=>simp at hk;subst hk;exact h.1
  |succ k=>
   simp at hk
   have:=sI h.2 k oi hk
   rwa[show i0+1+k=i0+(k+1) by omega]at this
theorem mQ {A:List Nat}: ∀{l:List Oper} {j0:Nat},wb sep ops A l j0=true-> ∀(k:Nat) oj,l[k]?=some oj->(∀e∈oj.after,Region.binds .any e=true->e.on<j0+k)/\x5 sep ops oj (A.getD (j0+k) 0) (ops.toList.take (j0+k)) 0=true
 |[],j0,_,k,oj,h=>by simp at h
 |o::l,j0,h,k,oj,hk=>by
  simp only[wb,Bool.and_eq_true]at h
  cases k with
  |zero=>
   simp at hk
   subst hk
   refine⟨fun e he hb=>?_,h.1.2⟩
   have:=h.1.1
   rw[Array.all_eq_true_iff_forall_mem]at this
   have:=this e he
   simpa[hb] using this
  |succ k=>
   simp at hk
   have:=mQ h.2 k oj hk
   rwa[show j0+1+k=j0+(k+1) by omega]at this
theorem pK (h:gJ sep ops=true):(∀(j:Nat) o,ops[j]?=some o-> ∀e∈o.after,Region.binds .any e=true->e.on<j)/\
  ∀(i j:Nat) oi oj,i<j->ops[i]?=some oi->ops[j]?=some oj->((ro ops.toList []).getD j 0).testBit i=true\/pV sep ops oi oj=true:=by
 unfold gJ at h
 rw[Bool.and_eq_true]at h
 replace h:=h.1
 refine⟨fun j o ho e he hb=>?_,fun i j oi oj hij hi hj=>?_⟩
 ·have:=(mQ h j o (by simpa using ho)).1 e he hb;simpa using this
 have:=(mQ h j oj (by simpa using hj)).2
 rw[Nat.zero_add]at this
 have:=sI this i oi (by rw[List.getElem?_take,if_pos hij];simpa using hi)
 rwa[Nat.zero_add]at this
variable {P:Program} {items:List (fh P)} {ow:List Nat}
noncomputable def kU (P:Program) (items:List (fh P)) (ow:List Nat) (ops:Array Oper) (i:Nat) (s:AS):Option AS:=match ops[i]? with
 |some o=>dR P items ow ops i o s
 |none=>none
noncomputable def iS (P:Program) (items:List (fh P)) (ow:List Nat) (ops:Array Oper):List Nat->AS->Option AS
 |[],s=>some s
 |i::l,s=>(kU P items ow ops i s).bind (iS P items ow ops l)
theorem qz (l m:List Nat) (s:AS):iS P items ow ops (l++m) s=(iS P items ow ops l s).bind (iS P items ow ops m):=by
 induction l generalizing s with
 |nil=>rfl
 |cons i l ih=>
  simp only[List.cons_append,iS]
  cases kU P items ow ops i s with
  |none=>rfl
  |some s1=>exact ih s1
theorem rF (h:gJ sep ops=true) (hz: ∀x∈sep,kh P x.2.2≠some 1):Gv P sep ops:=⟨hz,fun j o ho x hx=>by
 unfold gJ at h
 rw[Bool.and_eq_true,aq]at h
 have h1:=h.2 o (by simpa using Array.mem_of_getElem? ho)
 rw[aq]at h1
 have h2:=h1 x hx
 simpa using h2⟩
theorem v8 {s:AS} {d:Option Tmp} {t:TV} (hl:wF sep s) (hd: ∀x∈sep,d≠some x.1/\d≠some x.2.1):wF sep (s.put d t):=fun x hx a r i j b r' i' j' h1 h2=>by
 rw[pe s d t x.1 (fun e he hex=>(hd x hx).1 (by rw[he,hex]))]at h1
 rw[pe s d t x.2.1 (fun e he hex=>(hd x hx).2 (by rw[he,hex]))]at h2
 exact hl x hx a r i j b r' i' j' h1 h2
theorem xu {k:Nat->Nat->Bool} {t:TV} {a r i j:Nat} (h:bz k t= .one (.ptr a r i j)):t= .one (.ptr a r i j):=by
 cases t with
 |one x=>cases x<;>simp only[bz,bx]at h<;>(try split at h)<;>simp_all
 |agg cs=>cases h
 |fn f cs=>cases h
 |tup ts=>cases h
theorem ED {tm:List TV} {H H':OH} {k:Nat->Nat->Bool} (hl:wF sep ⟨tm,H⟩):wF sep ⟨tm.map (bz k),H'⟩:=fun x hx a r i j b r' i' j' h1 h2=>by
 simp only[aH]at h1 h2
 obtain⟨t1,g1,g2⟩:=Option.map_eq_some_iff.1 h1
 obtain⟨t2,g3,g4⟩:=Option.map_eq_some_iff.1 h2
 rw[xu g2]at g1
 rw[xu g4]at g3
 exact hl x hx a r i j b r' i' j' g1 g3
theorem xG (hS:Gv P sep ops) {i:Nat} {o:Oper} {s s1:AS} (ho:ops[i]?=some o) (hl:DB sep s) (h:dR P items ow ops i o s=some s1):DB sep s1:=by
 refine⟨ve hl.1 h,?_⟩
 have hd:=hS.2 i o ho
 rw[dH]at h
 obtain⟨out,_,h⟩:=Option.bind_eq_some_iff.1 h
 cases out with
 |val t=>simp only[d9]at h;injection h with h;subst h;exact v8 hl.2 hd
 |new t o' l=>
  simp only[d9]at h
  split at h
  ·rename_i e he
   split at h
   ·injection h with h;subst h
    rw[<- he]
    exact v8 (s:=⟨s.tmps,_⟩) hl.2 hd
   cases h
  cases h
 |wr q=>simp only[d9]at h;injection h with h;subst h;exact v8 (ED (H:=s.H) hl.2) hd
theorem Da (hS:Gv P sep ops) {l:List Nat} {s s':AS} (hl:DB sep s) (h:iS P items ow ops l s=some s'):DB sep s':=by
 induction l generalizing s with
 |nil=>simp only[iS]at h;injection h with h;subst h;exact hl
 |cons i l ih=>
  simp only[iS]at h
  obtain⟨s1,h1,h2⟩:=Option.bind_eq_some_iff.1 h
  unfold kU at h1
  split at h1
  ·rename_i o ho
   exact ih (xG hS ho hl h1) h2
  cases h1
theorem CK (tm:List TV):tm.map (bz fun _ _=>false)=tm:=by
 conv=>rhs;rw[<- List.map_id tm]
 exact List.map_congr_left fun t _=>lW t
theorem Aa {s:AS} {t:TypeId} {ad x:Operand} {q:yH} (hn:kh P t≠some 1) (h:cU P s.ev s.H (.store t ad x)=some q): ∃b r i j F,s.ev ad=some (.one (.ptr b r i j))/\q=⟨.undef,bD s.H b F,fun _ _=>false⟩:=by
 simp only[cU]at h
 split at h
 ·rename_i a r i j n had hsz
  have hn1:n≠1:=fun e=>hn (by rw[hsz,e])
  split at h
  ·split at h
   ·split at h
    ·split at h
     ·split at h
      ·rename_i hc;exact absurd hc.1 hn1
      cases h
     split at h
     ·split at h
      ·rename_i hc;exact absurd hc.2.2.2.2.1 hn1
      cases h
     cases h
    ·split at h
     ·split at h
      ·injection h with h;exact⟨a,r,i,j,_,had,h.symm⟩
      cases h
     cases h
    cases h
   cases h
  cases h
 cases h
theorem FO (hS:Gv P sep ops) {i j:Nat} {oi oj:Oper} {s s1 s':AS} (hp:FN sep oi oj=true) (hl:DB sep s) (hij:kF ops oj oi.dst) (hji:kF ops oi oj.dst) (hd: ∀k,oi.dst=some k->oj.dst≠some k)
  (h1:dR P items ow ops i oi s=some s1) (h2:dR P items ow ops j oj s1=some s'): ∃s2,dR P items ow ops j oj s=some s2/\dR P items ow ops i oi s2=some s':=by
 unfold FN at hp
 split at hp
 ·rename_i ty p t q x eqi eqj
  simp only[Bool.and_eq_true]at hp
  obtain⟨⟨hm,gi⟩,gj⟩:=hp
  have hm:(p,q,t)∈sep:=by simpa using hm
  have gi:oi.guard=none:=by simpa using gi
  have gj:oj.guard=none:=by simpa using gj
  rw[dH]at h1 h2
  obtain⟨ui,hui,h1⟩:=Option.bind_eq_some_iff.1 h1
  obtain⟨uj,huj,h2⟩:=Option.bind_eq_some_iff.1 h2
  have so: ∀s,eY P items ow ops i oi s=(aZ P s.ev s.H oi.op).map .val:=fun s=>by
   unfold eY gate lA
   rw[gi]
   simp only
   rw[eqi]
   simp only[vJ,Hu,Bool.false_eq_true,if_false,if_true]
  rw[so]at hui
  obtain⟨tv,htv,rfl⟩:=Option.map_eq_some_iff.1 hui
  simp only[d9]at h1
  injection h1 with h1
  subst h1
  rw[eD hij]at huj
  have huj':=huj
  unfold eY gate lA at huj'
  rw[gj]at huj'
  simp only at huj'
  rw[eqj]at huj'
  simp only[vJ,Hu,Bool.false_eq_true,if_false]at huj'
  split at huj'
  ·rename_i qq hqq
   injection huj' with huj'
   subst huj'
   obtain⟨b,r',i',j',F,hb,rfl⟩:=Aa (hS.1 _ hm) hqq
   simp only[d9]at h2
   injection h2 with h2
   subst h2
   refine⟨_,by rw[dH,huj];rfl,?_⟩
   rw[dH,eD hji,so]
   simp only[CK]
   have e:aZ P (AS.ev ⟨s.tmps,bD s.H b F⟩) (bD s.H b F) oi.op=some tv:=by
    rw[<- htv]
    refine(rI (fun y hy=>?_) (fun y hy tt ht=>?_)).symm
    ·cases y<;>rfl
    rw[eqi]at hy
    have hy:y= .tmp p:=by simpa[Op.operands] using hy
    subst hy
    cases tt with
    |one z=>
     cases z with
     |ptr a r i0 j0=>
      have:=hl.2 _ hm a r i0 j0 b r' i' j' ht hb
      exact cz (fun hab=>this hab.symm)
     |sl a r off len=>simp only[eqi,aZ,ht]at htv;cases htv
     |p y=>trivial
     |junk=>trivial
    |agg cs=>simp only[eqi,aZ,ht]at htv;cases htv
    |fn f cs=>simp only[eqi,aZ,ht]at htv;cases htv
    |tup ts=>simp only[eqi,aZ,ht]at htv;cases htv
   rw[e]
   simp only[am,ao,d9]
   rw[im _ _ _ (fun k hk hk'=>hd k hk' (by rw[hk]))]
   congr 2
   cases oi.dst<;>rfl
  split at huj'
  ·cases huj'
  simp only[bI,C0]at huj';cases huj'
 cases hp
theorem C2 (hS:Gv P sep ops) {i j:Nat} {oi oj:Oper} {s s1 s':AS} (hp:pV sep ops oi oj=true) (hl:DB sep s) (h1:dR P items ow ops i oi s=some s1) (h2:dR P items ow ops j oj s1=some s'):
  ∃s2,dR P items ow ops j oj s=some s2/\dR P items ow ops i oi s2=some s':=by
 unfold pV at hp
 simp only[Bool.and_eq_true,Bool.or_eq_true]at hp
 obtain⟨ha,hc⟩:=hp
 obtain⟨a1,a2,a3⟩:=Oper.apart_spec ha
 rcases hc with hc|hc
 case inr=>exact FO hS hc hl (fun e he=>a1 e he) (fun e he=>a3 e he) (fun k hk=>a2 k hk) h1 h2
 refine Dj hl.1 (fun e he=>a1 e he) (fun e he=>a3 e he) (fun k hk=>a2 k hk) ?_ h1 h2
 rcases hc with(hc|hc)|hc
 ·exact .inl hc
 ·exact .inr (.inl hc)
 exact .inr (.inr ⟨xQ hc.1,xQ hc.2⟩)
theorem D1 (hS:Gv P sep ops) {i:Nat} {oi:Oper} (hi:ops[i]?=some oi): ∀{l:List Nat} {s s':AS},DB sep s->(∀j∈l,∃oj,ops[j]?=some oj/\pV sep ops oi oj=true)->iS P items ow ops (i::l) s=some s'->
  ∃sm,iS P items ow ops l s=some sm/\kU P items ow ops i sm=some s'
 |[],s,s',_,_,h=>by
  simp only[iS]at h
  obtain⟨s1,h1,h2⟩:=Option.bind_eq_some_iff.1 h
  injection h2 with h2
  subst h2
  exact⟨s,rfl,h1⟩
 |j::l,s,s',hl,hj,h=>by
  simp only[iS]at h
  obtain⟨s1,h1,h⟩:=Option.bind_eq_some_iff.1 h
  obtain⟨s2,h2,h3⟩:=Option.bind_eq_some_iff.1 h
  obtain⟨oj,hoj,hp⟩:=hj j (by simp)
  unfold kU at h1 h2
  rw[hi]at h1
  rw[hoj]at h2
  obtain⟨t1,g1,g2⟩:=C2 hS hp hl h1 h2
  have hr:iS P items ow ops (i::l) t1=some s':=by
   simp only[iS,kU,hi]
   rw[g2]
   exact h3
  obtain⟨sm,k1,k2⟩:=D1 hS hi (xG hS hoj hl g1) (fun j hj'=>hj j (by simp[hj'])) hr
  refine⟨sm,?_,k2⟩
  simp only[iS,kU,hoj]
  rw[g1]
  exact k1
def sQ (n:Nat) (p:Nat->Bool):List Nat:=(List.range n).filter p
def gL (p:Nat->Bool) (i:Nat):Nat->Bool:=fun j=>j==i||p j
theorem qa {n i:Nat} (hi:i<n) (p:Nat->Bool) (hp:p i=false):
  sQ n p=(List.range i).filter p++(List.range' (i+1) (n-i-1)).filter p/\sQ n (gL p i)=(List.range i).filter p++i::(List.range' (i+1) (n-i-1)).filter p:=by
 have hr:List.range n=List.range i++i::List.range' (i+1) (n-i-1):=by
  have h1:=List.range'_append_1 (s:=0) (m:=i) (n:=n-i-1+1)
  rw[show i+(n-i-1+1)=n by omega,Nat.zero_add,List.range'_succ]at h1
  rw[List.range_eq_range',List.range_eq_range']
  exact h1.symm
 unfold sQ
 rw[hr]
 simp only[List.filter_append,List.filter_cons,hp]
 refine⟨by simp,?_⟩
 have e1:(List.range i).filter (gL p i)=(List.range i).filter p:=List.filter_congr fun j hj=>by
  have:j≠i:=by have:=List.mem_range.1 hj;omega
  simp[gL,this]
 have e2:(List.range' (i+1) (n-i-1)).filter (gL p i)=(List.range' (i+1) (n-i-1)).filter p:=List.filter_congr fun j hj=>by
  have:j≠i:=by have:=(List.mem_range'_1.1 hj).1;omega
  simp[gL,this]
 rw[e1,e2]
 simp[gL]
theorem yd (hS:Gv P sep ops) (hd:gJ sep ops=true) {p:Nat->Bool} (hc:GB ops p) {i:Nat} (hi:i<ops.size) (hp:p i=false) {s0 s':AS} (hl:DB sep s0) (h:iS P items ow ops (sQ ops.size (gL p i)) s0=some s'):
  ∃sm,iS P items ow ops (sQ ops.size p) s0=some sm/\kU P items ow ops i sm=some s':=by
 obtain⟨e1,e2⟩:=qa hi p hp
 rw[e2,qz]at h
 obtain⟨s1,h1,h2⟩:=Option.bind_eq_some_iff.1 h
 have ho:ops[i]?=some ops[i]:=by simp[hi]
 obtain⟨sm,k1,k2⟩:=D1 hS ho (Da hS hl h1) (fun j hj=>by
  obtain⟨hj1,hj2⟩:=List.mem_filter.1 hj
  obtain⟨hj3,hj4⟩:=List.mem_range'_1.1 hj1
  have hjn:j<ops.size:=by omega
  refine⟨ops[j],by simp[hjn],?_⟩
  rcases(pK hd).2 i j ops[i] ops[j] (by omega) ho (by simp[hjn])with hb|hb
  ·exact absurd (G4 hc (j+1) j (by omega) hjn hj2 hb) (by simp[hp])
  exact hb) h2
 refine⟨sm,?_,k2⟩
 rw[e1,qz,h1]
 exact k1
theorem Ay {p:Nat->Bool} (hc:GB ops p) {i:Nat} (h: ∀o,ops[i]?=some o-> ∀e∈o.after,Region.binds .any e=true->p e.on=true):GB ops (gL p i):=fun j o ho hj e he hb=>by
 by_cases hji:j=i
 ·subst hji;simp[gL,h o ho e he hb]
 have:p j=true:=by simpa[gL,hji] using hj
 simp[gL,hc j o ho this e he hb]
theorem nJ {n:Nat} {p:Nat->Bool}:(∀j,j<n->p j=true)\/ ∃i,i<n/\p i=false/\ ∀j,j<i->p j=true:=by
 by_cases h: ∃i,i<n/\p i=false
 ·obtain⟨i,⟨hi1,hi2⟩,hi3⟩:=dB h
  refine .inr ⟨i,hi1,hi2,fun j hj=>?_⟩
  cases hpj:p j with
  |true=>rfl
  |false=>have:=hi3 j ⟨by omega,hpj⟩;omega
 refine .inl fun j hj=>?_
 cases hpj:p j with
 |true=>rfl
 |false=>exact absurd ⟨j,hj,hpj⟩ h
theorem FM (hS:Gv P sep ops) (hd:gJ sep ops=true) {s0 sF:AS} (hl:DB sep s0) (hF:iS P items ow ops (List.range ops.size) s0=some sF): ∀(m:Nat) (p:Nat->Bool),((List.range ops.size).filter fun j=>!p j).length<=m->GB ops p-> ∃s,iS P items ow ops (sQ ops.size p) s0=some s:=by
 intro m
 induction m with
 |zero=>
  intro p hm _
  have hall: ∀j,j<ops.size->p j=true:=fun j hj=>by
   cases hpj:p j with
   |true=>rfl
   |false=>
    have:j∈(List.range ops.size).filter fun j=>!p j:=List.mem_filter.2 ⟨List.mem_range.2 hj,by simp[hpj]⟩
    have h0:=List.length_eq_zero_iff.1 (Nat.le_zero.1 hm)
    rw[h0]at this
    simp at this
  refine⟨sF,?_⟩
  unfold sQ
  rw[List.filter_eq_self.2 (fun j hj=>hall j (List.mem_range.1 hj))]
  exact hF
 |succ m ih=>
  intro p hm hc
  rcases nJ (n:=ops.size) (p:=p)with hall|⟨i,hi,hpi,hlt⟩
  ·refine⟨sF,?_⟩
   unfold sQ
   rw[List.filter_eq_self.2 (fun j hj=>hall j (List.mem_range.1 hj))]
   exact hF
  have hc':GB ops (gL p i):=Ay hc fun o ho e he hb=>hlt _ ((pK hd).1 i o ho e he hb)
  have hcount:((List.range ops.size).filter fun j=>!gL p i j).length<=m:=by
   have hsub:((List.range ops.size).filter fun j=>!p j).length=((List.range ops.size).filter fun j=>!gL p i j).length+1:=by
    obtain⟨e1,e2⟩:=qa hi (fun j=>!gL p i j) (by simp[gL])
    have e3:sQ ops.size (gL (fun j=>!gL p i j) i)=(List.range ops.size).filter fun j=>!p j:=List.filter_congr fun j _=>by
     by_cases hji:j=i
     ·subst hji;simp[gL,hpi]
     have:(j==i)=false:=by simpa using hji
     simp only[gL,this,Bool.false_or]
    rw[<- e3,e2]
    show _=(sQ ops.size fun j=>!gL p i j).length+1
    rw[e1]
    simp
    omega
   omega
  obtain⟨s,hs⟩:=ih (gL p i) hcount hc'
  obtain⟨sm,h1,_⟩:=yd hS hd hc hi hpi hl hs
  exact⟨sm,h1⟩
theorem nD: ∀(l:List Oper) (k:Nat) (s:AS),(∀(j:Nat) o,l[j]?=some o->ops[k+j]?=some o)->jG P items ow ops (l.zipIdx k) s=iS P items ow ops (List.range' k l.length) s
 |[],k,s,_=>rfl
 |o::l,k,s,h=>by
  simp only[List.zipIdx_cons,jG,List.length_cons,List.range'_succ,iS]
  have ho:ops[k]?=some o:=by have:=h 0 o rfl;simpa using this
  unfold kU
  rw[ho]
  simp only
  cases dR P items ow ops k o s with
  |none=>rfl
  |some s1=>
   simp only[ao]
   exact nD l (k+1) s1 (fun j o hj=>by have:=h (j+1) o (by simpa using hj);rwa[show k+(j+1)=k+1+j by omega]at this)
theorem nW (hS:Gv P sep ops) (hd:gJ sep ops=true) {Q:Exit->Act->World->Prop} {s0 sF:AS} (R:(Nat->Bool)->AS->Act->World->Prop) (hl:DB sep s0) (hF:iS P items ow ops (List.range ops.size) s0=some sF) (hQ: ∀p a w,(∀j,j<ops.size->p j=true)->R p sF a w->Q .normal a w)
  (hstep: ∀(p:Nat->Bool) (i:Nat) (o:Oper) (s s1:AS) (a:Act) (w:World) (K:Act->World->Prop),ops[i]?=some o->p i=false->dR P items ow ops i o s=some s1->R p s a w->(∀v w',R (gL p i) s1 (a.put o.dst v) w'->K (a.put o.dst v) w')->if Region.wanted o (yielded ops a.tmps)then o.wp P a w K Q else K (a.put o.dst undef) w):
  ∀(fuel:Nat) (listed:Array Bool) (sL:AS) (a:Act) (w:World),listed.size=ops.size->GB ops (fun j=>listed.getD j true)->((List.range ops.size).filter fun j=>!listed.getD j true).length<=fuel->iS P items ow ops (sQ ops.size fun j=>listed.getD j true) s0=some sL->R (fun j=>listed.getD j true) sL a w->
   wpAny P .any ops Q fuel listed a w:=by
 have allQ: ∀(listed:Array Bool) (sL:AS) (a:Act) (w:World),(∀j,j<ops.size->listed.getD j true=true)->iS P items ow ops (sQ ops.size fun j=>listed.getD j true) s0=some sL->R (fun j=>listed.getD j true) sL a w->Q .normal a w:=fun listed sL a w hall hs hr=>by
  unfold sQ at hs
  rw[List.filter_eq_self.2 (fun j hj=>hall j (List.mem_range.1 hj)),hF]at hs
  injection hs with hs
  subst hs
  exact hQ _ a w hall hr
 have readyNil: ∀listed:Array Bool,listed.size=ops.size->Region.ready .any ops listed=[]-> ∀j,j<ops.size->listed.getD j true=true:=fun listed hsz hr=>by
  rcases nJ (n:=ops.size) (p:=fun j=>listed.getD j true)with hall|⟨i,hi,hpi,hlt⟩
  ·exact hall
  exfalso
  have:i∈Region.ready .any ops listed:=mem_ready.2 ⟨hpi,ops[i],by simp[hi],fun e he hb=>by
   have hlt':=(pK hd).1 i ops[i] (by simp[hi]) e he hb
   have:=hlt e.on hlt'
   have hes:e.on<listed.size:=by omega
   simp[hes]at this⊢
   exact this⟩
  rw[hr]at this
  cases this
 intro fuel
 induction fuel with
 |zero=>
  intro listed sL a w hsz hc hm hs hr
  have hall: ∀j,j<ops.size->listed.getD j true=true:=fun j hj=>by
   cases hpj:listed.getD j true with
   |true=>rfl
   |false=>
    have:j∈(List.range ops.size).filter fun j=>!listed.getD j true:=List.mem_filter.2 ⟨List.mem_range.2 hj,by rw[hpj];rfl⟩
    have h0:=List.length_eq_zero_iff.1 (Nat.le_zero.1 hm)
    rw[h0]at this
    simp at this
  refine⟨?_,allQ listed sL a w hall hs hr⟩
  cases hrd:Region.ready .any ops listed with
  |nil=>rfl
  |cons i l=>
   exfalso
   have hi:i∈Region.ready .any ops listed:=by rw[hrd];simp
   obtain⟨h0,o,ho,_⟩:=mem_ready.1 hi
   rw[hall i (Array.getElem?_eq_some_iff.1 ho).1]at h0
   cases h0
 |succ fuel ih=>
  intro listed sL a w hsz hc hm hs hr
  refine⟨fun hrd=>allQ listed sL a w (readyNil listed hsz hrd) hs hr,fun i hi=>?_⟩
  obtain⟨h0,o,ho,hdeps⟩:=mem_ready.1 hi
  have hin:i<ops.size:=(Array.getElem?_eq_some_iff.1 ho).1
  have hset:(fun j=>(listed.setIfInBounds i true).getD j true)=gL (fun j=>listed.getD j true) i:=by
   funext j
   by_cases hji:j=i
   ·subst hji;simp[gL,hsz,hin]
   rw[getD_set_ne true (Ne.symm hji)];simp[gL,hji]
  have hc':GB ops (gL (fun j=>listed.getD j true) i):=Ay hc fun o' ho' e he hb=>by
   rw[ho]at ho'
   injection ho' with ho'
   subst ho'
   have h1:=hdeps e he hb
   have hes:e.on<listed.size:=by
    rcases Nat.lt_or_ge e.on listed.size with h|h
    ·exact h
    simp[Array.getElem?_eq_none h]at h1
   simp[hes]at h1⊢
   exact h1
  obtain⟨s1,hs1⟩:=FM hS hd hl hF _ (gL (fun j=>listed.getD j true) i) (Nat.le_refl _) hc'
  obtain⟨sm,k1,k2⟩:=yd hS hd hc hin h0 hl hs1
  rw[hs]at k1
  injection k1 with k1
  subst k1
  unfold kU at k2
  rw[ho]at k2
  have hcount:((List.range ops.size).filter fun j=>!(listed.setIfInBounds i true).getD j true).length<=fuel:=by
   have e0:((List.range ops.size).filter fun j=>!(listed.setIfInBounds i true).getD j true)=sQ ops.size fun j=>!gL (fun j=>listed.getD j true) i j:=by rw[<- hset];rfl
   rw[e0]
   obtain⟨e1,e2⟩:=qa hin (fun j=>!gL (fun j=>listed.getD j true) i j) (by simp[gL])
   have e3:sQ ops.size (gL (fun j=>!gL (fun j=>listed.getD j true) i j) i)=(List.range ops.size).filter fun j=>!listed.getD j true:=List.filter_congr fun j _=>by
    by_cases hji:j=i
    ·subst hji;simp only[gL,beq_self_eq_true,Bool.true_or,Bool.not_true];rw[h0];rfl
    have:(j==i)=false:=by simpa using hji
    simp only[gL,this,Bool.false_or]
   have hlen:((List.range ops.size).filter fun j=>!listed.getD j true).length=(sQ ops.size fun j=>!gL (fun j=>listed.getD j true) i j).length+1:=by
    rw[<- e3,e2,e1];simp;omega
   omega
  have hst:=hstep (fun j=>listed.getD j true) i o sL s1 a w (wpAny P .any ops Q fuel (listed.setIfInBounds i true)) ho h0 k2 hr (fun v w' hr'=>ih (listed.setIfInBounds i true) s1 _ _ (by simpa using hsz) (by rw[hset];exact hc') hcount (by rw[hset];exact hs1) (by rw[hset];exact hr'))
  unfold wpOp
  rw[ho]
  simp only
  split at hst
  ·rename_i hw;rw[if_pos hw];exact .inl hst
  rename_i hw;rw[if_neg hw];exact hst
theorem Cd (hI:iL P items) (hS:Gv P sep ops) (hd:gJ sep ops=true) {w0:World} {O X:Nat->Prop} {Q:Exit->Act->World->Prop} {s0 sF:AS} (hl:DB sep s0) (hF:iS P items ow ops (List.range ops.size) s0=some sF) (hQ: ∀a w,iW w0 O X sF a w->Q .normal a w):
  ∀(fuel:Nat) (listed:Array Bool) (sL:AS) (a:Act) (w:World),listed.size=ops.size->GB ops (fun j=>listed.getD j true)->((List.range ops.size).filter fun j=>!listed.getD j true).length<=fuel->iS P items ow ops (sQ ops.size fun j=>listed.getD j true) s0=some sL->iW w0 O X sL a w->
   wpAny P .any ops Q fuel listed a w:=
 nW hS hd (fun _ s a w=>iW w0 O X s a w) hl hF (fun _ a w _ hr=>hQ a w hr) (fun _ _ _ _ _ _ _ _ _ _ h hr hK=>jT (Q:=Q) hI hr h hK)
theorem kY (hm:P.follows .mixedOrders=true) (items:List (bj P)) (ow:List Nat) {id:Nat} (hd:gJ sep ops=true) (hz: ∀x∈sep,kh P x.2.2≠some 1) {s:AS} (hs:wF sep s) {Q:Exit->AS->Prop} (hl:s.tmps.length<=1000000) (h:fd P (items.map bj.a) ow (dZ ops ops.toList 0) (some s) (Q .normal)):da P (.region id ops true) Q s:=by
 obtain⟨sF,h1,h2⟩:=eA P (items.map bj.a) ow ops ops.toList 0 s (Q .normal) hl h
 intro w0 O X a w r
 refine wp_region_any hm ?_
 have hF:iS P (items.map bj.a) ow ops (List.range ops.size) s=some sF:=by
  rw[List.range_eq_range']
  have:=nD (P:=P) (items:=items.map bj.a) (ow:=ow) ops.toList 0 s (fun j o hj=>by simpa using hj)
  rw[h1]at this
  simpa using this.symm
 have hr':iW w0 O X s a {w with drawn:=w.drawn+1}:=by
  obtain⟨q1,q2,ρ,hinv,htm⟩:=r
  have e:Ext w {w with drawn:=w.drawn+1}:=⟨rfl,rfl,rfl,Nat.le_refl _,fun _ _=>rfl⟩
  have htm:dN X ρ s a w:=htm
  exact⟨q1,q2,ρ,hinv.grow e,htm.grow e⟩
 refine Cd (bj.ok items) (rF hd hz) hd ⟨mH r,hs⟩ hF (Q:=fun e a' w'=> ∃s',Q e s'/\iW w0 O X s' a' w') (fun a w hr=>⟨sF,h2,hr⟩) ops.size (Array.replicate ops.size false) s a _ (by simp) ?_ ?_ ?_ hr'
 ·intro j o ho hp
  have hj:j<ops.size:=(Array.getElem?_eq_some_iff.1 ho).1
  simp[hj]at hp
 ·exact Nat.le_trans (List.length_filter_le _ _) (by simp)
 have:sQ ops.size (fun j=>(Array.replicate ops.size false).getD j true)=[]:=by
  unfold sQ
  rw[List.filter_eq_nil_iff]
  intro j hj
  have:=List.mem_range.1 hj
  simp[this]
 rw[this]
 rfl
theorem cL (hm:P.follows .mixedOrders=true) (items:List (bj P)) (ow:List Nat) {id:Nat} {y:Code} (hd:gJ [] ops=true) {s:AS} {Q:Exit->AS->Prop} (hl:s.tmps.length<=1000000) (h: ∀K:AS->Prop,(∀s',da P y Q s'->K s')->fd P (items.map bj.a) ow (dZ ops ops.toList 0) (some s) K):da P (.seq (.region id ops true) y) Q s:=
 aP (kY hm items ow hd (by simp) (fun x hx=>by simp at hx) hl (h _ fun _ h=>h))
theorem gP (hm:P.follows .mixedOrders=true) (items:List (bj P)) (ow:List Nat) {id:Nat} (hd:gJ [] ops=true) {s:AS} {Q:Exit->AS->Prop} (hl:s.tmps.length<=1000000) (h: ∀K:AS->Prop,(∀s',Q .normal s'->K s')->fd P (items.map bj.a) ow (dZ ops ops.toList 0) (some s) K):da P (.region id ops true) Q s:=
 kY hm items ow hd (by simp) (fun x hx=>by simp at hx) hl (h _ fun _ h=>h)
theorem rj (sep:List (Nat×Nat×Nat)) (hm:P.follows .mixedOrders=true) (items:List (bj P)) (ow:List Nat) {id:Nat} {y:Code} (hd:gJ sep ops=true) (hz: ∀x∈sep,kh P x.2.2≠some 1) {s:AS} (hs:wF sep s) {Q:Exit->AS->Prop} (hl:s.tmps.length<=1000000) (h: ∀K:AS->Prop,(∀s',da P y Q s'->K s')->fd P (items.map bj.a) ow (dZ ops ops.toList 0) (some s) K):da P (.seq (.region id ops true) y) Q s:=
 aP (kY hm items ow hd hz hs hl (h _ fun _ h=>h))
end
end
end Go.Proofs.YtfgeomlagfomgaaGreatDoor
