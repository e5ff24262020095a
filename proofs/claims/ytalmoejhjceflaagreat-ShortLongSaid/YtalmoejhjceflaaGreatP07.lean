/-
  Part 8 of a proof (walks and plain facts).
-/
import Derived.Test.YtalmoejhjceflaaGreatP06
set_option linter.all false
set_option maxRecDepth 100000
set_option maxHeartbeats 64000000
open Nat renaming le_refl → ae
open List renaming all_eq_true → aj
open List renaming mem_map → am
open List renaming mem_of_getElem? → ax
open List renaming getElem?_map → az
namespace Go.Proofs.YtalmoejhjceflaaGreat
open Go.RowKit
section
def Sa:Op->Bool
 | .store ..=>false
 | .call {callee:= .builtin .append,..}=>false
 |_=>true
theorem tg {P:Program} {op:Op} (h:Sa op=true): ∀e G,eY P e G op=none:=fun e G=>by
 cases op<;>simp only[eY]<;>try rfl
 case store=>cases h
 case call c=>
  obtain⟨callee,args,tys⟩:=c;cases callee with
  |value f=>rfl
  |invoke r m=>rfl
  |builtin b=>cases b<;>first|rfl|cases h
def iz (acc:List Nat):List Edge->Nat
 |[]=>0
 |e::l=>if Region.binds .any e then 2^e.on|||(acc.getD e.on 0|||iz acc l)else iz acc l
def lE:List Oper->List Nat->List Nat
 |[],acc=>acc
 |o::l,acc=>lE l (acc++[iz acc o.after.toList])
def Kg (sep:List (Nat×Nat×Nat)) (oi oj:Oper):Bool:=match oi.op,oj.op with
 | .load _ (.tmp p),.store t (.tmp q) _=>sep.contains (p,q,t)&&oi.guard.isNone&&oj.guard.isNone
 |_,_=>false
def p8 (sep:List (Nat×Nat×Nat)) (ops:Array Oper) (oi oj:Oper):Bool:=oi.apart ops oj&&(mR oi.op||mR oj.op||(Sa oi.op&&Sa oj.op)||Kg sep oi oj)
def Ad (sep:List (Nat×Nat×Nat)) (ops:Array Oper) (oj:Oper) (m:Nat):List Oper->Nat->Bool
 |[],_=>true
 |oi::l,i=>(m.testBit i||p8 sep ops oi oj)&&Ad sep ops oj m l (i+1)
def xO (sep:List (Nat×Nat×Nat)) (ops:Array Oper) (A:List Nat):List Oper->Nat->Bool
 |[],_=>true
 |oj::l,j=>oj.after.all (fun e=>!Region.binds .any e||decide (e.on<j))&&Ad sep ops oj (A.getD j 0) (ops.toList.take j) 0&&xO sep ops A l (j+1)
def cL (sep:List (Nat×Nat×Nat)) (ops:Array Oper):Bool:=xO sep ops (lE ops.toList []) ops.toList 0&&ops.toList.all fun o=>sep.all fun x=>o.dst !=some x.1&&o.dst !=some x.2.1
def EI (sep:List (Nat×Nat×Nat)) (s:AS):Prop:= ∀x∈sep,∀a r i j b r' i' j',s.tmps[x.1]?=some (.one (.ptr a r i j))->s.tmps[x.2.1]?=some (.one (.ptr b r' i' j'))->b≠a
def A6 (sep:List (Nat×Nat×Nat)) (s:AS):Prop:=iw s/\EI sep s
def Dj (P:Program) (sep:List (Nat×Nat×Nat)) (ops:Array Oper):Prop:=(∀x∈sep,gh P x.2.2≠some 1)/\ ∀(j:Nat) o,ops[j]?=some o-> ∀x∈sep,o.dst≠some x.1/\o.dst≠some x.2.1
section
variable {ops:Array Oper} {sep:List (Nat×Nat×Nat)}
theorem vn: ∀(l:List Oper) (acc:List Nat),(lE l acc).length=acc.length+l.length/\(∀k,k<acc.length->(lE l acc)[k]?=acc[k]?)/\
  ∀(j:Nat) o,l[j]?=some o->(lE l acc)[acc.length+j]?=some (iz ((lE l acc).take (acc.length+j)) o.after.toList)
 |[],acc=>⟨by simp[lE],fun k _=>rfl,fun j o h=>by simp at h⟩
 |o::l,acc=>by
  obtain⟨h1,h2,h3⟩:=vn l (acc++[iz acc o.after.toList]);simp only[lE];refine⟨by rw[h1];simp;omega,fun k hk=>by rw[h2 k (by simp;omega),List.getElem?_append_left hk],fun j oj hj=>?_⟩;cases j with
  |zero=>
   simp at hj;subst hj;rw[Nat.add_zero,h2 acc.length (by simp)];have:(lE l (acc++[iz acc o.after.toList])).take acc.length=acc:=by
    apply List.ext_getElem?;intro k;rw[List.getElem?_take];split
    ·rename_i hk;rw[h2 k (by simp;omega),List.getElem?_append_left hk]
    rename_i hk;rw[List.getElem?_eq_none (by omega)]
   rw[this]
   simp
  |succ j=>
   simp at hj;have:=h3 j oj hj;simp only[List.length_append,List.length_cons,List.length_nil]at this;rw[show acc.length+(0+1)+j=acc.length+(j+1) by omega]at this;exact this
theorem lD {acc:List Nat} {i:Nat}: ∀{l:List Edge},(iz acc l).testBit i=true-> ∃e∈l,Region.binds .any e=true/\(e.on=i\/(acc.getD e.on 0).testBit i=true)
 |[],h=>by simp[iz]at h
 |e::l,h=>by
  simp only[iz]at h;split at h
  ·rename_i hb;simp only[Nat.testBit_or,Bool.or_eq_true,Nat.testBit_two_pow,decide_eq_true_eq]at h;rcases h with h|h|h
   ·exact⟨e,by simp,hb,.inl h⟩
   ·exact⟨e,by simp,hb,.inr h⟩
   obtain⟨e',h1,h2⟩:=lD h;exact⟨e',by simp[h1],h2⟩
  obtain⟨e',h1,h2⟩:=lD h;exact⟨e',by simp[h1],h2⟩
def uE (ops:Array Oper) (p:Nat->Bool):Prop:= ∀(j:Nat) o,ops[j]?=some o->p j=true-> ∀e∈o.after,Region.binds .any e=true->p e.on=true
theorem fQ {p:Nat->Bool} (hp:uE ops p) {i:Nat}: ∀(n j:Nat),j<n->j<ops.size->p j=true->((lE ops.toList []).getD j 0).testBit i=true->p i=true:=by
 intro n
 induction n with
 |zero=>intro j h;omega
 |succ n ih=>
  intro j _ hjs hpj hbit;obtain⟨h1,_,h3⟩:=vn ops.toList [];have ho:ops.toList[j]?=some ops[j]:=by simp[hjs]
  have:=h3 j _ ho;simp only[List.length_nil,Nat.zero_add]at this;rw[List.getD_eq_getElem?_getD,this,Option.getD_some]at hbit;obtain⟨e,he,hb,h⟩:=lD hbit;have hpe:=hp j ops[j] (by simp[hjs]) hpj e (by simpa using he) hb;rcases h with rfl|h
  ·exact hpe
  rw[List.getD_eq_getElem?_getD,List.getElem?_take]at h;split at h
  ·rename_i hlt;exact ih e.on (by omega) (by omega) hpe (by rw[List.getD_eq_getElem?_getD];exact h)
  simp at h
theorem tN {oj:Oper} {m:Nat}: ∀{l:List Oper} {i0:Nat},Ad sep ops oj m l i0=true-> ∀(k:Nat) oi,l[k]?=some oi->m.testBit (i0+k)=true\/p8 sep ops oi oj=true
 |[],i0,_,k,oi,h=>by simp at h
 |o::l,i0,h,k,oi,hk=>by
  simp only[Ad,Bool.and_eq_true,Bool.or_eq_true]at h;cases k with
  |zero=>simp at hk;subst hk;exact h.1
  |succ k=>
   simp at hk;have:=tN h.2 k oi hk;rwa[show i0+1+k=i0+(k+1) by omega]at this
theorem l8 {A:List Nat}: ∀{l:List Oper} {j0:Nat},xO sep ops A l j0=true-> ∀(k:Nat) oj,l[k]?=some oj->(∀e∈oj.after,Region.binds .any e=true->e.on<j0+k)/\Ad sep ops oj (A.getD (j0+k) 0) (ops.toList.take (j0+k)) 0=true
 |[],j0,_,k,oj,h=>by simp at h
 |o::l,j0,h,k,oj,hk=>by
  simp only[xO,Bool.and_eq_true]at h;cases k with
  |zero=>
   simp at hk;subst hk;refine⟨fun e he hb=>?_,h.1.2⟩;have:=h.1.1;rw[Array.all_eq_true_iff_forall_mem]at this;have:=this e he;simpa[hb] using this
  |succ k=>
   simp at hk;have:=l8 h.2 k oj hk;rwa[show j0+1+k=j0+(k+1) by omega]at this
theorem iL (h:cL sep ops=true):(∀(j:Nat) o,ops[j]?=some o-> ∀e∈o.after,Region.binds .any e=true->e.on<j)/\
  ∀(i j:Nat) oi oj,i<j->ops[i]?=some oi->ops[j]?=some oj->((lE ops.toList []).getD j 0).testBit i=true\/p8 sep ops oi oj=true:=by
 unfold cL at h;rw[Bool.and_eq_true]at h
 replace h:=h.1
 refine⟨fun j o ho e he hb=>?_,fun i j oi oj hij hi hj=>?_⟩
 ·have:=(l8 h j o (by simpa using ho)).1 e he hb;simpa using this
 have:=(l8 h j oj (by simpa using hj)).2;rw[Nat.zero_add]at this;have:=tN this i oi (by rw[List.getElem?_take,if_pos hij];simpa using hi);rwa[Nat.zero_add]at this
variable {P:Program} {items:List (cQ P)} {ow:List Nat}
noncomputable def co (P:Program) (items:List (cQ P)) (ow:List Nat) (ops:Array Oper) (i:Nat) (s:AS):Option AS:=match ops[i]? with
 |some o=>bf P items ow ops i o s
 |none=>none
noncomputable def cn (P:Program) (items:List (cQ P)) (ow:List Nat) (ops:Array Oper):List Nat->AS->Option AS
 |[],s=>some s
 |i::l,s=>(co P items ow ops i s).bind (cn P items ow ops l)
theorem eP (l m:List Nat) (s:AS):cn P items ow ops (l++m) s=(cn P items ow ops l s).bind (cn P items ow ops m):=by
 induction l generalizing s with
 |nil=>rfl
 |cons i l ih=>
  simp only[List.cons_append,cn];cases co P items ow ops i s with
  |none=>rfl
  |some s1=>exact ih s1
theorem ia (h:cL sep ops=true) (hz: ∀x∈sep,gh P x.2.2≠some 1):Dj P sep ops:=⟨hz,fun j o ho x hx=>by
 unfold cL at h;rw[Bool.and_eq_true,aj]at h;have h1:=h.2 o (by simpa using Array.mem_of_getElem? ho);rw[aj]at h1;have h2:=h1 x hx;simpa using h2⟩
theorem xI {s:AS} {d:Option Tmp} {t:TV} (hl:EI sep s) (hd: ∀x∈sep,d≠some x.1/\d≠some x.2.1):EI sep (s.put d t):=fun x hx a r i j b r' i' j' h1 h2=>by
 rw[j7 s d t x.1 (fun e he hex=>(hd x hx).1 (by rw[he,hex]))]at h1;rw[j7 s d t x.2.1 (fun e he hex=>(hd x hx).2 (by rw[he,hex]))]at h2;exact hl x hx a r i j b r' i' j' h1 h2
theorem zr {k:Nat->Nat->Bool} {t:TV} {a r i j:Nat} (h:a7 k t= .one (.ptr a r i j)):t= .one (.ptr a r i j):=by
 cases t with
 |one x=>cases x<;>simp only[a7,a6]at h<;>(try split at h)<;>simp_all
 |agg cs=>cases h
 |fn f cs=>cases h
 |tup ts=>cases h
theorem I0 {tm:List TV} {H H':OH} {k:Nat->Nat->Bool} (hl:EI sep ⟨tm,H⟩):EI sep ⟨tm.map (a7 k),H'⟩:=fun x hx a r i j b r' i' j' h1 h2=>by
 simp only[az]at h1 h2;obtain⟨t1,g1,g2⟩:=Option.map_eq_some_iff.1 h1;obtain⟨t2,g3,g4⟩:=Option.map_eq_some_iff.1 h2;rw[zr g2]at g1;rw[zr g4]at g3;exact hl x hx a r i j b r' i' j' g1 g3
theorem zB (hS:Dj P sep ops) {i:Nat} {o:Oper} {s s1:AS} (ho:ops[i]?=some o) (hl:A6 sep s) (h:bf P items ow ops i o s=some s1):A6 sep s1:=by
 refine⟨wQ hl.1 h,?_⟩;have hd:=hS.2 i o ho;rw[bM]at h;obtain⟨out,_,h⟩:=Option.bind_eq_some_iff.1 h;cases out with
 |val t=>simp only[b8]at h;injection h with h;subst h;exact xI hl.2 hd
 |new t o' l=>
  simp only[b8]at h;split at h
  ·rename_i e he;split at h
   ·injection h with h;subst h
    rw[<- he];exact xI (s:=⟨s.tmps,_⟩) hl.2 hd
   cases h
  cases h
 |wr q=>simp only[b8]at h;injection h with h;subst h;exact xI (I0 (H:=s.H) hl.2) hd
theorem Ge (hS:Dj P sep ops) {l:List Nat} {s s':AS} (hl:A6 sep s) (h:cn P items ow ops l s=some s'):A6 sep s':=by
 induction l generalizing s with
 |nil=>simp only[cn]at h;injection h with h;subst h;exact hl
 |cons i l ih=>
  simp only[cn]at h;obtain⟨s1,h1,h2⟩:=Option.bind_eq_some_iff.1 h;unfold co at h1;split at h1
  ·rename_i o ho;exact ih (zB hS ho hl h1) h2
  cases h1
theorem FC (tm:List TV):tm.map (a7 fun _ _=>false)=tm:=by
 conv=>rhs;rw[<- List.map_id tm]
 exact List.map_congr_left fun t _=>kC t
theorem CD {s:AS} {t:TypeId} {ad x:Operand} {q:A3} (hn:gh P t≠some 1) (h:eY P s.ev s.H (.store t ad x)=some q): ∃b r i j F,s.ev ad=some (.one (.ptr b r i j))/\q=⟨.undef,aJ s.H b F,fun _ _=>false⟩:=by
 simp only[eY]at h;split at h
 ·rename_i a r i j n had hsz;have hn1:n≠1:=fun e=>hn (by rw[hsz,e])
  split at h
  ·split at h
   ·split at h
    ·split at h
     ·split at h
      ·rename_i hc;exact absurd hc.1 hn1
      cases h
     split at h
     ·split at h
      ·rename_i hc;exact absurd hc.2.2.2.2.1 hn1
      cases h
     cases h
    ·split at h
     ·split at h
      ·rename_i hc;exact absurd hc.1 hn1
      cases h
     cases h
    ·split at h
     ·split at h
      ·injection h with h;exact⟨a,r,i,j,_,had,h.symm⟩
      cases h
     cases h
    cases h
   cases h
  cases h
 cases h
theorem Kh (hS:Dj P sep ops) {i j:Nat} {oi oj:Oper} {s s1 s':AS} (hp:Kg sep oi oj=true) (hl:A6 sep s) (hij:jD ops oj oi.dst) (hji:jD ops oi oj.dst) (hd: ∀k,oi.dst=some k->oj.dst≠some k)
  (h1:bf P items ow ops i oi s=some s1) (h2:bf P items ow ops j oj s1=some s'): ∃s2,bf P items ow ops j oj s=some s2/\bf P items ow ops i oi s2=some s':=by
 unfold Kg at hp;split at hp
 ·rename_i ty p t q x eqi eqj;simp only[Bool.and_eq_true]at hp;obtain⟨⟨hm,gi⟩,gj⟩:=hp;have hm:(p,q,t)∈sep:=by simpa using hm
  have gi:oi.guard=none:=by simpa using gi
  have gj:oj.guard=none:=by simpa using gj
  rw[bM]at h1 h2;obtain⟨ui,hui,h1⟩:=Option.bind_eq_some_iff.1 h1;obtain⟨uj,huj,h2⟩:=Option.bind_eq_some_iff.1 h2;have so: ∀s,cw P items ow ops i oi s=(bQ P s.ev s.H oi.op).map .val:=fun s=>by
   unfold cw gate jv;rw[gi];simp only;rw[eqi];simp only[mR,uC,Bool.false_eq_true,if_false,if_true]
  rw[so]at hui;obtain⟨tv,htv,rfl⟩:=Option.map_eq_some_iff.1 hui;simp only[b8]at h1;injection h1 with h1
  subst h1;rw[ck hij]at huj;have huj':=huj;unfold cw gate jv at huj';rw[gj]at huj';simp only at huj';rw[eqj]at huj';simp only[mR,uC,Bool.false_eq_true,if_false]at huj';split at huj'
  ·rename_i qq hqq;injection huj' with huj'
   subst huj';obtain⟨b,r',i',j',F,hb,rfl⟩:=CD (hS.1 _ hm) hqq;simp only[b8]at h2;injection h2 with h2
   subst h2;refine⟨_,by rw[bM,huj];rfl,?_⟩;rw[bM,ck hji,so];simp only[FC];have e:bQ P (AS.ev ⟨s.tmps,aJ s.H b F⟩) (aJ s.H b F) oi.op=some tv:=by
    rw[<- htv];refine(sw (fun y hy=>?_) (fun y hy tt ht=>?_)).symm
    ·cases y<;>rfl
    rw[eqi]at hy;have hy:y= .tmp p:=by simpa[Op.operands] using hy
    subst hy;cases tt with
    |one z=>
     cases z with
     |ptr a r i0 j0=>
      have:=hl.2 _ hm a r i0 j0 b r' i' j' ht hb;exact aN (fun hab=>this hab.symm)
     |sl a r off len=>simp only[eqi,bQ,ht]at htv;cases htv
     |p y=>trivial
     |junk=>trivial
     |fn=>simp only[eqi,bQ,ht]at htv;cases htv
    |agg cs=>simp only[eqi,bQ,ht]at htv;cases htv
    |fn f cs=>simp only[eqi,bQ,ht]at htv;cases htv
    |tup ts=>simp only[eqi,bQ,ht]at htv;cases htv
   rw[e];simp only[Option.map_some,Option.bind_some,b8];rw[fg _ _ _ (fun k hk hk'=>hd k hk' (by rw[hk]))]
   congr 2
   cases oi.dst<;>rfl
  split at huj'
  ·cases huj'
  simp only[cf,Co]at huj';cases huj'
 cases hp
theorem F5 (hS:Dj P sep ops) {i j:Nat} {oi oj:Oper} {s s1 s':AS} (hp:p8 sep ops oi oj=true) (hl:A6 sep s) (h1:bf P items ow ops i oi s=some s1) (h2:bf P items ow ops j oj s1=some s'):
  ∃s2,bf P items ow ops j oj s=some s2/\bf P items ow ops i oi s2=some s':=by
 unfold p8 at hp;simp only[Bool.and_eq_true,Bool.or_eq_true]at hp;obtain⟨ha,hc⟩:=hp;obtain⟨a1,a2,a3⟩:=Oper.apart_spec ha;rcases hc with hc|hc
 case inr=>exact Kh hS hc hl (fun e he=>a1 e he) (fun e he=>a3 e he) (fun k hk=>a2 k hk) h1 h2
 refine Gv hl.1 (fun e he=>a1 e he) (fun e he=>a3 e he) (fun k hk=>a2 k hk) ?_ h1 h2;rcases hc with(hc|hc)|hc
 ·exact .inl hc
 ·exact .inr (.inl hc)
 exact .inr (.inr ⟨tg hc.1,tg hc.2⟩)
theorem If (hS:Dj P sep ops) {i:Nat} {oi:Oper} (hi:ops[i]?=some oi): ∀{l:List Nat} {s s':AS},A6 sep s->(∀j∈l,∃oj,ops[j]?=some oj/\p8 sep ops oi oj=true)->cn P items ow ops (i::l) s=some s'->
  ∃sm,cn P items ow ops l s=some sm/\co P items ow ops i sm=some s'
 |[],s,s',_,_,h=>by
  simp only[cn]at h;obtain⟨s1,h1,h2⟩:=Option.bind_eq_some_iff.1 h;injection h2 with h2
  subst h2;exact⟨s,rfl,h1⟩
 |j::l,s,s',hl,hj,h=>by
  simp only[cn]at h;obtain⟨s1,h1,h⟩:=Option.bind_eq_some_iff.1 h;obtain⟨s2,h2,h3⟩:=Option.bind_eq_some_iff.1 h;obtain⟨oj,hoj,hp⟩:=hj j (by simp);unfold co at h1 h2;rw[hi]at h1;rw[hoj]at h2;obtain⟨t1,g1,g2⟩:=F5 hS hp hl h1 h2;have hr:cn P items ow ops (i::l) t1=some s':=by
   simp only[cn,co,hi];rw[g2];exact h3
  obtain⟨sm,k1,k2⟩:=If hS hi (zB hS hoj hl g1) (fun j hj'=>hj j (by simp[hj'])) hr;refine⟨sm,?_,k2⟩;simp only[cn,co,hoj];rw[g1];exact k1
def i8 (n:Nat) (p:Nat->Bool):List Nat:=(List.range n).filter p
def cq (p:Nat->Bool) (i:Nat):Nat->Bool:=fun j=>j==i||p j
theorem qj {n i:Nat} (hi:i<n) (p:Nat->Bool) (hp:p i=false):
  i8 n p=(List.range i).filter p++(List.range' (i+1) (n-i-1)).filter p/\i8 n (cq p i)=(List.range i).filter p++i::(List.range' (i+1) (n-i-1)).filter p:=by
 have hr:List.range n=List.range i++i::List.range' (i+1) (n-i-1):=by
  have h1:=List.range'_append_1 (s:=0) (m:=i) (n:=n-i-1+1);rw[show i+(n-i-1+1)=n by omega,Nat.zero_add,List.range'_succ]at h1;rw[List.range_eq_range',List.range_eq_range'];exact h1.symm
 unfold i8;rw[hr];simp only[List.filter_append,List.filter_cons,hp];refine⟨by simp,?_⟩;have e1:(List.range i).filter (cq p i)=(List.range i).filter p:=List.filter_congr fun j hj=>by
  have:j≠i:=by have:=List.mem_range.1 hj;omega
  simp[cq,this]
 have e2:(List.range' (i+1) (n-i-1)).filter (cq p i)=(List.range' (i+1) (n-i-1)).filter p:=List.filter_congr fun j hj=>by
  have:j≠i:=by have:=(List.mem_range'_1.1 hj).1;omega
  simp[cq,this]
 rw[e1,e2];simp[cq]
theorem t8 (hS:Dj P sep ops) (hd:cL sep ops=true) {p:Nat->Bool} (hc:uE ops p) {i:Nat} (hi:i<ops.size) (hp:p i=false) {s0 s':AS} (hl:A6 sep s0) (h:cn P items ow ops (i8 ops.size (cq p i)) s0=some s'):
  ∃sm,cn P items ow ops (i8 ops.size p) s0=some sm/\co P items ow ops i sm=some s':=by
 obtain⟨e1,e2⟩:=qj hi p hp;rw[e2,eP]at h;obtain⟨s1,h1,h2⟩:=Option.bind_eq_some_iff.1 h;have ho:ops[i]?=some ops[i]:=by simp[hi]
 obtain⟨sm,k1,k2⟩:=If hS ho (Ge hS hl h1) (fun j hj=>by
  obtain⟨hj1,hj2⟩:=List.mem_filter.1 hj;obtain⟨hj3,hj4⟩:=List.mem_range'_1.1 hj1;have hjn:j<ops.size:=by omega
  refine⟨ops[j],by simp[hjn],?_⟩;rcases(iL hd).2 i j ops[i] ops[j] (by omega) ho (by simp[hjn])with hb|hb
  ·exact absurd (fQ hc (j+1) j (by omega) hjn hj2 hb) (by simp[hp])
  exact hb) h2
 refine⟨sm,?_,k2⟩;rw[e1,eP,h1];exact k1
theorem w7 {p:Nat->Bool} (hc:uE ops p) {i:Nat} (h: ∀o,ops[i]?=some o-> ∀e∈o.after,Region.binds .any e=true->p e.on=true):uE ops (cq p i):=fun j o ho hj e he hb=>by
 by_cases hji:j=i
 ·subst hji;simp[cq,h o ho e he hb]
 have:p j=true:=by simpa[cq,hji] using hj
 simp[cq,hc j o ho this e he hb]
theorem mS {n:Nat} {p:Nat->Bool}:(∀j,j<n->p j=true)\/ ∃i,i<n/\p i=false/\ ∀j,j<i->p j=true:=by
 by_cases h: ∃i,i<n/\p i=false
 ·obtain⟨i,⟨hi1,hi2⟩,hi3⟩:=bF h;refine .inr ⟨i,hi1,hi2,fun j hj=>?_⟩;cases hpj:p j with
  |true=>rfl
  |false=>have:=hi3 j ⟨by omega,hpj⟩;omega
 refine .inl fun j hj=>?_
 cases hpj:p j with
 |true=>rfl
 |false=>exact absurd ⟨j,hj,hpj⟩ h
theorem Ke (hS:Dj P sep ops) (hd:cL sep ops=true) {s0 sF:AS} (hl:A6 sep s0) (hF:cn P items ow ops (List.range ops.size) s0=some sF): ∀(m:Nat) (p:Nat->Bool),((List.range ops.size).filter fun j=>!p j).length<=m->uE ops p-> ∃s,cn P items ow ops (i8 ops.size p) s0=some s:=by
 intro m
 induction m with
 |zero=>
  intro p hm _;have hall: ∀j,j<ops.size->p j=true:=fun j hj=>by
   cases hpj:p j with
   |true=>rfl
   |false=>
    have:j∈(List.range ops.size).filter fun j=>!p j:=List.mem_filter.2 ⟨List.mem_range.2 hj,by simp[hpj]⟩
    have h0:=List.length_eq_zero_iff.1 (Nat.le_zero.1 hm);rw[h0]at this;simp at this
  refine⟨sF,?_⟩;unfold i8;rw[List.filter_eq_self.2 (fun j hj=>hall j (List.mem_range.1 hj))];exact hF
 |succ m ih=>
  intro p hm hc;rcases mS (n:=ops.size) (p:=p)with hall|⟨i,hi,hpi,hlt⟩
  ·refine⟨sF,?_⟩;unfold i8;rw[List.filter_eq_self.2 (fun j hj=>hall j (List.mem_range.1 hj))];exact hF
  have hc':uE ops (cq p i):=w7 hc fun o ho e he hb=>hlt _ ((iL hd).1 i o ho e he hb)
  have hcount:((List.range ops.size).filter fun j=>!cq p i j).length<=m:=by
   have hsub:((List.range ops.size).filter fun j=>!p j).length=((List.range ops.size).filter fun j=>!cq p i j).length+1:=by
    obtain⟨e1,e2⟩:=qj hi (fun j=>!cq p i j) (by simp[cq]);have e3:i8 ops.size (cq (fun j=>!cq p i j) i)=(List.range ops.size).filter fun j=>!p j:=List.filter_congr fun j _=>by
     by_cases hji:j=i
     ·subst hji;simp[cq,hpi]
     have:(j==i)=false:=by simpa using hji
     simp only[cq,this,Bool.false_or]
    rw[<- e3,e2];show _=(i8 ops.size fun j=>!cq p i j).length+1;rw[e1]
    simp;omega
   omega
  obtain⟨s,hs⟩:=ih (cq p i) hcount hc';obtain⟨sm,h1,_⟩:=t8 hS hd hc hi hpi hl hs;exact⟨sm,h1⟩
theorem dW: ∀(l:List Oper) (k:Nat) (s:AS),(∀(j:Nat) o,l[j]?=some o->ops[k+j]?=some o)->eD P items ow ops (l.zipIdx k) s=cn P items ow ops (List.range' k l.length) s
 |[],k,s,_=>rfl
 |o::l,k,s,h=>by
  simp only[List.zipIdx_cons,eD,List.length_cons,List.range'_succ,cn];have ho:ops[k]?=some o:=by have:=h 0 o rfl;simpa using this
  unfold co;rw[ho];simp only;cases bf P items ow ops k o s with
  |none=>rfl
  |some s1=>
   simp only[Option.bind_some];exact dW l (k+1) s1 (fun j o hj=>by have:=h (j+1) o (by simpa using hj);rwa[show k+(j+1)=k+1+j by omega]at this)
def m6 (ops:Array Oper) (Qn:Act->World->Prop) (Wp:Nat->(Act->World->Prop)->Act->World->Prop):Nat->Array Bool->Act->World->Prop
 |0,listed,a,w=>Region.ready .any ops listed=[]/\Qn a w
 |f+1,listed,a,w=>(Region.ready .any ops listed=[]->Qn a w)/\ ∀i∈Region.ready .any ops listed,Wp i (m6 ops Qn Wp f (listed.setIfInBounds i true)) a w
theorem yH {Q:Exit->Act->World->Prop}: ∀f,m6 ops (Q .normal) (fun i K a w=>wpOp P ops Q i K a w) f=wpAny P .any ops Q f
 |0=>rfl
 |f+1=>by
  funext l a w;simp only[m6,wpAny,yH f]
theorem gB (hS:Dj P sep ops) (hd:cL sep ops=true) {Qn:Act->World->Prop} {Wp:Nat->(Act->World->Prop)->Act->World->Prop} {s0 sF:AS} (R:(Nat->Bool)->AS->Act->World->Prop) (hl:A6 sep s0) (hF:cn P items ow ops (List.range ops.size) s0=some sF) (hQ: ∀p a w,(∀j,j<ops.size->p j=true)->R p sF a w->Qn a w)
  (hstep: ∀(p:Nat->Bool) (i:Nat) (o:Oper) (s s1:AS) (a:Act) (w:World) (K:Act->World->Prop),ops[i]?=some o->p i=false->uE ops p/\uE ops (cq p i)/\cn P items ow ops (i8 ops.size p) s0=some s->bf P items ow ops i o s=some s1->R p s a w->(∀v w',R (cq p i) s1 (a.put o.dst v) w'->K (a.put o.dst v) w')->Wp i K a w):
  ∀(fuel:Nat) (listed:Array Bool) (sL:AS) (a:Act) (w:World),listed.size=ops.size->uE ops (fun j=>listed.getD j true)->((List.range ops.size).filter fun j=>!listed.getD j true).length<=fuel->cn P items ow ops (i8 ops.size fun j=>listed.getD j true) s0=some sL->R (fun j=>listed.getD j true) sL a w->
   m6 ops Qn Wp fuel listed a w:=by
 have allQ: ∀(listed:Array Bool) (sL:AS) (a:Act) (w:World),(∀j,j<ops.size->listed.getD j true=true)->cn P items ow ops (i8 ops.size fun j=>listed.getD j true) s0=some sL->R (fun j=>listed.getD j true) sL a w->Qn a w:=fun listed sL a w hall hs hr=>by
  unfold i8 at hs;rw[List.filter_eq_self.2 (fun j hj=>hall j (List.mem_range.1 hj)),hF]at hs;injection hs with hs
  subst hs;exact hQ _ a w hall hr
 have readyNil: ∀listed:Array Bool,listed.size=ops.size->Region.ready .any ops listed=[]-> ∀j,j<ops.size->listed.getD j true=true:=fun listed hsz hr=>by
  rcases mS (n:=ops.size) (p:=fun j=>listed.getD j true)with hall|⟨i,hi,hpi,hlt⟩
  ·exact hall
  exfalso;have:i∈Region.ready .any ops listed:=mem_ready.2 ⟨hpi,ops[i],by simp[hi],fun e he hb=>by
   have hlt':=(iL hd).1 i ops[i] (by simp[hi]) e he hb;have:=hlt e.on hlt';have hes:e.on<listed.size:=by omega
   simp[hes]at this⊢;exact this⟩
  rw[hr]at this;cases this
 intro fuel
 induction fuel with
 |zero=>
  intro listed sL a w hsz hc hm hs hr;have hall: ∀j,j<ops.size->listed.getD j true=true:=fun j hj=>by
   cases hpj:listed.getD j true with
   |true=>rfl
   |false=>
    have:j∈(List.range ops.size).filter fun j=>!listed.getD j true:=List.mem_filter.2 ⟨List.mem_range.2 hj,by rw[hpj];rfl⟩
    have h0:=List.length_eq_zero_iff.1 (Nat.le_zero.1 hm);rw[h0]at this;simp at this
  refine⟨?_,allQ listed sL a w hall hs hr⟩;cases hrd:Region.ready .any ops listed with
  |nil=>rfl
  |cons i l=>
   exfalso;have hi:i∈Region.ready .any ops listed:=by rw[hrd];simp
   obtain⟨h0,o,ho,_⟩:=mem_ready.1 hi;rw[hall i (Array.getElem?_eq_some_iff.1 ho).1]at h0;cases h0
 |succ fuel ih=>
  intro listed sL a w hsz hc hm hs hr;refine⟨fun hrd=>allQ listed sL a w (readyNil listed hsz hrd) hs hr,fun i hi=>?_⟩;obtain⟨h0,o,ho,hdeps⟩:=mem_ready.1 hi;have hin:i<ops.size:=(Array.getElem?_eq_some_iff.1 ho).1;have hset:(fun j=>(listed.setIfInBounds i true).getD j true)=cq (fun j=>listed.getD j true) i:=by
   funext j;by_cases hji:j=i
   ·subst hji;simp[cq,hsz,hin]
   rw[getD_set_ne true (Ne.symm hji)];simp[cq,hji]
  have hc':uE ops (cq (fun j=>listed.getD j true) i):=w7 hc fun o' ho' e he hb=>by
   rw[ho]at ho';injection ho' with ho'
   subst ho';have h1:=hdeps e he hb;have hes:e.on<listed.size:=by
    rcases Nat.lt_or_ge e.on listed.size with h|h
    ·exact h
    simp[Array.getElem?_eq_none h]at h1
   simp[hes]at h1⊢;exact h1
  obtain⟨s1,hs1⟩:=Ke hS hd hl hF _ (cq (fun j=>listed.getD j true) i) (ae _) hc';obtain⟨sm,k1,k2⟩:=t8 hS hd hc hin h0 hl hs1;rw[hs]at k1;injection k1 with k1
  subst k1;unfold co at k2;rw[ho]at k2;have hcount:((List.range ops.size).filter fun j=>!(listed.setIfInBounds i true).getD j true).length<=fuel:=by
   have e0:((List.range ops.size).filter fun j=>!(listed.setIfInBounds i true).getD j true)=i8 ops.size fun j=>!cq (fun j=>listed.getD j true) i j:=by rw[<- hset];rfl
   rw[e0];obtain⟨e1,e2⟩:=qj hin (fun j=>!cq (fun j=>listed.getD j true) i j) (by simp[cq]);have e3:i8 ops.size (cq (fun j=>!cq (fun j=>listed.getD j true) i j) i)=(List.range ops.size).filter fun j=>!listed.getD j true:=List.filter_congr fun j _=>by
    by_cases hji:j=i
    ·subst hji;simp only[cq,beq_self_eq_true,Bool.true_or,Bool.not_true];rw[h0];rfl
    have:(j==i)=false:=by simpa using hji
    simp only[cq,this,Bool.false_or]
   have hlen:((List.range ops.size).filter fun j=>!listed.getD j true).length=(i8 ops.size fun j=>!cq (fun j=>listed.getD j true) i j).length+1:=by
    rw[<- e3,e2,e1];simp;omega
   omega
  have hst:=hstep (fun j=>listed.getD j true) i o sL s1 a w (m6 ops Qn Wp fuel (listed.setIfInBounds i true)) ho h0 ⟨hc,hc',hs⟩ k2 hr (fun v w' hr'=>ih (listed.setIfInBounds i true) s1 _ _ (by simpa using hsz) (by rw[hset];exact hc') hcount (by rw[hset];exact hs1) (by rw[hset];exact hr'));exact hst
theorem m7 (hS:Dj P sep ops) (hd:cL sep ops=true) {Q:Exit->Act->World->Prop} {s0 sF:AS} (R:(Nat->Bool)->AS->Act->World->Prop) (hl:A6 sep s0) (hF:cn P items ow ops (List.range ops.size) s0=some sF) (hQ: ∀p a w,(∀j,j<ops.size->p j=true)->R p sF a w->Q .normal a w)
  (hstep: ∀(p:Nat->Bool) (i:Nat) (o:Oper) (s s1:AS) (a:Act) (w:World) (K:Act->World->Prop),ops[i]?=some o->p i=false->uE ops p/\uE ops (cq p i)/\cn P items ow ops (i8 ops.size p) s0=some s->bf P items ow ops i o s=some s1->R p s a w->(∀v w',R (cq p i) s1 (a.put o.dst v) w'->K (a.put o.dst v) w')->if Region.wanted o (yielded ops a.tmps)then o.wp P a w K Q else K (a.put o.dst undef) w):
  ∀(fuel:Nat) (listed:Array Bool) (sL:AS) (a:Act) (w:World),listed.size=ops.size->uE ops (fun j=>listed.getD j true)->((List.range ops.size).filter fun j=>!listed.getD j true).length<=fuel->cn P items ow ops (i8 ops.size fun j=>listed.getD j true) s0=some sL->R (fun j=>listed.getD j true) sL a w->
   wpAny P .any ops Q fuel listed a w:=fun fuel listed sL a w h1 h2 h3 h4 h5=>by
 rw[<- yH];refine gB hS hd R hl hF hQ (fun p i o s s1 a w K ho h1 h2 h3 h4 h5=>?_) fuel listed sL a w h1 h2 h3 h4 h5;have hst:=hstep p i o s s1 a w K ho h1 h2 h3 h4 h5;unfold wpOp;rw[ho];simp only;split at hst
 ·rename_i hw;rw[if_pos hw];exact .inl hst
 rename_i hw;rw[if_neg hw];exact hst
theorem ET (hI:fL P items) (hS:Dj P sep ops) (hd:cL sep ops=true) {w0:World} {O X:Nat->Prop} {Q:Exit->Act->World->Prop} {s0 sF:AS} (hl:A6 sep s0) (hF:cn P items ow ops (List.range ops.size) s0=some sF) (hQ: ∀a w,cW w0 O X sF a w->Q .normal a w):
  ∀(fuel:Nat) (listed:Array Bool) (sL:AS) (a:Act) (w:World),listed.size=ops.size->uE ops (fun j=>listed.getD j true)->((List.range ops.size).filter fun j=>!listed.getD j true).length<=fuel->cn P items ow ops (i8 ops.size fun j=>listed.getD j true) s0=some sL->cW w0 O X sL a w->
   wpAny P .any ops Q fuel listed a w:=
 m7 hS hd (fun _ s a w=>cW w0 O X s a w) hl hF (fun _ a w _ hr=>hQ a w hr) (fun _ _ _ _ _ _ _ _ _ _ _ h hr hK=>gA (Q:=Q) hI hr h hK)
theorem vd (hm:P.follows .mixedOrders=true) (items:List (aH P)) (ow:List Nat) {id:Nat} (hd:cL sep ops=true) (hz: ∀x∈sep,gh P x.2.2≠some 1) {s:AS} (hs:EI sep s) {Q:Exit->AS->Prop} (h:ca P (items.map aH.a) ow (bC ops ops.toList 0) (some s) (Q .normal)):bu P (.region id ops true) Q s:=by
 obtain⟨sF,h1,h2⟩:=bi P (items.map aH.a) ow ops ops.toList 0 s (Q .normal) h;intro w0 O X a w r;refine wp_region_any hm ?_;have hF:cn P (items.map aH.a) ow ops (List.range ops.size) s=some sF:=by
  rw[List.range_eq_range'];have:=dW (P:=P) (items:=items.map aH.a) (ow:=ow) ops.toList 0 s (fun j o hj=>by simpa using hj);rw[h1]at this;simpa using this.symm
 have hr':cW w0 O X s a {w with drawn:=w.drawn+1}:=by
  obtain⟨q1,q2,ρ,hinv,htm⟩:=r;have e:Ext w {w with drawn:=w.drawn+1}:=⟨rfl,rfl,rfl,ae _,fun _ _=>rfl⟩;have htm:bq X ρ s a w:=htm;exact⟨q1,q2,ρ,hinv.grow e,htm.grow e⟩
 refine ET (aH.ok items) (ia hd hz) hd ⟨cO r,hs⟩ hF (Q:=fun e a' w'=> ∃s',Q e s'/\cW w0 O X s' a' w') (fun a w hr=>⟨sF,h2,hr⟩) ops.size (Array.replicate ops.size false) s a _ (by simp) ?_ ?_ ?_ hr'
 ·intro j o ho hp;have hj:j<ops.size:=(Array.getElem?_eq_some_iff.1 ho).1;simp[hj]at hp
 ·exact Nat.le_trans (List.length_filter_le _ _) (by simp)
 have:i8 ops.size (fun j=>(Array.replicate ops.size false).getD j true)=[]:=by
  unfold i8;rw[List.filter_eq_nil_iff];intro j hj;have:=List.mem_range.1 hj;simp[this]
 rw[this];rfl
theorem gp (hm:P.follows .mixedOrders=true) (items:List (aH P)) (ow:List Nat) {id:Nat} {y:Code} (hd:cL [] ops=true) {s:AS} {Q:Exit->AS->Prop} (h: ∀K:AS->Prop,(∀s',bu P y Q s'->K s')->ca P (items.map aH.a) ow (bC ops ops.toList 0) (some s) K):bu P (.seq (.region id ops true) y) Q s:=
 aG (vd hm items ow hd (by simp) (fun x hx=>by simp at hx) (h _ fun _ h=>h))
theorem me (hm:P.follows .mixedOrders=true) (items:List (aH P)) (ow:List Nat) {id:Nat} (hd:cL [] ops=true) {s:AS} {Q:Exit->AS->Prop} (h: ∀K:AS->Prop,(∀s',Q .normal s'->K s')->ca P (items.map aH.a) ow (bC ops ops.toList 0) (some s) K):bu P (.region id ops true) Q s:=
 vd hm items ow hd (by simp) (fun x hx=>by simp at hx) (h _ fun _ h=>h)
theorem dH (hm:P.follows .mixedOrders=true) {y:Code} {id:Nat} {ops:Array Oper} {s:AS} {Q:Exit->AS->Prop} (hd:cL [] ops=true) (h: ∀K:AS->Prop,(∀s',bu P y Q s'->K s')->ca P [] [] (bC ops ops.toList 0) (some s) K):bu P (.seq (.region id ops true) y) Q s:=gp hm [] [] hd h
theorem kv (hm:P.follows .mixedOrders=true) {id:Nat} {ops:Array Oper} {s:AS} {Q:Exit->AS->Prop} (hd:cL [] ops=true) (h: ∀K:AS->Prop,(∀s',Q .normal s'->K s')->ca P [] [] (bC ops ops.toList 0) (some s) K):bu P (.region id ops true) Q s:=me hm [] [] hd h
end
end
section
def Ll:PV->PV
 | .raw (.slice none 0 0)=> .sl []
 |x=>x
def Ld:AV->AV
 | .p x=> .p (Ll x)
 |x=>x
def zO (o:OObj):OObj:={o with elems:=o.elems.map (List.map Ld)}
theorem N5 {X:Nat->Prop} {w:World} {x:PV} {v:Value} (h:bX X w x v):bX X w (Ll x) v:=by
 unfold Ll;split
 ·cases h;exact .nil none 0
 exact h
theorem N4 {ρ:Rho} {H:OH} {X:Nat->Prop} {w:World} {x:AV} {v:Value} (h:x.rel ρ H X w v):(Ld x).rel ρ H X w v:=by
 cases x with
 |p x=>exact N5 h
 |sl a r off len=>exact h
 |ptr a r i j=>exact h
 |fn=>exact h
 |junk=>exact h
section
variable {H:OH} {d:Nat}
def zH (H:OH) (d:Nat):OH:=aJ H d ((H d).map zO)
theorem qn {a r:Nat} {o:OObj} (h:(zH H d a)[r]?=some o): ∃o',(H a)[r]?=some o'/\((a=d/\o=zO o')\/o=o'):=by
 unfold zH at h;by_cases ha:a=d
 ·subst ha;rw[aX,az]at h;obtain⟨o',h1,h2⟩:=Option.map_eq_some_iff.1 h;exact⟨o',h1,.inl ⟨rfl,h2.symm⟩⟩
 rw[aN ha]at h;exact⟨o,h,.inr rfl⟩
theorem Le {a r:Nat} {o:OObj} (h:(H a)[r]?=some o): ∃o',(zH H d a)[r]?=some o'/\o'.es=o.es/\o'.elems.length=o.elems.length:=by
 unfold zH;by_cases ha:a=d
 ·subst ha;exact⟨zO o,by rw[aX,az,h];rfl,rfl,by simp[zO]⟩
 exact⟨o,by rw[aN ha];exact h,rfl,rfl⟩
theorem OE (X:Nat->Prop) (ρ:Rho):Xo X ρ (zH H d)=Xo X ρ H:=by
 funext b;apply propext;constructor
 ·rintro(h|⟨a,r,o,c,h1,h2⟩)
  ·exact .inl h
  obtain⟨o',g1,_⟩:=qn h1;exact .inr ⟨a,r,o',c,g1,h2⟩
 rintro(h|⟨a,r,o,c,h1,h2⟩)
 ·exact .inl h
 obtain⟨o',g1,_⟩:=Le (d:=d) h1;exact .inr ⟨a,r,o',c,g1,h2⟩
theorem AX {ρ:Rho} {X:Nat->Prop} {w:World} {x:AV} {v:Value} (h:x.rel ρ H X w v):x.rel ρ (zH H d) X w v:=by
 refine n9 (fun x v hn h=>?_) x v h;cases x with
 |fn=>cases hn
 |p x=>exact h
 |junk=>trivial
 |sl a r off len=>
  obtain⟨o,h1,h2,h3⟩:=h;obtain⟨o',g1,g2,g3⟩:=Le (d:=d) h1;exact⟨o',g1,by omega,by rw[g2];exact h3⟩
 |ptr a r i j=>
  obtain⟨o,b,c,h1,h2,h3,h4⟩:=h;obtain⟨o',g1,g2,g3⟩:=Le (d:=d) h1;exact⟨o',b,c,g1,h2,by omega,by rw[g2];exact h4⟩
theorem R4 {ρ:Rho} {X:Nat->Prop} {w:World} {t:TV} {v:Value} (h:t.rel ρ H X w v):t.rel ρ (zH H d) X w v:=by
 have agg: ∀{cs:List AV} {v:Value},bJ ρ H X w cs v->bJ ρ (zH H d) X w cs v:=fun{cs v} ⟨vs,h1,h2,h3⟩=>
  ⟨vs,h1,h2,fun j x hx=>by obtain⟨u,u1,u2,u3⟩:=h3 j x hx;exact⟨u,u1,u2,AX u3⟩⟩
 cases t with
 |one x=>exact AX (x:=x) h
 |agg cs=>exact agg h
 |fn f cs=>obtain⟨u,h1,h2⟩:=h;exact⟨u,agg h1,h2⟩
 |tup ts=>
  obtain⟨vs,h1,h2,h3⟩:=h;refine⟨vs,h1,h2,fun j b cs hj=>?_⟩;obtain⟨u,u1,u2⟩:=h3 j b cs hj;refine⟨u,u1,?_⟩;rcases u2 with⟨e,g⟩|⟨e,x,hx,g⟩
  ·exact .inl ⟨e,agg g⟩
  exact .inr ⟨e,x,hx,AX g⟩
theorem Lf {ρ:Rho} {X:Nat->Prop} {w:World} {a r:Nat} {o:OObj} (h:objRel ρ H X w a r o):objRel ρ (zH H d) X w a r (zO o)/\objRel ρ (zH H d) X w a r o:=by
 obtain⟨h1,h2,h3⟩:=h;refine⟨⟨fun e he=>?_,h2,?_⟩,⟨h1,h2,?_⟩⟩
 ·simp only[zO,am]at he;obtain⟨e',he',rfl⟩:=he;simp only[List.length_map,zO];exact h1 e' he'
 ·cases hρ:ρ a r with
  |none=>rw[hρ]at h3;simp only at h3⊢;simp[zO,h3]
  |some bc=>
   obtain⟨b,c⟩:=bc;rw[hρ]at h3;obtain⟨cells,g1,g2,g3,g4,g5⟩:=h3;refine⟨cells,g1,g2,by simpa[zO] using g3,g4,fun i e j x hi hj=>?_⟩;simp only[zO,az]at hi;obtain⟨e',he',rfl⟩:=Option.map_eq_some_iff.1 hi;simp only[az]at hj;obtain⟨x',hx',rfl⟩:=Option.map_eq_some_iff.1 hj;obtain⟨v,v1,v2,v3⟩:=g5 i e' j x' he' hx';exact⟨v,v1,v2,N4 (AX v3)⟩
 cases hρ:ρ a r with
 |none=>rw[hρ]at h3;exact h3
 |some bc=>
  obtain⟨b,c⟩:=bc;rw[hρ]at h3;obtain⟨cells,g1,g2,g3,g4,g5⟩:=h3;refine⟨cells,g1,g2,g3,g4,fun i e j x hi hj=>?_⟩;obtain⟨v,v1,v2,v3⟩:=g5 i e j x hi hj;exact⟨v,v1,v2,AX v3⟩
end
theorem ku {s:AS} (d:Nat):bW s ⟨s.tmps,zH s.H d⟩:=by
 rintro w0 O X a w ⟨h1,hsz,ρ,hinv,htm⟩;refine⟨h1,hsz,ρ,⟨hinv.keep,fun a r o ho=>?_,fun a r a' r' o o' b c c' ho ho' hb hb'=>?_,fun a r o b c ho hb=>?_,hinv.bar,fun a r o ho=>?_⟩,fun t x hx=>?_⟩
 ·obtain⟨o',g1,g2⟩:=qn ho;show objRel ρ (zH s.H d) (Xo X ρ (zH s.H d)) w a r o;rw[OE];rcases g2 with⟨_,rfl⟩|rfl
  ·exact(Lf (hinv.objs a r o' g1)).1
  exact(Lf (hinv.objs a r o g1)).2
 ·obtain⟨p,g1,_⟩:=qn ho;obtain⟨p',g2,_⟩:=qn ho';exact hinv.inj a r a' r' p p' b c c' g1 g2 hb hb'
 ·obtain⟨p,g1,_⟩:=qn ho;exact hinv.old a r p b c g1 hb
 ·obtain⟨o',g1,g2⟩:=qn ho;have:=hinv.self a r o' g1;rcases g2 with⟨_,rfl⟩|rfl
  ·intro e he x hx;simp only[zO,am]at he;obtain⟨e',he',rfl⟩:=he;simp only[am]at hx;obtain⟨x',hx',rfl⟩:=hx;have:=this e' he' x' hx';cases x'<;>first|exact this|trivial
  exact this
 obtain⟨v,v1,v2⟩:=htm t x hx;refine⟨v,v1,?_⟩;show x.rel ρ (zH s.H d) (Xo X ρ (zH s.H d)) w v;rw[OE];exact R4 v2
theorem LF {s:AS} (k:Nat) (hk:s.tmps[k]?=some (.raw (.slice none 0 0))):bW s ⟨s.tmps.set k (.one (.p (.sl []))),s.H⟩:=by
 rintro w0 O X a w ⟨h1,hsz,ρ,hinv,htm⟩;refine⟨h1,by simpa using hsz,ρ,hinv,fun t x hx=>?_⟩;by_cases htk:t=k
 ·subst htk;obtain⟨v,v1,v2⟩:=htm t _ hk;have hlt:=(List.getElem?_eq_some_iff.1 hk).1;rw[List.getElem?_set_self hlt]at hx;injection hx with hx
  subst hx;have v2:bX (Xo X ρ s.H) w (.raw (.slice none 0 0)) v:=v2;cases v2;exact⟨_,v1,bX.nil none 0⟩
 rw[List.getElem?_set_ne (fun h=>htk h.symm)]at hx;exact htm t x hx
end
section
section
variable {P:Program}
theorem tP {items:List (cQ P)} (hI:fL P items) {ow:List Nat} {ops:Array Oper} {w0:World} {O X:Nat->Prop} {Q:Exit->Act->World->Prop} {suf:List Nat}: ∀(l:List Oper) (k:Nat) (s s':AS) (a:Act) (w:World),(∀(j:Nat) o,l[j]?=some o->ops[k+j]?=some o)->
  eD P items ow ops (l.zipIdx k) s=some s'->cW w0 O X s a w->(∀a' w',cW w0 O X s' a' w'->wpOps P ops Q suf a' w')->wpOps P ops Q (List.range' k l.length++suf) a w
 |[],k,s,s',a,w,_,h,r,hQ=>by
  simp only[List.zipIdx_nil,eD]at h;injection h with h
  subst h;exact hQ a w r
 |o::l,k,s,s',a,w,hl,h,r,hQ=>by
  simp only[List.zipIdx_cons,eD]at h;split at h
  ·rename_i s1 hs1;simp only[List.length_cons,List.range'_succ,List.cons_append,wpOps];have ho:ops[k]?=some o:=by have:=hl 0 o rfl;simpa using this
   rw[ho];simp only;have:=gA (Q:=Q) hI r hs1 (K:=wpOps P ops Q (List.range' (k+1) l.length++suf)) (fun v w' hr=>tP hI l (k+1) s1 s' _ _ (fun j o hj=>by have:=hl (j+1) o (by simpa using hj);rwa[show k+(j+1)=k+1+j by omega]at this) h hr hQ);split at this
   ·rename_i hw;rw[if_pos hw];exact .inl this
   rename_i hw;rw[if_neg hw];exact this
  cases h
theorem qv (m:Nat) (items:List (cQ P)) (hI:fL P items) (ow:List Nat) {id:Nat} {ops:Array Oper} {s s1 s2 s':AS} {Q:Exit->AS->Prop} (h1:eD P items ow ops ((ops.toList.take m).zipIdx 0) s=some s1) (hw:bW s1 s2)
  (h2:eD P items ow ops ((ops.toList.drop m).zipIdx (ops.toList.take m).length) s2=some s') (hQ:Q .normal s'):bu P (.region id ops false) Q s:=fun w0 O X a w r=>by
 refine wp_region ?_;have hsz:ops.size=(ops.toList.take m).length+(ops.toList.drop m).length:=by simp;omega
 rw[hsz,List.range_eq_range',<- List.range'_append_1,Nat.zero_add];refine tP hI (ops.toList.take m) 0 s s1 a w (fun j o hj=>?_) h1 r fun a' w' r'=>?_
 ·rw[List.getElem?_take]at hj;split at hj
  ·simpa using hj
  cases hj
 refine kN hI (Q:=fun e a' w'=> ∃s',Q e s'/\cW w0 O X s' a' w') (ops.toList.drop m) _ s2 s' a' w' (fun j o hj=>?_) h2 (hw _ _ _ _ _ r') (fun a' w' hr=>⟨s',hQ,hr⟩);rw[List.getElem?_drop]at hj;have hlt:=(List.getElem?_eq_some_iff.1 hj).1;have hm:(ops.toList.take m).length=m:=by
  rw[List.length_take];omega
 rw[hm];simpa using hj
theorem iI (m:Nat) (items:List (aH P)) (ow:List Nat) {id:Nat} {ops:Array Oper} {y:Code} {s:AS} {Q:Exit->AS->Prop} (hl:s.tmps.length<=1000000) (hm:m<=ops.toList.length)
  (h: ∀K:AS->Prop,(∀s1,(∃s2,bW s1 s2/\s2.tmps.length<=1000000/\ ∀K:AS->Prop,(∀s',bu P y Q s'->K s')->ca P (items.map aH.a) ow (bC ops (ops.toList.drop m) m) (some s2) K)->K s1)->ca P (items.map aH.a) ow (bC ops (ops.toList.take m) 0) (some s) K):bu P (.seq (.region id ops false) y) Q s:=by
 obtain⟨s1,h1,s2,hw,hl2,h2⟩:=bi P (items.map aH.a) ow ops _ 0 s _ (h _ fun _ h=>h);obtain⟨s',h3,h4⟩:=bi P (items.map aH.a) ow ops _ m s2 _ (h2 _ fun _ h=>h);refine aG (qv m _ (aH.ok items) ow h1 hw ?_ h4);rwa[show(ops.toList.take m).length=m by rw[List.length_take];omega]
end
end
section
theorem bX.later {Y Y':Nat->Prop} {w w':World} (hY: ∀b,b<w.heap.size->Y' b->Y b) (hs:w.heap.size<=w'.heap.size) (hc: ∀p v,p.block<w.heap.size-> ¬Y p.block->w.cell? p=some v->w'.cell? p=some v) {x:PV} {v:Value} (h:bX Y w x v):bX Y' w' x v:=by
 induction h with
 |raw v h=>exact .raw v h
 |nil a c=>exact .nil a c
 |sl b off es cap xs f hX hb hes hcap hm hcc hr ih=>exact .sl b off es cap xs f (fun h=>hX (hY _ hb h)) (Nat.lt_of_lt_of_le hb hs) hes hcap hm (fun i e j x h1 h2=>hc ⟨b,_,none⟩ _ hb hX (hcc i e j x h1 h2)) ih
 |ptr b off cs f hX hb hcc hr ih=>exact .ptr b off cs f (fun h=>hX (hY _ hb h)) (Nat.lt_of_lt_of_le hb hs) (fun j x h1=>hc ⟨b,_,none⟩ _ hb hX (hcc j x h1)) ih
theorem iK {w w':World} {p:Addr} (h:w'.heap[p.block]?=w.heap[p.block]?):w'.cell? p=w.cell? p:=by unfold World.cell?;rw[h]
def jg (b:Nat) (ty:TypeId) (cs:List PV) (Y:Nat->Prop) (w:World):Prop:=
 ∃(cells:Array Value) (c:Nat),w.heap[b]?=some (.cells cells ty (0,0))/\cells.size=c*cs.length/\1<=c/\c<=9223372036854775807/\0<cs.length/\
  ∀(j:Nat) x,cs[j]?=some x-> ∃v:Value,cells[j]?=some v/\v.oneCell'=true/\bX Y w x v
theorem jg.later {b:Nat} {ty:TypeId} {cs:List PV} {Y Y':Nat->Prop} {w w':World} (hY: ∀j,j<w.heap.size->Y' j->Y j) (hs:w.heap.size<=w'.heap.size) (hb:w'.heap[b]?=w.heap[b]?) (hc: ∀j,j<w.heap.size-> ¬Y j->w'.heap[j]?=w.heap[j]?)
  (h:jg b ty cs Y w):jg b ty cs Y' w':=by
 obtain⟨cells,c,h1,h2,h3,h4,h5,h6⟩:=h;refine⟨cells,c,by rw[hb];exact h1,h2,h3,h4,h5,fun j x hx=>?_⟩;obtain⟨v,v1,v2,v3⟩:=h6 j x hx;exact⟨v,v1,v2,v3.later hY hs fun p u hp hn hu=>by rw[iK (hc p.block hp hn)];exact hu⟩
theorem jg.weaken {b:Nat} {ty:TypeId} {cs:List PV} {Y Y':Nat->Prop} {w:World} (hY: ∀j,j<w.heap.size->Y' j->Y j) (h:jg b ty cs Y w):jg b ty cs Y' w:=
 h.later hY (ae _) rfl fun _ _ _=>rfl
section
variable {P:Program} {b:Nat} {ty:TypeId} {cs cs':List PV} {w0 w:World} {O X:Nat->Prop} {s s':AS} {a:Act}
def fO (b:Nat) (ty:TypeId) (w0:World) (O X:Nat->Prop) (s:AS) (cs:List PV) (a:Act) (w:World):Prop:=
 a.defers=[]/\a.tmps.size=s.tmps.length/\ ∃ρ,Inv w0 O X s.H ρ w/\bq X ρ s a w/\O b/\X b/\jg b ty cs (Xo X ρ s.H) w
theorem fO.rel (h:fO b ty w0 O X s cs a w):cW w0 O X s a w:=by
 obtain⟨h1,h2,ρ,h3,h4,_⟩:=h;exact⟨h1,h2,ρ,h3,h4⟩
theorem fO.rebase (h:fO b ty w0 O X s cs a w): ∃Own:Nat->Prop,cW w Own X s a w/\ ∀s1 a1 w1,cW w Own X s1 a1 w1->fO b ty w0 O X s1 cs a1 w1:=by
 obtain⟨h1,hsz,ρ,hinv,htm,hO,hX,hbox⟩:=h;refine⟨fun j=> ∃(x r:Nat) (o:OObj) (c:Nat),(s.H x)[r]?=some o/\ρ x r=some (j,c),⟨h1,hsz,ρ,⟨Keep.refl w,hinv.objs,hinv.inj,fun x r o j c ho hj=>⟨.inr ⟨x,r,o,c,ho,hj⟩,(hinv.old x r o j c ho hj).2⟩,hinv.bar,hinv.self⟩,htm⟩,?_⟩;rintro s1 a1 w1 ⟨k1,ksz,ρ1,kinv,ktm⟩;have hown: ∀j,(∃(x r:Nat) (o:OObj) (c:Nat),(s.H x)[r]?=some o/\ρ x r=some (j,c))->(w0.heap.size<=j\/O j)/\ ¬X j:=fun j ⟨x,r,o,c,g1,g2⟩=>hinv.old x r o j c g1 g2
 refine⟨k1,ksz,ρ1,⟨⟨kinv.keep.os.trans hinv.keep.os,kinv.keep.tape.trans hinv.keep.tape,kinv.keep.output.trans hinv.keep.output,Nat.le_trans hinv.keep.size kinv.keep.size,fun j hj hn=>?_⟩,kinv.objs,kinv.inj,fun x r o j c ho hj=>?_,kinv.bar,kinv.self⟩,ktm,hO,hX,?_⟩
 ·rw[kinv.keep.block j (Nat.lt_of_lt_of_le hj hinv.keep.size) (fun hh=>by
   rcases(hown j hh).1 with h|h
   ·omega
   exact hn h)]
  exact hinv.keep.block j hj hn
 ·obtain⟨g1,g2⟩:=kinv.old x r o j c ho hj;refine⟨?_,g2⟩;rcases g1 with g|g
  ·exact .inl (Nat.le_trans hinv.keep.size g)
  exact(hown j g).1
 refine hbox.later (fun j hj hh=>?_) kinv.keep.size (kinv.keep.block b (hinv.bar b hX) (fun hh=>(hown b hh).2 hX)) (fun j hj hn=>kinv.keep.block j hj (fun hh=>hn (.inr hh)));rcases hh with hh|⟨x,r,o,c,g1,g2⟩
 ·exact .inl hh
 rcases(kinv.old x r o j c g1 g2).1 with g|g
 ·omega
 exact .inr g
def gP (P:Program) (b:Nat) (ty:TypeId) (c:Code) (Q:Exit->AS->List PV->Prop) (s:AS) (cs:List PV):Prop:=
 ∀(w0:World) (O X:Nat->Prop) (a:Act) (w:World),fO b ty w0 O X s cs a w->c.wp P (fun e a' w'=> ∃s' cs',Q e s' cs'/\fO b ty w0 O X s' cs' a' w') a w
def Kz (next:AS->List PV->Prop) (Q:Exit->AS->List PV->Prop):Exit->AS->List PV->Prop
 | .normal,s,k=>next s k
 |e,s,k=>Q e s k
def Bt (id:Nat) (Q:Exit->AS->List PV->Prop):Exit->AS->List PV->Prop
 | .exit id',s,k=>if id'=id then Q .normal s k else Q (.exit id') s k
 |e,s,k=>Q e s k
variable {Q:Exit->AS->List PV->Prop}
theorem H5 {c:Code} (h:bu P c (fun e s'=>Q e s' cs) s):gP P b ty c Q s cs:=fun w0 O X a w r=>by
 obtain⟨Own,h1,h2⟩:=r.rebase;exact wp_mono (h _ _ _ _ _ h1) fun e a' w' ⟨s',g1,g2⟩=>⟨s',cs,g1,h2 _ _ _ g2⟩
theorem gP.weak {c:Code} (h:bW s s') (k:gP P b ty c Q s' cs):gP P b ty c Q s cs:=fun _ _ _ _ _ r=>by
 obtain⟨Own,h1,h2⟩:=r.rebase;exact k _ _ _ _ _ (h2 _ _ _ (h _ _ _ _ _ h1))
theorem fO.weak (h:bW s s') (r:fO b ty w0 O X s cs a w):fO b ty w0 O X s' cs a w:=by
 obtain⟨Own,h1,h2⟩:=r.rebase;exact h2 _ _ _ (h _ _ _ _ _ h1)
theorem gP.mono {c:Code} {Q':Exit->AS->List PV->Prop} (h:gP P b ty c Q s cs) (k: ∀e s' cs',Q e s' cs'->Q' e s' cs'):gP P b ty c Q' s cs:=fun _ _ _ _ _ r=>
 wp_mono (h _ _ _ _ _ r) fun _ _ _ ⟨s',cs',h1,h2⟩=>⟨s',cs',k _ _ _ h1,h2⟩
theorem H6 (h:Q .normal s cs):gP P b ty .skip Q s cs:=fun _ _ _ _ _ r=>wp_skip ⟨s,cs,h,r⟩
theorem HU {id:Nat} (h:Q (.exit id) s cs):gP P b ty (.exit id) Q s cs:=fun _ _ _ _ _ r=>wp_exit ⟨s,cs,h,r⟩
theorem Dr (h:Q .ret s cs):gP P b ty .ret Q s cs:=fun _ _ _ _ _ r=>wp_ret ⟨s,cs,h,r⟩
theorem iy {x y:Code} (h:gP P b ty x (Kz (gP P b ty y Q) Q) s cs):gP P b ty (.seq x y) Q s cs:=fun _ _ _ _ _ r=>
 wp_seq (wp_mono (h _ _ _ _ _ r) fun e a w ⟨s',cs',h1,h2⟩=>by
  cases e with
  |normal=>exact h1 _ _ _ _ _ h2
  |_=>exact⟨s',cs',h1,h2⟩)
theorem jU {id:Nat} {x:Code} (h:gP P b ty x (Bt id Q) s cs):gP P b ty (.block id x) Q s cs:=fun _ _ _ _ _ r=>
 wp_block (wp_mono (h _ _ _ _ _ r) fun e a w ⟨s',cs',h1,h2⟩=>by
  cases e with
  |exit id'=>
   simp only[Bt]at h1;simp only[Exit.inBlock];split at h1
   ·rename_i hid;rw[if_pos hid];exact⟨s',cs',h1,h2⟩
   rename_i hid;rw[if_neg hid];exact⟨s',cs',h1,h2⟩
  |_=>exact⟨s',cs',h1,h2⟩)
theorem yB {c:Operand} {x y:Code} {v:Bool} (hc:s.ev c=some (.raw (.bool v))) (ht:v=true->gP P b ty x Q s cs) (hf:v=false->gP P b ty y Q s cs):gP P b ty (.cond c x y) Q s cs:=fun _ _ _ _ _ r=>by
 obtain⟨h1,hsz,ρ,hinv,htm,_⟩:=id r;have hb:=(bs (bD htm c _ hc)).1;exact wp_cond_split hb (fun h=>ht h _ _ _ _ _ r) (fun h=>hf h _ _ _ _ _ r)
theorem OU {c:Operand} {x y:Code} (hc:s.ev c=some (.raw (.bool true))) (h:gP P b ty x Q s cs):gP P b ty (.cond c x y) Q s cs:=yB hc (fun _=>h) (fun h=>by cases h)
theorem OT {c:Operand} {x y:Code} (hc:s.ev c=some (.raw (.bool false))) (h:gP P b ty y Q s cs):gP P b ty (.cond c x y) Q s cs:=yB hc (fun h=>by cases h) (fun _=>h)
theorem wP {c:Operand} {y z:Code} (hc:s.ev c=some (.raw (.bool true))) (h:gP P b ty z Q s cs):gP P b ty (.seq (.cond c .skip y) z) Q s cs:=iy (OU hc (H6 h))
theorem wO {c:Operand} {x z:Code} {id:Nat} (hc:s.ev c=some (.raw (.bool false))) (h:Q (.exit id) s cs):gP P b ty (.seq (.cond c x (.exit id)) z) Q s cs:=iy (OT hc (HU h))
theorem HW {G:Type} (St:G->AS) (Sc:G->List PV) (μ:G->Nat) (g0:G) {c:Code} (h0:bW s (St g0)) (h0':Sc g0=cs)
  (round: ∀g,gP P b ty c (Kz (fun s' cs'=> ∃g',μ g'<μ g/\bW s' (St g')/\Sc g'=cs') Q) (St g) (Sc g)):gP P b ty (.loop c) Q s cs:=fun w0 O X a w r=>by
 classical
 subst h0'
 let p:Act->World->Nat->Prop:=fun a w n=> ∃g,μ g=n/\fO b ty w0 O X (St g) (Sc g) a w
 let m:Act->World->Nat:=fun a w=>if h: ∃n,p a w n then Classical.choose (bF h)else 0
 refine wp_loop (fun a w=> ∃n,p a w n) m ⟨_,g0,rfl,r.weak h0⟩ ?_;intro a w hI;have hm:m a w=Classical.choose (bF hI):=dif_pos hI;obtain⟨hp,hleast⟩:=Classical.choose_spec (bF hI);rw[<- hm]at hp;obtain⟨g,hg,hr⟩:=hp;refine wp_mono (round g _ _ _ _ _ hr) fun e a' w' ⟨s',cs',h1,h2⟩=>?_
 cases e with
 |normal=>
  obtain⟨g',hlt,hw,hcs⟩:=h1;subst hcs;have hr':=h2.weak hw;have hI': ∃n,p a' w' n:=⟨_,g',rfl,hr'⟩;refine⟨hI',?_⟩;have hm':m a' w'=Classical.choose (bF hI'):=dif_pos hI';obtain⟨_,hl'⟩:=Classical.choose_spec (bF hI');have:=hl' (μ g') ⟨g',rfl,hr'⟩;rw[hm'];omega
 |_=>exact⟨s',cs',h1,h2⟩
theorem nY {G:Type} (St:G->AS) (Sc:G->List PV) (μ:G->Nat) (g0:G) {id:Nat} {x:Code} (h0:bW s (St g0)) (h0':Sc g0=cs)
  (round: ∀g,gP P b ty x (Kz (fun s' cs'=> ∃g',μ g'<μ g/\bW s' (St g')/\Sc g'=cs') (Bt id Q)) (St g) (Sc g)):gP P b ty (.block id (.loop x)) Q s cs:=
 jU (HW St Sc μ g0 h0 h0' round)
/-! Regions without lent calls. -/
theorem H7 {y:Code} (items:List (aH P)) (ow:List Nat) {id:Nat} {ops:Array Oper} (h: ∀K:AS->Prop,(∀s',gP P b ty y Q s' cs->K s')->ca P (items.map aH.a) ow (bC ops ops.toList 0) (some s) K):gP P b ty (.seq (.region id ops false) y) Q s cs:=
 iy (H5 (rm items ow (h _ fun _ h=>h)))
theorem H4 (items:List (aH P)) (ow:List Nat) {id:Nat} {ops:Array Oper} (h: ∀K:AS->Prop,(∀s',Q .normal s' cs->K s')->ca P (items.map aH.a) ow (bC ops ops.toList 0) (some s) K):gP P b ty (.region id ops false) Q s cs:=
 H5 (rm items ow (h _ fun _ h=>h))
theorem bP {y:Code} {id:Nat} {ops:Array Oper} (h: ∀K:AS->Prop,(∀s',gP P b ty y Q s' cs->K s')->ca P [] [] (bC ops ops.toList 0) (some s) K):gP P b ty (.seq (.region id ops false) y) Q s cs:=H7 [] [] h
theorem mf {id:Nat} {ops:Array Oper} (h: ∀K:AS->Prop,(∀s',Q .normal s' cs->K s')->ca P [] [] (bC ops ops.toList 0) (some s) K):gP P b ty (.region id ops false) Q s cs:=H4 [] [] h
end
def jh (P:Program) (b:Nat) (ty:TypeId) (f:FuncId) (args:List TV) (cs:List PV) (res:CallRes) (cs':List PV):Prop:=
 callable P f=true/\ ∀(X:Nat->Prop) (w:World) (vs:Array Value),(∀j,X j->j<w.heap.size)->X b->jg b ty cs X w->vs.size=args.length->
  (∀(j:Nat) t,args[j]?=some t-> ∃v:Value,vs[j]?=some v/\t.rel (fun _ _=>none) (fun _=>[]) X w v)->
  Calls P f vs w fun e w'=> ∃v,e= .returned v/\ ∃ρ:Rho,Inv w (fun j=>j=b) X (famH 0 res.fam) ρ w'/\res.r.rel ρ (famH 0 res.fam) (Xo X ρ (famH 0 res.fam)) w' v/\jg b ty cs' (Xo X ρ (famH 0 res.fam)) w'
section
variable {P:Program} {b:Nat} {ty:TypeId} {cs cs':List PV} {w0 w:World} {O X:Nat->Prop} {ρ:Rho} {s:AS} {a:Act}
theorem zy {it:cQ P} {d:Nat} (h1:a.defers=[]) (hsz:a.tmps.size=s.tmps.length) (hinv:Inv w0 O X s.H ρ w) (htm:bq X ρ s a w) (hO:O b) (hX:X b) {t:TV} {F:List OObj} (ht:renTV d it.res.r=t) (hF:it.res.fam.map (renO d)=F) (hd:F≠[]->s.H d=[])
  {v:Value} {w1:World} {ρc:Rho} (hi:Inv w (fun j=>j=b) (Xo X ρ s.H) (famH 0 it.res.fam) ρc w1) (hr:it.res.r.rel ρc (famH 0 it.res.fam) (Xo (Xo X ρ s.H) ρc (famH 0 it.res.fam)) w1 v)
  (hbox:jg b ty cs' (Xo (Xo X ρ s.H) ρc (famH 0 it.res.fam)) w1):fO b ty w0 O X (iv s d t F) cs' (a.put (some d) v) w1:=by
 have hbut:But b w w1:=⟨hi.keep.os,hi.keep.tape,hi.keep.output,hi.keep.size,fun k hk hne=>hi.keep.block k hk hne⟩;have hnb: ∀(x r:Nat) o b' c,(s.H x)[r]?=some o->ρ x r=some (b',c)->w1.heap[b']?=w.heap[b']?:=fun x r o b' c ho hb'=>hbut.block b' (bO (hinv.objs x r o ho) hb') (by rintro rfl;exact(hinv.old x r o b' c ho hb').2 hX)
 by_cases hfam:it.res.fam=[]
 ·rw[hfam]at hi hr hbox;have hF0:F=[]:=by rw[<- hF,hfam];rfl
  subst hF0;have mono: ∀x u,AV.rel ρ s.H (Xo X ρ s.H) w x u->AV.rel ρ s.H (Xo X ρ s.H) w1 x u:=fun x u hx=>lG (.inl hX) hbut (fun a r o ho=>⟨o,ho,rfl,ae _,rfl⟩) (fun a r o b' c ho hb _=> .inr ⟨a,r,o,c,ho,hb⟩) hx
  have hinv':Inv w0 O X s.H ρ w1:=⟨hinv.keep.but hbut (.inr hO),fun x r o ho=>dK (hinv.objs x r o ho) rfl (fun b' c hb'=>hnb x r o b' c ho hb') mono,hinv.inj,hinv.old,fun j hj=>Nat.lt_of_lt_of_le (hinv.bar j hj) hbut.size,hinv.self⟩;have htm':bq X ρ s a w1:=fun k x hx=>by
   obtain⟨u,g1,g2⟩:=htm k x hx;exact⟨u,g1,TV.rel_map g2 mono⟩
  have hv:t.rel ρ s.H (Xo X ρ s.H) w1 v:=by
   rw[<- ht];exact mE hr (fun x u hx=>rr (fun r o' ho'=>by simp at ho') (fun j _ hj=> .inl hj) hx)
  show fO b ty w0 O X (s.put (some d) t) cs' _ _;refine⟨by rw[fB];exact h1,by rw[i6,eA];exact hsz,ρ,by rw[eK];exact hinv',nC hsz htm' hv,hO,hX,?_⟩;rw[eK];exact hbox.weaken fun j _ hj=> .inl hj
 have hF0:F≠[]:=by rw[<- hF];simpa using hfam
 have hd0:=hd hF0;have hres:iv s d t F=AS.put ⟨s.tmps,aJ s.H d F⟩ (some d) t:=by
  unfold iv;rw[if_neg (by simpa using hF0)]
 rw[hres]
 let f:Nat->Option (Nat×Nat):=fun r=>if r<it.res.fam.length then ρc 0 r else none
 have hff: ∀r j n,f r=some (j,n)->(∃o',it.res.fam[r]?=some o')/\ρc 0 r=some (j,n):=fun r j n h=>by
  simp only[f]at h;split at h
  ·rename_i hlt;exact⟨⟨_,List.getElem?_eq_getElem hlt⟩,h⟩
  cases h
 have hnew: ∀(r j n:Nat),f r=some (j,n)->w.heap.size<=j:=fun r j n h=>by
  obtain⟨⟨o',ho'⟩,g⟩:=hff r j n h;have:=hi.old 0 r o' j n (by simpa[famH] using ho') g;rcases this.1 with h|h
  ·exact h
  exact absurd (h▸ .inl hX) this.2
 have hXo: ∀j,Xo X (newρ ρ d f) (aJ s.H d F) j->Xo (Xo X ρ s.H) ρc (famH 0 it.res.fam) j:=fun j hj=>by
  rcases hj with hj|⟨x',y',o',n,g1,g2⟩
  ·exact .inl (.inl hj)
  by_cases hxd:x'=d
  ·subst hxd;rw[newρ_eq]at g2;obtain⟨⟨o2,ho2⟩,g3⟩:=hff y' j n g2;exact .inr ⟨0,y',o2,n,by simpa[famH] using ho2,g3⟩
  rw[aN hxd]at g1;rw[newρ_ne hxd]at g2;exact .inl (.inr ⟨x',y',o',n,g1,g2⟩)
 have mono: ∀x u,AV.rel ρ s.H (Xo X ρ s.H) w x u->AV.rel (newρ ρ d f) (aJ s.H d F) (Xo X (newρ ρ d f) (aJ s.H d F)) w1 x u:=fun x u hx=>by
  refine lG (.inl hX) hbut (fun x r o ho=>?_) (fun x r o b' c ho hb hlt=>?_) hx
  ·have hxd:x≠d:=by rintro rfl;rw[hd0]at ho;simp at ho
   exact⟨o,by rw[aN hxd];exact ho,rfl,ae _,newρ_ne hxd r⟩
  by_cases hxd:x=d
  ·subst hxd;rw[newρ_eq]at hb;have:=hnew r b' c hb;omega
  rw[aN hxd]at ho;rw[newρ_ne hxd]at hb;exact .inr ⟨x,r,o,c,ho,hb⟩
 have hmap: ∀x u,AV.rel ρc (famH 0 it.res.fam) (Xo (Xo X ρ s.H) ρc (famH 0 it.res.fam)) w1 x u->AV.rel (newρ ρ d f) (aJ s.H d F) (Xo X (newρ ρ d f) (aJ s.H d F)) w1 (cb d x) u:=fun x u hx=>by
  refine rr (fun r o' ho'=>?_) (fun j _ hj=>hXo j hj) hx;rw[aX,newρ_eq];simp only[f];rw[if_pos (List.getElem?_eq_some_iff.1 ho').1,<- hF,az,ho'];exact⟨rfl,rfl⟩
 have hinv':Inv w0 O X (aJ s.H d F) (newρ ρ d f) w1:=by
  refine⟨hinv.keep.but hbut (.inr hO),fun x r o ho=>?_,fun x r x' r' o o' j c c' ho ho' hr hr'=>?_,fun x r o j c ho hr=>?_,fun j hj=>Nat.lt_of_lt_of_le (hinv.bar j hj) hbut.size,fun x r o ho=>?_⟩
  ·by_cases hxd:x=d
   ·subst hxd;rw[aX,<- hF,az]at ho;obtain⟨o2,ho2,rfl⟩:=Option.map_eq_some_iff.1 ho;have hobj:=hi.objs 0 r o2 (by simpa[famH] using ho2);obtain⟨z1,z2,z3⟩:=hobj;refine⟨fun e he=>?_,z2,?_⟩
    ·simp only[renO,am]at he;obtain⟨e',he',rfl⟩:=he;rw[List.length_map];exact z1 e' he'
    rw[newρ_eq];simp only[f];rw[if_pos (List.getElem?_eq_some_iff.1 ho2).1];cases hr0:ρc 0 r with
    |none=>rw[hr0]at z3;simp[renO,z3]
    |some bc=>
     obtain⟨j,n⟩:=bc;rw[hr0]at z3;obtain⟨cells,p1,p2,p3,p4,p5⟩:=z3;refine⟨cells,p1,p2,by simpa[renO] using p3,p4,fun i e j z he hz=>?_⟩;simp only[renO,az]at he;obtain⟨e',he',rfl⟩:=Option.map_eq_some_iff.1 he;rw[az]at hz;obtain⟨z',hz',rfl⟩:=Option.map_eq_some_iff.1 hz;obtain⟨u,u1,u2,u3⟩:=p5 i e' j z' he' hz';exact⟨u,u1,u2,hmap z' u u3⟩
   rw[aN hxd]at ho;exact dK (hinv.objs x r o ho) (newρ_ne hxd r) (fun b' c hb'=>hnb x r o b' c ho hb') mono
  ·by_cases hx:x=d
   ·subst hx;rw[newρ_eq]at hr;by_cases hx':x'=x
    ·subst hx';rw[newρ_eq]at hr';obtain⟨⟨o1,ho1⟩,g1⟩:=hff r j c hr;obtain⟨⟨o2,ho2⟩,g2⟩:=hff r' j c' hr';exact⟨rfl,(hi.inj 0 r 0 r' o1 o2 j c c' (by simpa[famH] using ho1) (by simpa[famH] using ho2) g1 g2).2⟩
    rw[newρ_ne hx']at hr';rw[aN hx']at ho';have:=bO (hinv.objs x' r' o' ho') hr';have:=hnew _ _ _ hr;omega
   rw[newρ_ne hx]at hr;rw[aN hx]at ho;by_cases hx':x'=d
   ·subst hx';rw[newρ_eq]at hr';have:=bO (hinv.objs x r o ho) hr;have:=hnew _ _ _ hr';omega
   rw[newρ_ne hx']at hr';rw[aN hx']at ho';exact hinv.inj x r x' r' o o' j c c' ho ho' hr hr'
  ·by_cases hx:x=d
   ·subst hx;rw[newρ_eq]at hr;have:=hnew _ _ _ hr;have hk:=hinv.keep.size;exact⟨.inl (by omega),fun hX=>by have:=hinv.bar j hX;omega⟩
   rw[newρ_ne hx]at hr;rw[aN hx]at ho;exact hinv.old x r o j c ho hr
  by_cases hx:x=d
  ·subst hx;rw[aX,<- hF,az]at ho;obtain⟨o2,ho2,rfl⟩:=Option.map_eq_some_iff.1 ho;intro e he z hz;simp only[renO,am]at he;obtain⟨e',he',rfl⟩:=he;simp only[am]at hz;obtain⟨z',hz',rfl⟩:=hz;exact de _ _
  rw[aN hx]at ho;exact hinv.self x r o ho
 have htm':bq X (newρ ρ d f) ⟨s.tmps,aJ s.H d F⟩ a w1:=fun k x hx=>by
  obtain⟨u,g1,g2⟩:=htm k x hx;exact⟨u,g1,TV.rel_map g2 mono⟩
 have hv:t.rel (newρ ρ d f) (aJ s.H d F) (Xo X (newρ ρ d f) (aJ s.H d F)) w1 v:=by
  rw[<- ht];exact mE hr hmap
 refine⟨by rw[fB];exact h1,by rw[i6,eA];exact hsz,newρ ρ d f,by rw[eK];exact hinv',nC (s:=⟨s.tmps,aJ s.H d F⟩) hsz htm' hv,hO,hX,?_⟩;rw[eK];exact hbox.weaken fun j _ hj=>hXo j hj
theorem JD {H:OH} {t:TV} (h:l6 (fJ H t)=true):fJ H t=t:=by
 unfold fJ at h⊢;split
 ·rename_i a r off len;simp only at h;split at h<;>cases h
 ·cases h
 rfl
theorem vY {H H':OH} {ρ':Rho} {Y Y':Nat->Prop} {w':World} {t:TV} {v:Value} (h:l6 t=true) (hr:t.rel ρ H Y w v):t.rel ρ' H' Y' w' v:=by
 have hav: ∀x u,oZ x=true->AV.rel ρ H Y w x u->AV.rel ρ' H' Y' w' x u:=fun x u hx hu=>by
  cases x with
  |p x=>
   cases x with
   |raw z=>
    obtain⟨rfl,h1⟩:=bs (ρ:=ρ) (H:=H) hu;exact bX.raw _ h1
   |sl xs=>cases hx
   |ptr cs=>cases hx
  |sl a r off len=>cases hx
  |ptr a r i j=>cases hx
  |junk=>cases hx
  |fn=>cases hx
 have agg: ∀cs v,cs.all oZ=true->bJ ρ H Y w cs v->bJ ρ' H' Y' w' cs v:=fun cs v hc ⟨vs,g1,g2,g3⟩=>by
  simp only[aj]at hc;exact⟨vs,g1,g2,fun j x hx=>by obtain⟨u,u1,u2,u3⟩:=g3 j x hx;exact⟨u,u1,u2,hav x u (hc x (ax hx)) u3⟩⟩
 cases t with
 |one x=>exact hav x v h hr
 |agg cs=>exact agg cs v h hr
 |fn f cs=>obtain⟨u,h1,h2⟩:=hr;exact⟨u,agg cs u h h1,h2⟩
 |tup ts=>
  simp only[l6,aj]at h;obtain⟨vs,g1,g2,g3⟩:=hr;refine⟨vs,g1,g2,fun j c cs hj=>?_⟩;obtain⟨u,u1,u2⟩:=g3 j c cs hj;have hall:=h (c,cs) (ax hj);refine⟨u,u1,?_⟩;rcases u2 with⟨u2,u3⟩|⟨u2,x,rfl,u4⟩
  ·exact .inl ⟨u2,agg _ _ (by simpa only[aj] using hall) u3⟩
  exact .inr ⟨u2,_,rfl,hav x u (hall x (by simp)) u4⟩
def J0:PV->Bool
 | .raw _=>true
 |_=>false
def kE (args:List TV) (res:CallRes) (cs:List PV):Bool:=args.all l6||!res.plain||cs.all J0
theorem jg.raw {Y Y':Nat->Prop} (hr:cs.all J0=true) (h:jg b ty cs Y w):jg b ty cs Y' w:=by
 obtain⟨cells,c,h1,h2,h3,h4,h5,h6⟩:=h;refine⟨cells,c,h1,h2,h3,h4,h5,fun j x hx=>?_⟩;obtain⟨v,v1,v2,v3⟩:=h6 j x hx;rw[aj]at hr;have:=hr x (ax hx);cases x with
 |raw z=>cases v3 with|raw _ h=>exact⟨_,v1,v2,.raw _ h⟩
 |sl xs=>cases this
 |ptr cs=>cases this
theorem vI {it:cQ P} {d:Nat} (h1:a.defers=[]) (hsz:a.tmps.size=s.tmps.length) (hinv:Inv w0 O X s.H ρ w) (htm:bq X ρ s a w) (hO:O b) (hX:X b) (hbox:jg b ty cs (Xo X ρ s.H) w) (hok:kE it.args it.res cs'=true) (hcon:jh P b ty it.f it.args cs it.res cs')
  {ts:List TV} (c2:ts.map (fJ s.H)=it.args) (c3:ts.all (dU it.res.plain s.H)=true) {vs:Array Value} (hvs:vs.size=ts.length) (hv: ∀(j:Nat) t,ts[j]?=some t-> ∃v:Value,vs[j]?=some v/\t.rel ρ s.H (Xo X ρ s.H) w v)
  {t:TV} {F:List OObj} (ht:renTV d it.res.r=t) (hF:it.res.fam.map (renO d)=F) (hdF:F≠[]->s.H d=[]):
  Calls P it.f vs w fun e w1=> ∃v,e= .returned v/\fO b ty w0 O X (iv s d t F) cs' (a.put (some d) v) w1:=by
 obtain⟨_,hcon⟩:=hcon;have hXlt: ∀j,Xo X ρ s.H j->j<w.heap.size:=fun j hj=>by
  rcases hj with hj|⟨x,y,o',n,g1,g2⟩
  ·exact hinv.bar j hj
  exact bO (hinv.objs x y o' g1) g2
 simp only[aj]at c3;by_cases hcase:it.args.all l6=true\/it.res.plain=false
 ·refine(hcon (Xo X ρ s.H) w vs hXlt (.inl hX) hbox ?_ ?_).mono ?_
  ·rw[<- c2];simp[hvs]
  ·intro j u hu;have hu0:=hu;rw[<- c2,az]at hu;obtain⟨t0,ht0,rfl⟩:=Option.map_eq_some_iff.1 hu;obtain⟨v,v1,v2⟩:=hv j t0 ht0;refine⟨v,v1,?_⟩;rcases hcase with hraw|hpl
   ·have hru:l6 (fJ s.H t0)=true:=by
     rw[aj]at hraw;exact hraw _ (ax hu0)
    have hne:=JD hru;rw[hne]at hru⊢;exact vY hru v2
   have:=c3 t0 (ax ht0);rw[hpl]at this;exact oO hinv.objs (fun _ h=>h) (fun h=>by cases h) v2 this
  rintro e w1 ⟨v,rfl,ρc,hi,hr,hb'⟩;exact⟨v,rfl,zy h1 hsz hinv htm hO hX ht hF hdF hi hr hb'⟩
 have hnr:it.args.all l6=false:=by simpa using fun h=>hcase (.inl h)
 have hpl:it.res.plain=true:=by simpa using fun h=>hcase (.inr h)
 have hcr:cs'.all J0=true:=by
  unfold kE at hok;rw[hnr,hpl]at hok;simpa using hok
 have hpl2:=hpl;unfold CallRes.plain at hpl2;rw[Bool.and_eq_true]at hpl2;have hfam:it.res.fam=[]:=List.isEmpty_iff.1 hpl2.1;refine(hcon (fun j=>j=b) w vs (fun j hj=>by subst hj;exact hXlt j (.inl hX)) rfl (hbox.weaken fun j _ hj=>by subst hj;exact .inl hX) ?_ ?_).mono ?_
 ·rw[<- c2];simp[hvs]
 ·intro j u hu;rw[<- c2,az]at hu;obtain⟨t0,ht0,rfl⟩:=Option.map_eq_some_iff.1 hu;obtain⟨v,v1,v2⟩:=hv j t0 ht0;refine⟨v,v1,?_⟩;exact vS hinv.objs (fun j hj=>by subst hj;exact .inl hX) (fun _ x y o b' c ho hb' hbb=>by subst hbb;exact(hinv.old x y o b' c ho hb').2 hX) v2 (c3 t0 (ax ht0))
 rintro e w1 ⟨v,rfl,ρc,hi,hr,hb'⟩;refine⟨v,rfl,zy h1 hsz hinv htm hO hX ht hF hdF (ρc:=ρc) ?_ (vY hpl2.2 hr) (hb'.raw hcr)⟩;rw[hfam];exact⟨hi.keep,fun x r o ho=>by simp[famH]at ho,fun x r x' r' o o' j c c' ho=>by simp[famH]at ho,fun x r o j c ho=>by simp[famH]at ho,fun j hj=>Nat.lt_of_lt_of_le (hXlt j hj) hi.keep.size,fun x r o ho=>by simp[famH]at ho⟩
theorem Mr {items:List (cQ P)} {ow:List Nat} {i:Nat} {s1:AS} (hrel:fO b ty w0 O X s cs a w) {o:Oper} {c:Call} {y:Operand} (ho:o.op= .call c) (hcal:c.callee= .value y) (hy:(∃f,y= .func f)\/ ∃k,y= .tmp k) {it:cQ P} (hit:items.find? (·.i==i)=some it)
  (hraw:kE it.args it.res cs'=true) (hcon:jh P b ty it.f it.args cs it.res cs') (h:dr P items ow i o s=some s1) {K:Act->World->Prop} {Q:Exit->Act->World->Prop}
  (hK: ∀v w',fO b ty w0 O X s1 cs' (a.put o.dst v) w'->K (a.put o.dst v) w'):o.wp P a w K Q:=by
 obtain⟨h1,hsz,ρ,hinv,htm,hO,hX,hbox⟩:=hrel;have hM:mR o.op=false:=by rw[ho];show PH c.callee=false;rw[hcal];rfl
 have hR:uC o.op=false:=by
  obtain⟨callee,args,tys⟩:=c;simp only at hcal;subst hcal;rw[ho];rfl
 have hD:eY P s.ev s.H o.op=none:=by
  obtain⟨callee,args,tys⟩:=c;simp only at hcal;subst hcal;rw[ho];rfl
 unfold dr at h;simp only[hM,hR,hD,Bool.false_eq_true,if_false]at h;obtain⟨d,t,F,hdst,hA,hdF,hs1⟩: ∃d t F,o.dst=some d/\cf P items ow i d s.ev s.H o.op=some (t,F)/\(F≠[]->s.H d=[])/\s1=iv s d t F:=by
  split at h
  ·cases h
  rename_i d hd;split at h
  ·rename_i t ht;injection h with h
   exact⟨d,t,[],hd,ht,fun h=>absurd rfl h,by rw[<- h];rfl⟩
  ·rename_i t F hF ht;split at h
   ·rename_i hH;injection h with h
    refine⟨d,t,F,hd,ht,fun _=>hH,?_⟩;rw[<- h];unfold iv;rw[if_neg (by intro h;exact hF (List.isEmpty_iff.1 h))]
   cases h
  cases h
 subst hs1;rw[ho]at hA;rcases hy with⟨f,rfl⟩|⟨k,rfl⟩
 ·simp only[cf,hcal]at hA;rw[hit]at hA;split at hA
  ·rename_i it' ts hit' hts;injection hit' with hit'
   subst hit';split at hA
   ·rename_i hc;obtain⟨c1,c2,c3,_⟩:=hc;injection hA with hA
    injection hA with ht hF
    subst c1;obtain⟨e1,e2⟩:=bZ hts;have hrun:=i7 (w:=w) ho hcal (e:=a.eval) rfl hcon.1;unfold Oper.wp;rw[hrun];simp only[Oper.upon];refine(vI h1 hsz hinv htm hO hX hbox hraw hcon c2 c3 (vs:=c.args.map a.eval) (by simp[e1]) (fun j t0 ht0=>?_) ht hF hdF).mono ?_
    ·obtain⟨x,hx,hxt⟩:=e2 j t0 ht0;exact⟨a.eval x,by rw[Array.getElem?_map];simp at hx;rw[hx];rfl,bD htm x t0 hxt⟩
    rintro e w1 ⟨v,rfl,hr⟩;show K (a.put o.dst v) w1;refine hK v w1 ?_;rw[hdst];exact hr
   cases hA
  cases hA
 simp only[cf,hcal]at hA;rw[hit]at hA;split at hA
 ·rename_i f extra it' ts hcl hit' hts;injection hit' with hit'
  subst hit';split at hA
  ·rename_i hc;obtain⟨c1,c2,c3,_⟩:=hc;injection hA with hA
   injection hA with ht hF
   subst c1;obtain⟨e1,e2⟩:=bZ hts;obtain⟨us,k1,k2,k3⟩:=iJ (v:=a.eval (.tmp k)) (fun t0 ht0=>bD htm (.tmp k) t0 ht0) hcl;have hrun:=iO (w:=w) ho hcal (e:=a.eval) k1 hcon.1;unfold Oper.wp;rw[hrun];simp only[Oper.upon];refine(vI h1 hsz hinv htm hO hX hbox hraw hcon c2 c3 (vs:=c.args.map a.eval++us) (by simp[e1,k2]) (fun j t0 ht0=>?_) ht hF hdF).mono ?_
   ·by_cases hj:j<ts.length
    ·rw[List.getElem?_append_left hj]at ht0;obtain⟨x,hx,hxt⟩:=e2 j t0 ht0;exact⟨a.eval x,by rw[Array.getElem?_append_left (by simp at e1⊢;omega),Array.getElem?_map];simp at hx;rw[hx];rfl,bD htm x t0 hxt⟩
    rw[List.getElem?_append_right (by omega)]at ht0;obtain⟨v,v1,v2⟩:=k3 _ t0 ht0;exact⟨v,by rw[Array.getElem?_append_right (by simp at e1⊢;omega)];simp at e1⊢;rw[<- e1];exact v1,v2⟩
   rintro e w1 ⟨v,rfl,hr⟩;show K (a.put o.dst v) w1;refine hK v w1 ?_;rw[hdst];exact hr
  cases hA
 cases hA
end
end
end Go.Proofs.YtalmoejhjceflaaGreat
