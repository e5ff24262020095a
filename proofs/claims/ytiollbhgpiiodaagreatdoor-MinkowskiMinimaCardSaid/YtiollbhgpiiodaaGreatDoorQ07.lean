/-
  Part 8 of a proof (walks and plain facts).
-/
import Derived.Test.YtiollbhgpiiodaaGreatDoorQ06
set_option linter.all false
set_option maxRecDepth 100000
set_option maxHeartbeats 64000000
open List renaming mem_map → ak
open List renaming getElem?_map → az
namespace Go.Proofs.YtiollbhgpiiodaaGreatDoor
open Go.RowKit
section
def VR:Op->Bool
 | .store ..=>false
 | .call {callee:= .builtin .append,..}=>false
 |_=>true
theorem Co {P:Program} {op:Op} (h:VR op=true): ∀e G,gG P e G op=none:=fun e G=>by
 cases op<;>simp only[gG]<;>try rfl
 case store=>cases h
 case call c=>
  obtain⟨callee,args,tys⟩:=c;cases callee with
  |value f=>rfl
  |invoke r m=>rfl
  |builtin b=>cases b<;>first|rfl|cases h
def jG (acc:List Nat):List Edge->Nat
 |[]=>0
 |e::l=>if Region.binds .any e then 2^e.on|||(acc.getD e.on 0|||jG acc l)else jG acc l
def qu:List Oper->List Nat->List Nat
 |[],acc=>acc
 |o::l,acc=>qu l (acc++[jG acc o.after.toList])
def Nm (sep:List (Nat×Nat×Nat)) (oi oj:Oper):Bool:=match oi.op,oj.op with
 | .load _ (.tmp p),.store t (.tmp q) _=>sep.contains (p,q,t)&&oi.guard.isNone&&oj.guard.isNone
 |_,_=>false
def sH (sep:List (Nat×Nat×Nat)) (ops:Array Oper) (oi oj:Oper):Bool:=oi.apart ops oj&&(ud oi.op||ud oj.op||(VR oi.op&&VR oj.op)||Nm sep oi oj)
def CN (sep:List (Nat×Nat×Nat)) (ops:Array Oper) (oj:Oper) (m:Nat):List Oper->Nat->Bool
 |[],_=>true
 |oi::l,i=>(m.testBit i||sH sep ops oi oj)&&CN sep ops oj m l (i+1)
def Aq (sep:List (Nat×Nat×Nat)) (ops:Array Oper) (A:List Nat):List Oper->Nat->Bool
 |[],_=>true
 |oj::l,j=>oj.after.all (fun e=>!Region.binds .any e||decide (e.on<j))&&CN sep ops oj (A.getD j 0) (ops.toList.take j) 0&&Aq sep ops A l (j+1)
def ce (sep:List (Nat×Nat×Nat)) (ops:Array Oper):Bool:=Aq sep ops (qu ops.toList []) ops.toList 0&&ops.toList.all fun o=>sep.all fun x=>o.dst !=some x.1&&o.dst !=some x.2.1
def A3 (sep:List (Nat×Nat×Nat)) (s:AS):Prop:= ∀x∈sep,∀a r i j b r' i' j',s.tmps[x.1]?=some (.one (.ptr a r i j))->s.tmps[x.2.1]?=some (.one (.ptr b r' i' j'))->b≠a
def Kk (sep:List (Nat×Nat×Nat)) (s:AS):Prop:=ql s/\A3 sep s
def Ot (P:Program) (sep:List (Nat×Nat×Nat)) (ops:Array Oper):Prop:=(∀x∈sep,szO P x.2.2≠some 1)/\ ∀(j:Nat) o,ops[j]?=some o-> ∀x∈sep,o.dst≠some x.1/\o.dst≠some x.2.1
section
variable {ops:Array Oper} {sep:List (Nat×Nat×Nat)}
theorem xK: ∀(l:List Oper) (acc:List Nat),(qu l acc).length=acc.length+l.length/\(∀k,k<acc.length->(qu l acc)[k]?=acc[k]?)/\
  ∀(j:Nat) o,l[j]?=some o->(qu l acc)[acc.length+j]?=some (jG ((qu l acc).take (acc.length+j)) o.after.toList)
 |[],acc=>⟨by simp[qu],fun k _=>rfl,fun j o h=>by simp at h⟩
 |o::l,acc=>by
  obtain⟨h1,h2,h3⟩:=xK l (acc++[jG acc o.after.toList]);simp only[qu];refine⟨by rw[h1];simp;omega,fun k hk=>by rw[h2 k (by simp;omega),List.getElem?_append_left hk],fun j oj hj=>?_⟩;cases j with
  |zero=>
   simp at hj;subst hj;rw[Nat.add_zero,h2 acc.length (by simp)];have:(qu l (acc++[jG acc o.after.toList])).take acc.length=acc:=by
    apply List.ext_getElem?;intro k;rw[List.getElem?_take];split
    ·rename_i hk;rw[h2 k (by simp;omega),List.getElem?_append_left hk]
    rename_i hk;rw[List.getElem?_eq_none (by omega)]
   rw[this]
   simp
  |succ j=>
   simp at hj;have:=h3 j oj hj;simp only[List.length_append,List.length_cons,List.length_nil]at this;rw[show acc.length+(0+1)+j=acc.length+(j+1) by omega]at this;exact this
theorem np {acc:List Nat} {i:Nat}: ∀{l:List Edge},(jG acc l).testBit i=true-> ∃e∈l,Region.binds .any e=true/\(e.on=i\/(acc.getD e.on 0).testBit i=true)
 |[],h=>by simp[jG]at h
 |e::l,h=>by
  simp only[jG]at h;split at h
  ·rename_i hb;simp only[Nat.testBit_or,Bool.or_eq_true,Nat.testBit_two_pow,decide_eq_true_eq]at h;rcases h with h|h|h
   ·exact⟨e,by simp,hb,.inl h⟩
   ·exact⟨e,by simp,hb,.inr h⟩
   obtain⟨e',h1,h2⟩:=np h;exact⟨e',by simp[h1],h2⟩
  obtain⟨e',h1,h2⟩:=np h;exact⟨e',by simp[h1],h2⟩
def Ki (ops:Array Oper) (p:Nat->Bool):Prop:= ∀(j:Nat) o,ops[j]?=some o->p j=true-> ∀e∈o.after,Region.binds .any e=true->p e.on=true
theorem qB {p:Nat->Bool} (hp:Ki ops p) {i:Nat}: ∀(n j:Nat),j<n->j<ops.size->p j=true->((qu ops.toList []).getD j 0).testBit i=true->p i=true:=by
 intro n
 induction n with
 |zero=>intro j h;omega
 |succ n ih=>
  intro j _ hjs hpj hbit;obtain⟨h1,_,h3⟩:=xK ops.toList [];have ho:ops.toList[j]?=some ops[j]:=by simp[hjs]
  have:=h3 j _ ho;simp only[List.length_nil,Nat.zero_add]at this;rw[List.getD_eq_getElem?_getD,this,Option.getD_some]at hbit;obtain⟨e,he,hb,h⟩:=np hbit;have hpe:=hp j ops[j] (by simp[hjs]) hpj e (by simpa using he) hb;rcases h with rfl|h
  ·exact hpe
  rw[List.getD_eq_getElem?_getD,List.getElem?_take]at h;split at h
  ·rename_i hlt;exact ih e.on (by omega) (by omega) hpe (by rw[List.getD_eq_getElem?_getD];exact h)
  simp at h
theorem wD {oj:Oper} {m:Nat}: ∀{l:List Oper} {i0:Nat},CN sep ops oj m l i0=true-> ∀(k:Nat) oi,l[k]?=some oi->m.testBit (i0+k)=true\/sH sep ops oi oj=true
 |[],i0,_,k,oi,h=>by simp at h
 |o::l,i0,h,k,oi,hk=>by
  simp only[CN,Bool.and_eq_true,Bool.or_eq_true]at h;cases k with
  |zero=>simp at hk;subst hk;exact h.1
  |succ k=>
   simp at hk;have:=wD h.2 k oi hk;rwa[show i0+1+k=i0+(k+1) by omega]at this
theorem n5 {A:List Nat}: ∀{l:List Oper} {j0:Nat},Aq sep ops A l j0=true-> ∀(k:Nat) oj,l[k]?=some oj->(∀e∈oj.after,Region.binds .any e=true->e.on<j0+k)/\CN sep ops oj (A.getD (j0+k) 0) (ops.toList.take (j0+k)) 0=true
 |[],j0,_,k,oj,h=>by simp at h
 |o::l,j0,h,k,oj,hk=>by
  simp only[Aq,Bool.and_eq_true]at h;cases k with
  |zero=>
   simp at hk;subst hk;refine⟨fun e he hb=>?_,h.1.2⟩;have:=h.1.1;rw[Array.all_eq_true_iff_forall_mem]at this;have:=this e he;simpa[hb] using this
  |succ k=>
   simp at hk;have:=n5 h.2 k oj hk;rwa[show j0+1+k=j0+(k+1) by omega]at this
theorem r7 (h:ce sep ops=true):(∀(j:Nat) o,ops[j]?=some o-> ∀e∈o.after,Region.binds .any e=true->e.on<j)/\
  ∀(i j:Nat) oi oj,i<j->ops[i]?=some oi->ops[j]?=some oj->((qu ops.toList []).getD j 0).testBit i=true\/sH sep ops oi oj=true:=by
 unfold ce at h;rw[Bool.and_eq_true]at h
 replace h:=h.1
 refine⟨fun j o ho e he hb=>?_,fun i j oi oj hij hi hj=>?_⟩
 ·have:=(n5 h j o (by simpa using ho)).1 e he hb;simpa using this
 have:=(n5 h j oj (by simpa using hj)).2;rw[Nat.zero_add]at this;have:=wD this i oi (by rw[List.getElem?_take,if_pos hij];simpa using hi);rwa[Nat.zero_add]at this
variable {P:Program} {items:List (dD P)} {ow:List Nat}
noncomputable def gK (P:Program) (items:List (dD P)) (ow:List Nat) (ops:Array Oper) (i:Nat) (s:AS):Option AS:=match ops[i]? with
 |some o=>bZ P items ow ops i o s
 |none=>none
noncomputable def ff (P:Program) (items:List (dD P)) (ow:List Nat) (ops:Array Oper):List Nat->AS->Option AS
 |[],s=>some s
 |i::l,s=>(gK P items ow ops i s).bind (ff P items ow ops l)
theorem n6 (l m:List Nat) (s:AS):ff P items ow ops (l++m) s=(ff P items ow ops l s).bind (ff P items ow ops m):=by
 induction l generalizing s with
 |nil=>rfl
 |cons i l ih=>
  simp only[List.cons_append,ff];cases gK P items ow ops i s with
  |none=>rfl
  |some s1=>exact ih s1
theorem qG (h:ce sep ops=true) (hz: ∀x∈sep,szO P x.2.2≠some 1):Ot P sep ops:=⟨hz,fun j o ho x hx=>by
 unfold ce at h;rw[Bool.and_eq_true,List.all_eq_true]at h;have h1:=h.2 o (by simpa using Array.mem_of_getElem? ho);rw[List.all_eq_true]at h1;have h2:=h1 x hx;simpa using h2⟩
theorem An {s:AS} {d:Option Tmp} {t:TV} (hl:A3 sep s) (hd: ∀x∈sep,d≠some x.1/\d≠some x.2.1):A3 sep (s.put d t):=fun x hx a r i j b r' i' j' h1 h2=>by
 rw[rb s d t x.1 (fun e he hex=>(hd x hx).1 (by rw[he,hex]))]at h1;rw[rb s d t x.2.1 (fun e he hex=>(hd x hx).2 (by rw[he,hex]))]at h2;exact hl x hx a r i j b r' i' j' h1 h2
theorem BW {k:Nat->Nat->Bool} {t:TV} {a r i j:Nat} (h:bo k t= .one (.ptr a r i j)):t= .one (.ptr a r i j):=by
 cases t with
 |one x=>cases x<;>simp only[bo,bs]at h<;>(try split at h)<;>simp_all
 |agg cs=>cases h
 |fn f cs=>cases h
 |tup ts=>cases h
theorem LW {tm:List TV} {H H':OH} {k:Nat->Nat->Bool} (hl:A3 sep ⟨tm,H⟩):A3 sep ⟨tm.map (bo k),H'⟩:=fun x hx a r i j b r' i' j' h1 h2=>by
 simp only[az]at h1 h2;obtain⟨t1,g1,g2⟩:=Option.map_eq_some_iff.1 h1;obtain⟨t2,g3,g4⟩:=Option.map_eq_some_iff.1 h2;rw[BW g2]at g1;rw[BW g4]at g3;exact hl x hx a r i j b r' i' j' g1 g3
theorem Cd (hS:Ot P sep ops) {i:Nat} {o:Oper} {s s1:AS} (ho:ops[i]?=some o) (hl:Kk sep s) (h:bZ P items ow ops i o s=some s1):Kk sep s1:=by
 refine⟨y6 hl.1 h,?_⟩;have hd:=hS.2 i o ho;rw[b9]at h;obtain⟨out,_,h⟩:=Option.bind_eq_some_iff.1 h;cases out with
 |val t=>simp only[cE]at h;injection h with h;subst h;exact An hl.2 hd
 |new t o' l=>
  simp only[cE]at h;split at h
  ·rename_i e he;split at h
   ·injection h with h;subst h
    rw[<- he];exact An (s:=⟨s.tmps,_⟩) hl.2 hd
   cases h
  cases h
 |wr q=>simp only[cE]at h;injection h with h;subst h;exact An (LW (H:=s.H) hl.2) hd
theorem JE (hS:Ot P sep ops) {l:List Nat} {s s':AS} (hl:Kk sep s) (h:ff P items ow ops l s=some s'):Kk sep s':=by
 induction l generalizing s with
 |nil=>simp only[ff]at h;injection h with h;subst h;exact hl
 |cons i l ih=>
  simp only[ff]at h;obtain⟨s1,h1,h2⟩:=Option.bind_eq_some_iff.1 h;unfold gK at h1;split at h1
  ·rename_i o ho;exact ih (Cd hS ho hl h1) h2
  cases h1
theorem I3 (tm:List TV):tm.map (bo fun _ _=>false)=tm:=by
 conv=>rhs;rw[<- List.map_id tm]
 exact List.map_congr_left fun t _=>mq t
theorem Fd {s:AS} {t:TypeId} {ad x:Operand} {q:Dz} (hn:szO P t≠some 1) (h:gG P s.ev s.H (.store t ad x)=some q): ∃b r i j F,s.ev ad=some (.one (.ptr b r i j))/\q=⟨.undef,be s.H b F,fun _ _=>false⟩:=by
 simp only[gG]at h;split at h
 ·rename_i a r i j n had hsz;have hn1:n≠1:=fun e=>hn (by rw[hsz,e])
  split at h
  ·split at h
   ·split at h
    ·split at h
     ·split at h
      ·rename_i hc;exact absurd hc.1 hn1
      cases h
     split at h
     ·split at h
      ·rename_i hc;exact absurd hc.2.2.2.2.1 hn1
      cases h
     cases h
    ·split at h
     ·split at h
      ·injection h with h;exact⟨a,r,i,j,_,had,h.symm⟩
      cases h
     cases h
    cases h
   cases h
  cases h
 cases h
theorem Nn (hS:Ot P sep ops) {i j:Nat} {oi oj:Oper} {s s1 s':AS} (hp:Nm sep oi oj=true) (hl:Kk sep s) (hij:lg ops oj oi.dst) (hji:lg ops oi oj.dst) (hd: ∀k,oi.dst=some k->oj.dst≠some k)
  (h1:bZ P items ow ops i oi s=some s1) (h2:bZ P items ow ops j oj s1=some s'): ∃s2,bZ P items ow ops j oj s=some s2/\bZ P items ow ops i oi s2=some s':=by
 unfold Nm at hp;split at hp
 ·rename_i ty p t q x eqi eqj;simp only[Bool.and_eq_true]at hp;obtain⟨⟨hm,gi⟩,gj⟩:=hp;have hm:(p,q,t)∈sep:=by simpa using hm
  have gi:oi.guard=none:=by simpa using gi
  have gj:oj.guard=none:=by simpa using gj
  rw[b9]at h1 h2;obtain⟨ui,hui,h1⟩:=Option.bind_eq_some_iff.1 h1;obtain⟨uj,huj,h2⟩:=Option.bind_eq_some_iff.1 h2;have so: ∀s,dF P items ow ops i oi s=(cj P s.ev s.H oi.op).map .val:=fun s=>by
   unfold dF gate lR;rw[gi];simp only;rw[eqi];simp only[ud,Ou,Bool.false_eq_true,if_false,if_true]
  rw[so]at hui;obtain⟨tv,htv,rfl⟩:=Option.map_eq_some_iff.1 hui;simp only[cE]at h1;injection h1 with h1
  subst h1;rw[dc hij]at huj;have huj':=huj;unfold dF gate lR at huj';rw[gj]at huj';simp only at huj';rw[eqj]at huj';simp only[ud,Ou,Bool.false_eq_true,if_false]at huj';split at huj'
  ·rename_i qq hqq;injection huj' with huj'
   subst huj';obtain⟨b,r',i',j',F,hb,rfl⟩:=Fd (hS.1 _ hm) hqq;simp only[cE]at h2;injection h2 with h2
   subst h2;refine⟨_,by rw[b9,huj];rfl,?_⟩;rw[b9,dc hji,so];simp only[I3];have e:cj P (AS.ev ⟨s.tmps,be s.H b F⟩) (be s.H b F) oi.op=some tv:=by
    rw[<- htv];refine(vt (fun y hy=>?_) (fun y hy tt ht=>?_)).symm
    ·cases y<;>rfl
    rw[eqi]at hy;have hy:y= .tmp p:=by simpa[Op.operands] using hy
    subst hy;cases tt with
    |one z=>
     cases z with
     |ptr a r i0 j0=>
      have:=hl.2 _ hm a r i0 j0 b r' i' j' ht hb;exact aZ (fun hab=>this hab.symm)
     |sl a r off len=>simp only[eqi,cj,ht]at htv;cases htv
     |p y=>trivial
     |junk=>trivial
    |agg cs=>simp only[eqi,cj,ht]at htv;cases htv
    |fn f cs=>simp only[eqi,cj,ht]at htv;cases htv
    |tup ts=>simp only[eqi,cj,ht]at htv;cases htv
   rw[e];simp only[Option.map_some,Option.bind_some,cE];rw[gA _ _ _ (fun k hk hk'=>hd k hk' (by rw[hk]))]
   congr 2
   cases oi.dst<;>rfl
  split at huj'
  ·cases huj'
  simp only[di,Jt]at huj';cases huj'
 cases hp
theorem Jv (hS:Ot P sep ops) {i j:Nat} {oi oj:Oper} {s s1 s':AS} (hp:sH sep ops oi oj=true) (hl:Kk sep s) (h1:bZ P items ow ops i oi s=some s1) (h2:bZ P items ow ops j oj s1=some s'):
  ∃s2,bZ P items ow ops j oj s=some s2/\bZ P items ow ops i oi s2=some s':=by
 unfold sH at hp;simp only[Bool.and_eq_true,Bool.or_eq_true]at hp;obtain⟨ha,hc⟩:=hp;obtain⟨a1,a2,a3⟩:=Oper.apart_spec ha;rcases hc with hc|hc
 case inr=>exact Nn hS hc hl (fun e he=>a1 e he) (fun e he=>a3 e he) (fun k hk=>a2 k hk) h1 h2
 refine JR hl.1 (fun e he=>a1 e he) (fun e he=>a3 e he) (fun k hk=>a2 k hk) ?_ h1 h2;rcases hc with(hc|hc)|hc
 ·exact .inl hc
 ·exact .inr (.inl hc)
 exact .inr (.inr ⟨Co hc.1,Co hc.2⟩)
theorem KT (hS:Ot P sep ops) {i:Nat} {oi:Oper} (hi:ops[i]?=some oi): ∀{l:List Nat} {s s':AS},Kk sep s->(∀j∈l,∃oj,ops[j]?=some oj/\sH sep ops oi oj=true)->ff P items ow ops (i::l) s=some s'->
  ∃sm,ff P items ow ops l s=some sm/\gK P items ow ops i sm=some s'
 |[],s,s',_,_,h=>by
  simp only[ff]at h;obtain⟨s1,h1,h2⟩:=Option.bind_eq_some_iff.1 h;injection h2 with h2
  subst h2;exact⟨s,rfl,h1⟩
 |j::l,s,s',hl,hj,h=>by
  simp only[ff]at h;obtain⟨s1,h1,h⟩:=Option.bind_eq_some_iff.1 h;obtain⟨s2,h2,h3⟩:=Option.bind_eq_some_iff.1 h;obtain⟨oj,hoj,hp⟩:=hj j (by simp);unfold gK at h1 h2;rw[hi]at h1;rw[hoj]at h2;obtain⟨t1,g1,g2⟩:=Jv hS hp hl h1 h2;have hr:ff P items ow ops (i::l) t1=some s':=by
   simp only[ff,gK,hi];rw[g2];exact h3
  obtain⟨sm,k1,k2⟩:=KT hS hi (Cd hS hoj hl g1) (fun j hj'=>hj j (by simp[hj'])) hr;refine⟨sm,?_,k2⟩;simp only[ff,gK,hoj];rw[g1];exact k1
def rr (n:Nat) (p:Nat->Bool):List Nat:=(List.range n).filter p
def eB (p:Nat->Bool) (i:Nat):Nat->Bool:=fun j=>j==i||p j
theorem sW {n i:Nat} (hi:i<n) (p:Nat->Bool) (hp:p i=false):
  rr n p=(List.range i).filter p++(List.range' (i+1) (n-i-1)).filter p/\rr n (eB p i)=(List.range i).filter p++i::(List.range' (i+1) (n-i-1)).filter p:=by
 have hr:List.range n=List.range i++i::List.range' (i+1) (n-i-1):=by
  have h1:=List.range'_append_1 (s:=0) (m:=i) (n:=n-i-1+1);rw[show i+(n-i-1+1)=n by omega,Nat.zero_add,List.range'_succ]at h1;rw[List.range_eq_range',List.range_eq_range'];exact h1.symm
 unfold rr;rw[hr];simp only[List.filter_append,List.filter_cons,hp];refine⟨by simp,?_⟩;have e1:(List.range i).filter (eB p i)=(List.range i).filter p:=List.filter_congr fun j hj=>by
  have:j≠i:=by have:=List.mem_range.1 hj;omega
  simp[eB,this]
 have e2:(List.range' (i+1) (n-i-1)).filter (eB p i)=(List.range' (i+1) (n-i-1)).filter p:=List.filter_congr fun j hj=>by
  have:j≠i:=by have:=(List.mem_range'_1.1 hj).1;omega
  simp[eB,this]
 rw[e1,e2];simp[eB]
theorem CW (hS:Ot P sep ops) (hd:ce sep ops=true) {p:Nat->Bool} (hc:Ki ops p) {i:Nat} (hi:i<ops.size) (hp:p i=false) {s0 s':AS} (hl:Kk sep s0) (h:ff P items ow ops (rr ops.size (eB p i)) s0=some s'):
  ∃sm,ff P items ow ops (rr ops.size p) s0=some sm/\gK P items ow ops i sm=some s':=by
 obtain⟨e1,e2⟩:=sW hi p hp;rw[e2,n6]at h;obtain⟨s1,h1,h2⟩:=Option.bind_eq_some_iff.1 h;have ho:ops[i]?=some ops[i]:=by simp[hi]
 obtain⟨sm,k1,k2⟩:=KT hS ho (JE hS hl h1) (fun j hj=>by
  obtain⟨hj1,hj2⟩:=List.mem_filter.1 hj;obtain⟨hj3,hj4⟩:=List.mem_range'_1.1 hj1;have hjn:j<ops.size:=by omega
  refine⟨ops[j],by simp[hjn],?_⟩;rcases(r7 hd).2 i j ops[i] ops[j] (by omega) ho (by simp[hjn])with hb|hb
  ·exact absurd (qB hc (j+1) j (by omega) hjn hj2 hb) (by simp[hp])
  exact hb) h2
 refine⟨sm,?_,k2⟩;rw[e1,n6,h1];exact k1
theorem F1 {p:Nat->Bool} (hc:Ki ops p) {i:Nat} (h: ∀o,ops[i]?=some o-> ∀e∈o.after,Region.binds .any e=true->p e.on=true):Ki ops (eB p i):=fun j o ho hj e he hb=>by
 by_cases hji:j=i
 ·subst hji;simp[eB,h o ho e he hb]
 have:p j=true:=by simpa[eB,hji] using hj
 simp[eB,hc j o ho this e he hb]
theorem po {n:Nat} {p:Nat->Bool}:(∀j,j<n->p j=true)\/ ∃i,i<n/\p i=false/\ ∀j,j<i->p j=true:=by
 by_cases h: ∃i,i<n/\p i=false
 ·obtain⟨i,⟨hi1,hi2⟩,hi3⟩:=bU h;refine .inr ⟨i,hi1,hi2,fun j hj=>?_⟩;cases hpj:p j with
  |true=>rfl
  |false=>have:=hi3 j ⟨by omega,hpj⟩;omega
 refine .inl fun j hj=>?_
 cases hpj:p j with
 |true=>rfl
 |false=>exact absurd ⟨j,hj,hpj⟩ h
theorem Nl (hS:Ot P sep ops) (hd:ce sep ops=true) {s0 sF:AS} (hl:Kk sep s0) (hF:ff P items ow ops (List.range ops.size) s0=some sF): ∀(m:Nat) (p:Nat->Bool),((List.range ops.size).filter fun j=>!p j).length<=m->Ki ops p-> ∃s,ff P items ow ops (rr ops.size p) s0=some s:=by
 intro m
 induction m with
 |zero=>
  intro p hm _;have hall: ∀j,j<ops.size->p j=true:=fun j hj=>by
   cases hpj:p j with
   |true=>rfl
   |false=>
    have:j∈(List.range ops.size).filter fun j=>!p j:=List.mem_filter.2 ⟨List.mem_range.2 hj,by simp[hpj]⟩
    have h0:=List.length_eq_zero_iff.1 (Nat.le_zero.1 hm);rw[h0]at this;simp at this
  refine⟨sF,?_⟩;unfold rr;rw[List.filter_eq_self.2 (fun j hj=>hall j (List.mem_range.1 hj))];exact hF
 |succ m ih=>
  intro p hm hc;rcases po (n:=ops.size) (p:=p)with hall|⟨i,hi,hpi,hlt⟩
  ·refine⟨sF,?_⟩;unfold rr;rw[List.filter_eq_self.2 (fun j hj=>hall j (List.mem_range.1 hj))];exact hF
  have hc':Ki ops (eB p i):=F1 hc fun o ho e he hb=>hlt _ ((r7 hd).1 i o ho e he hb)
  have hcount:((List.range ops.size).filter fun j=>!eB p i j).length<=m:=by
   have hsub:((List.range ops.size).filter fun j=>!p j).length=((List.range ops.size).filter fun j=>!eB p i j).length+1:=by
    obtain⟨e1,e2⟩:=sW hi (fun j=>!eB p i j) (by simp[eB]);have e3:rr ops.size (eB (fun j=>!eB p i j) i)=(List.range ops.size).filter fun j=>!p j:=List.filter_congr fun j _=>by
     by_cases hji:j=i
     ·subst hji;simp[eB,hpi]
     have:(j==i)=false:=by simpa using hji
     simp only[eB,this,Bool.false_or]
    rw[<- e3,e2];show _=(rr ops.size fun j=>!eB p i j).length+1;rw[e1]
    simp;omega
   omega
  obtain⟨s,hs⟩:=ih (eB p i) hcount hc';obtain⟨sm,h1,_⟩:=CW hS hd hc hi hpi hl hs;exact⟨sm,h1⟩
theorem jV: ∀(l:List Oper) (k:Nat) (s:AS),(∀(j:Nat) o,l[j]?=some o->ops[k+j]?=some o)->jq P items ow ops (l.zipIdx k) s=ff P items ow ops (List.range' k l.length) s
 |[],k,s,_=>rfl
 |o::l,k,s,h=>by
  simp only[List.zipIdx_cons,jq,List.length_cons,List.range'_succ,ff];have ho:ops[k]?=some o:=by have:=h 0 o rfl;simpa using this
  unfold gK;rw[ho];simp only;cases bZ P items ow ops k o s with
  |none=>rfl
  |some s1=>
   simp only[Option.bind_some];exact jV l (k+1) s1 (fun j o hj=>by have:=h (j+1) o (by simpa using hj);rwa[show k+(j+1)=k+1+j by omega]at this)
theorem mc (hS:Ot P sep ops) (hd:ce sep ops=true) {Q:Exit->Act->World->Prop} {s0 sF:AS} (R:(Nat->Bool)->AS->Act->World->Prop) (hl:Kk sep s0) (hF:ff P items ow ops (List.range ops.size) s0=some sF) (hQ: ∀p a w,(∀j,j<ops.size->p j=true)->R p sF a w->Q .normal a w)
  (hstep: ∀(p:Nat->Bool) (i:Nat) (o:Oper) (s s1:AS) (a:Act) (w:World) (K:Act->World->Prop),ops[i]?=some o->p i=false->Ki ops p/\Ki ops (eB p i)/\ff P items ow ops (rr ops.size p) s0=some s->bZ P items ow ops i o s=some s1->R p s a w->(∀v w',R (eB p i) s1 (a.put o.dst v) w'->K (a.put o.dst v) w')->if Region.wanted o (yielded ops a.tmps)then o.wp P a w K Q else K (a.put o.dst undef) w):
  ∀(fuel:Nat) (listed:Array Bool) (sL:AS) (a:Act) (w:World),listed.size=ops.size->Ki ops (fun j=>listed.getD j true)->((List.range ops.size).filter fun j=>!listed.getD j true).length<=fuel->ff P items ow ops (rr ops.size fun j=>listed.getD j true) s0=some sL->R (fun j=>listed.getD j true) sL a w->
   wpAny P .any ops Q fuel listed a w:=by
 have allQ: ∀(listed:Array Bool) (sL:AS) (a:Act) (w:World),(∀j,j<ops.size->listed.getD j true=true)->ff P items ow ops (rr ops.size fun j=>listed.getD j true) s0=some sL->R (fun j=>listed.getD j true) sL a w->Q .normal a w:=fun listed sL a w hall hs hr=>by
  unfold rr at hs;rw[List.filter_eq_self.2 (fun j hj=>hall j (List.mem_range.1 hj)),hF]at hs;injection hs with hs
  subst hs;exact hQ _ a w hall hr
 have readyNil: ∀listed:Array Bool,listed.size=ops.size->Region.ready .any ops listed=[]-> ∀j,j<ops.size->listed.getD j true=true:=fun listed hsz hr=>by
  rcases po (n:=ops.size) (p:=fun j=>listed.getD j true)with hall|⟨i,hi,hpi,hlt⟩
  ·exact hall
  exfalso;have:i∈Region.ready .any ops listed:=mem_ready.2 ⟨hpi,ops[i],by simp[hi],fun e he hb=>by
   have hlt':=(r7 hd).1 i ops[i] (by simp[hi]) e he hb;have:=hlt e.on hlt';have hes:e.on<listed.size:=by omega
   simp[hes]at this⊢;exact this⟩
  rw[hr]at this;cases this
 intro fuel
 induction fuel with
 |zero=>
  intro listed sL a w hsz hc hm hs hr;have hall: ∀j,j<ops.size->listed.getD j true=true:=fun j hj=>by
   cases hpj:listed.getD j true with
   |true=>rfl
   |false=>
    have:j∈(List.range ops.size).filter fun j=>!listed.getD j true:=List.mem_filter.2 ⟨List.mem_range.2 hj,by rw[hpj];rfl⟩
    have h0:=List.length_eq_zero_iff.1 (Nat.le_zero.1 hm);rw[h0]at this;simp at this
  refine⟨?_,allQ listed sL a w hall hs hr⟩;cases hrd:Region.ready .any ops listed with
  |nil=>rfl
  |cons i l=>
   exfalso;have hi:i∈Region.ready .any ops listed:=by rw[hrd];simp
   obtain⟨h0,o,ho,_⟩:=mem_ready.1 hi;rw[hall i (Array.getElem?_eq_some_iff.1 ho).1]at h0;cases h0
 |succ fuel ih=>
  intro listed sL a w hsz hc hm hs hr;refine⟨fun hrd=>allQ listed sL a w (readyNil listed hsz hrd) hs hr,fun i hi=>?_⟩;obtain⟨h0,o,ho,hdeps⟩:=mem_ready.1 hi;have hin:i<ops.size:=(Array.getElem?_eq_some_iff.1 ho).1;have hset:(fun j=>(listed.setIfInBounds i true).getD j true)=eB (fun j=>listed.getD j true) i:=by
   funext j;by_cases hji:j=i
   ·subst hji;simp[eB,hsz,hin]
   rw[getD_set_ne true (Ne.symm hji)];simp[eB,hji]
  have hc':Ki ops (eB (fun j=>listed.getD j true) i):=F1 hc fun o' ho' e he hb=>by
   rw[ho]at ho';injection ho' with ho'
   subst ho';have h1:=hdeps e he hb;have hes:e.on<listed.size:=by
    rcases Nat.lt_or_ge e.on listed.size with h|h
    ·exact h
    simp[Array.getElem?_eq_none h]at h1
   simp[hes]at h1⊢;exact h1
  obtain⟨s1,hs1⟩:=Nl hS hd hl hF _ (eB (fun j=>listed.getD j true) i) (Nat.le_refl _) hc';obtain⟨sm,k1,k2⟩:=CW hS hd hc hin h0 hl hs1;rw[hs]at k1;injection k1 with k1
  subst k1;unfold gK at k2;rw[ho]at k2;have hcount:((List.range ops.size).filter fun j=>!(listed.setIfInBounds i true).getD j true).length<=fuel:=by
   have e0:((List.range ops.size).filter fun j=>!(listed.setIfInBounds i true).getD j true)=rr ops.size fun j=>!eB (fun j=>listed.getD j true) i j:=by rw[<- hset];rfl
   rw[e0];obtain⟨e1,e2⟩:=sW hin (fun j=>!eB (fun j=>listed.getD j true) i j) (by simp[eB]);have e3:rr ops.size (eB (fun j=>!eB (fun j=>listed.getD j true) i j) i)=(List.range ops.size).filter fun j=>!listed.getD j true:=List.filter_congr fun j _=>by
    by_cases hji:j=i
    ·subst hji;simp only[eB,beq_self_eq_true,Bool.true_or,Bool.not_true];rw[h0];rfl
    have:(j==i)=false:=by simpa using hji
    simp only[eB,this,Bool.false_or]
   have hlen:((List.range ops.size).filter fun j=>!listed.getD j true).length=(rr ops.size fun j=>!eB (fun j=>listed.getD j true) i j).length+1:=by
    rw[<- e3,e2,e1];simp;omega
   omega
  have hst:=hstep (fun j=>listed.getD j true) i o sL s1 a w (wpAny P .any ops Q fuel (listed.setIfInBounds i true)) ho h0 ⟨hc,hc',hs⟩ k2 hr (fun v w' hr'=>ih (listed.setIfInBounds i true) s1 _ _ (by simpa using hsz) (by rw[hset];exact hc') hcount (by rw[hset];exact hs1) (by rw[hset];exact hr'));unfold wpOp;rw[ho];simp only;split at hst
  ·rename_i hw;rw[if_pos hw];exact .inl hst
  rename_i hw;rw[if_neg hw];exact hst
theorem Ik (hI:gQ P items) (hS:Ot P sep ops) (hd:ce sep ops=true) {w0:World} {O X:Nat->Prop} {Q:Exit->Act->World->Prop} {s0 sF:AS} (hl:Kk sep s0) (hF:ff P items ow ops (List.range ops.size) s0=some sF) (hQ: ∀a w,fW w0 O X sF a w->Q .normal a w):
  ∀(fuel:Nat) (listed:Array Bool) (sL:AS) (a:Act) (w:World),listed.size=ops.size->Ki ops (fun j=>listed.getD j true)->((List.range ops.size).filter fun j=>!listed.getD j true).length<=fuel->ff P items ow ops (rr ops.size fun j=>listed.getD j true) s0=some sL->fW w0 O X sL a w->
   wpAny P .any ops Q fuel listed a w:=
 mc hS hd (fun _ s a w=>fW w0 O X s a w) hl hF (fun _ a w _ hr=>hQ a w hr) (fun _ _ _ _ _ _ _ _ _ _ _ h hr hK=>j7 (Q:=Q) hI hr h hK)
theorem jO (hm:P.follows .mixedOrders=true) (items:List (aM P)) (ow:List Nat) {id:Nat} (hd:ce sep ops=true) (hz: ∀x∈sep,szO P x.2.2≠some 1) {s:AS} (hs:A3 sep s) {Q:Exit->AS->Prop} (h:bD P (items.map aM.a) ow (aY ops ops.toList 0) (some s) (Q .normal)):bL P (.region id ops true) Q s:=by
 obtain⟨sF,h1,h2⟩:=bK P (items.map aM.a) ow ops ops.toList 0 s (Q .normal) h;intro w0 O X a w r;refine wp_region_any hm ?_;have hF:ff P (items.map aM.a) ow ops (List.range ops.size) s=some sF:=by
  rw[List.range_eq_range'];have:=jV (P:=P) (items:=items.map aM.a) (ow:=ow) ops.toList 0 s (fun j o hj=>by simpa using hj);rw[h1]at this;simpa using this.symm
 have hr':fW w0 O X s a {w with drawn:=w.drawn+1}:=by
  obtain⟨q1,q2,ρ,hinv,htm⟩:=r;have e:Ext w {w with drawn:=w.drawn+1}:=⟨rfl,rfl,rfl,Nat.le_refl _,fun _ _=>rfl⟩;have htm:bY X ρ s a w:=htm;exact⟨q1,q2,ρ,hinv.grow e,htm.grow e⟩
 refine Ik (aM.ok items) (qG hd hz) hd ⟨kS r,hs⟩ hF (Q:=fun e a' w'=> ∃s',Q e s'/\fW w0 O X s' a' w') (fun a w hr=>⟨sF,h2,hr⟩) ops.size (Array.replicate ops.size false) s a _ (by simp) ?_ ?_ ?_ hr'
 ·intro j o ho hp;have hj:j<ops.size:=(Array.getElem?_eq_some_iff.1 ho).1;simp[hj]at hp
 ·exact Nat.le_trans (List.length_filter_le _ _) (by simp)
 have:rr ops.size (fun j=>(Array.replicate ops.size false).getD j true)=[]:=by
  unfold rr;rw[List.filter_eq_nil_iff];intro j hj;have:=List.mem_range.1 hj;simp[this]
 rw[this];rfl
theorem rQ (hm:P.follows .mixedOrders=true) (items:List (aM P)) (ow:List Nat) {id:Nat} {y:Code} (hd:ce [] ops=true) {s:AS} {Q:Exit->AS->Prop} (h: ∀K:AS->Prop,(∀s',bL P y Q s'->K s')->bD P (items.map aM.a) ow (aY ops ops.toList 0) (some s) K):bL P (.seq (.region id ops true) y) Q s:=
 aF (jO hm items ow hd (by simp) (fun x hx=>by simp at hx) (h _ fun _ h=>h))
theorem rP (hm:P.follows .mixedOrders=true) (items:List (aM P)) (ow:List Nat) {id:Nat} (hd:ce [] ops=true) {s:AS} {Q:Exit->AS->Prop} (h: ∀K:AS->Prop,(∀s',Q .normal s'->K s')->bD P (items.map aM.a) ow (aY ops ops.toList 0) (some s) K):bL P (.region id ops true) Q s:=
 jO hm items ow hd (by simp) (fun x hx=>by simp at hx) (h _ fun _ h=>h)
theorem uO (hm:P.follows .mixedOrders=true) {y:Code} {id:Nat} {ops:Array Oper} {s:AS} {Q:Exit->AS->Prop} (hd:ce [] ops=true) (h: ∀K:AS->Prop,(∀s',bL P y Q s'->K s')->bD P [] [] (aY ops ops.toList 0) (some s) K):bL P (.seq (.region id ops true) y) Q s:=rQ hm [] [] hd h
theorem DF (hm:P.follows .mixedOrders=true) {id:Nat} {ops:Array Oper} {s:AS} {Q:Exit->AS->Prop} (hd:ce [] ops=true) (h: ∀K:AS->Prop,(∀s',Q .normal s'->K s')->bD P [] [] (aY ops ops.toList 0) (some s) K):bL P (.region id ops true) Q s:=rP hm [] [] hd h
theorem uP (sep:List (Nat×Nat×Nat)) (hm:P.follows .mixedOrders=true) (items:List (aM P)) (ow:List Nat) {id:Nat} {y:Code} (hd:ce sep ops=true) (hz: ∀x∈sep,szO P x.2.2≠some 1) {s:AS} (hs:A3 sep s) {Q:Exit->AS->Prop} (h: ∀K:AS->Prop,(∀s',bL P y Q s'->K s')->bD P (items.map aM.a) ow (aY ops ops.toList 0) (some s) K):bL P (.seq (.region id ops true) y) Q s:=
 aF (jO hm items ow hd hz hs (h _ fun _ h=>h))
end
end
section
def Dv:PV->PV
 | .raw (.slice none 0 0)=> .sl []
 |x=>x
def Dm:AV->AV
 | .p x=> .p (Dv x)
 |x=>x
def zO (o:OObj):OObj:={o with elems:=o.elems.map (List.map Dm)}
theorem Rn {X:Nat->Prop} {w:World} {x:PV} {v:Value} (h:cu X w x v):cu X w (Dv x) v:=by
 unfold Dv;split
 ·cases h;exact .nil none 0
 exact h
theorem Rm {ρ:Rho} {H:OH} {X:Nat->Prop} {w:World} {x:AV} {v:Value} (h:x.rel ρ H X w v):(Dm x).rel ρ H X w v:=by
 cases x with
 |p x=>exact Rn h
 |sl a r off len=>exact h
 |ptr a r i j=>exact h
 |junk=>exact h
section
variable {H:OH} {d:Nat}
def zH (H:OH) (d:Nat):OH:=be H d ((H d).map zO)
theorem td {a r:Nat} {o:OObj} (h:(zH H d a)[r]?=some o): ∃o',(H a)[r]?=some o'/\((a=d/\o=zO o')\/o=o'):=by
 unfold zH at h;by_cases ha:a=d
 ·subst ha;rw[bF,az]at h;obtain⟨o',h1,h2⟩:=Option.map_eq_some_iff.1 h;exact⟨o',h1,.inl ⟨rfl,h2.symm⟩⟩
 rw[aZ ha]at h;exact⟨o,h,.inr rfl⟩
theorem Om {a r:Nat} {o:OObj} (h:(H a)[r]?=some o): ∃o',(zH H d a)[r]?=some o'/\o'.es=o.es/\o'.elems.length=o.elems.length:=by
 unfold zH;by_cases ha:a=d
 ·subst ha;exact⟨zO o,by rw[bF,az,h];rfl,rfl,by simp[zO]⟩
 exact⟨o,by rw[aZ ha];exact h,rfl,rfl⟩
theorem RT (X:Nat->Prop) (ρ:Rho):Xo X ρ (zH H d)=Xo X ρ H:=by
 funext b;apply propext;constructor
 ·rintro(h|⟨a,r,o,c,h1,h2⟩)
  ·exact .inl h
  obtain⟨o',g1,_⟩:=td h1;exact .inr ⟨a,r,o',c,g1,h2⟩
 rintro(h|⟨a,r,o,c,h1,h2⟩)
 ·exact .inl h
 obtain⟨o',g1,_⟩:=Om (d:=d) h1;exact .inr ⟨a,r,o',c,g1,h2⟩
theorem Dn {ρ:Rho} {X:Nat->Prop} {w:World} {x:AV} {v:Value} (h:x.rel ρ H X w v):x.rel ρ (zH H d) X w v:=by
 cases x with
 |p x=>exact h
 |junk=>trivial
 |sl a r off len=>
  obtain⟨o,h1,h2,h3⟩:=h;obtain⟨o',g1,g2,g3⟩:=Om (d:=d) h1;exact⟨o',g1,by omega,by rw[g2];exact h3⟩
 |ptr a r i j=>
  obtain⟨o,b,c,h1,h2,h3,h4⟩:=h;obtain⟨o',g1,g2,g3⟩:=Om (d:=d) h1;exact⟨o',b,c,g1,h2,by omega,by rw[g2];exact h4⟩
theorem U8 {ρ:Rho} {X:Nat->Prop} {w:World} {t:TV} {v:Value} (h:t.rel ρ H X w v):t.rel ρ (zH H d) X w v:=by
 have agg: ∀{cs:List AV} {v:Value},bX ρ H X w cs v->bX ρ (zH H d) X w cs v:=fun{cs v} ⟨vs,h1,h2,h3⟩=>
  ⟨vs,h1,h2,fun j x hx=>by obtain⟨u,u1,u2,u3⟩:=h3 j x hx;exact⟨u,u1,u2,Dn u3⟩⟩
 cases t with
 |one x=>exact Dn (x:=x) h
 |agg cs=>exact agg h
 |fn f cs=>obtain⟨u,h1,h2⟩:=h;exact⟨u,agg h1,h2⟩
 |tup ts=>
  obtain⟨vs,h1,h2,h3⟩:=h;refine⟨vs,h1,h2,fun j b cs hj=>?_⟩;obtain⟨u,u1,u2⟩:=h3 j b cs hj;refine⟨u,u1,?_⟩;rcases u2 with⟨e,g⟩|⟨e,x,hx,g⟩
  ·exact .inl ⟨e,agg g⟩
  exact .inr ⟨e,x,hx,Dn g⟩
theorem On {ρ:Rho} {X:Nat->Prop} {w:World} {a r:Nat} {o:OObj} (h:objRel ρ H X w a r o):objRel ρ (zH H d) X w a r (zO o)/\objRel ρ (zH H d) X w a r o:=by
 obtain⟨h1,h2,h3⟩:=h;refine⟨⟨fun e he=>?_,h2,?_⟩,⟨h1,h2,?_⟩⟩
 ·simp only[zO,ak]at he;obtain⟨e',he',rfl⟩:=he;simp only[List.length_map,zO];exact h1 e' he'
 ·cases hρ:ρ a r with
  |none=>rw[hρ]at h3;simp only at h3⊢;simp[zO,h3]
  |some bc=>
   obtain⟨b,c⟩:=bc;rw[hρ]at h3;obtain⟨cells,g1,g2,g3,g4,g5⟩:=h3;refine⟨cells,g1,g2,by simpa[zO] using g3,g4,fun i e j x hi hj=>?_⟩;simp only[zO,az]at hi;obtain⟨e',he',rfl⟩:=Option.map_eq_some_iff.1 hi;simp only[az]at hj;obtain⟨x',hx',rfl⟩:=Option.map_eq_some_iff.1 hj;obtain⟨v,v1,v2,v3⟩:=g5 i e' j x' he' hx';exact⟨v,v1,v2,Rm (Dn v3)⟩
 cases hρ:ρ a r with
 |none=>rw[hρ]at h3;exact h3
 |some bc=>
  obtain⟨b,c⟩:=bc;rw[hρ]at h3;obtain⟨cells,g1,g2,g3,g4,g5⟩:=h3;refine⟨cells,g1,g2,g3,g4,fun i e j x hi hj=>?_⟩;obtain⟨v,v1,v2,v3⟩:=g5 i e j x hi hj;exact⟨v,v1,v2,Dn v3⟩
end
theorem gR {s:AS} (d:Nat):ci s ⟨s.tmps,zH s.H d⟩:=by
 rintro w0 O X a w ⟨h1,hsz,ρ,hinv,htm⟩;refine⟨h1,hsz,ρ,⟨hinv.keep,fun a r o ho=>?_,fun a r a' r' o o' b c c' ho ho' hb hb'=>?_,fun a r o b c ho hb=>?_,hinv.bar,fun a r o ho=>?_⟩,fun t x hx=>?_⟩
 ·obtain⟨o',g1,g2⟩:=td ho;show objRel ρ (zH s.H d) (Xo X ρ (zH s.H d)) w a r o;rw[RT];rcases g2 with⟨_,rfl⟩|rfl
  ·exact(On (hinv.objs a r o' g1)).1
  exact(On (hinv.objs a r o g1)).2
 ·obtain⟨p,g1,_⟩:=td ho;obtain⟨p',g2,_⟩:=td ho';exact hinv.inj a r a' r' p p' b c c' g1 g2 hb hb'
 ·obtain⟨p,g1,_⟩:=td ho;exact hinv.old a r p b c g1 hb
 ·obtain⟨o',g1,g2⟩:=td ho;have:=hinv.self a r o' g1;rcases g2 with⟨_,rfl⟩|rfl
  ·intro e he x hx;simp only[zO,ak]at he;obtain⟨e',he',rfl⟩:=he;simp only[ak]at hx;obtain⟨x',hx',rfl⟩:=hx;have:=this e' he' x' hx';cases x'<;>first|exact this|trivial
  exact this
 obtain⟨v,v1,v2⟩:=htm t x hx;refine⟨v,v1,?_⟩;show x.rel ρ (zH s.H d) (Xo X ρ (zH s.H d)) w v;rw[RT];exact U8 v2
theorem FO {s:AS} (k:Nat) (hk:s.tmps[k]?=some (.raw (.slice none 0 0))):ci s ⟨s.tmps.set k (.one (.p (.sl []))),s.H⟩:=by
 rintro w0 O X a w ⟨h1,hsz,ρ,hinv,htm⟩;refine⟨h1,by simpa using hsz,ρ,hinv,fun t x hx=>?_⟩;by_cases htk:t=k
 ·subst htk;obtain⟨v,v1,v2⟩:=htm t _ hk;have hlt:=(List.getElem?_eq_some_iff.1 hk).1;rw[List.getElem?_set_self hlt]at hx;injection hx with hx
  subst hx;have v2:cu (Xo X ρ s.H) w (.raw (.slice none 0 0)) v:=v2;cases v2;exact⟨_,v1,cu.nil none 0⟩
 rw[List.getElem?_set_ne (fun h=>htk h.symm)]at hx;exact htm t x hx
end
def sw (p q r:Nat):Nat:=if r=p then q else if r=q then p else r
theorem RP (p q r:Nat):sw p q (sw p q r)=r:=by
 unfold sw;by_cases h1:r=p
 ·subst h1;by_cases h2:q=r<;>simp[h2]
 by_cases h2:r=q
 ·subst h2;simp[h1]
 simp[h1,h2]
def pn (a p q b r:Nat):Nat:=if b=a then sw p q r else r
theorem zM (a p q b r:Nat):pn a p q b (pn a p q b r)=r:=by
 unfold pn;by_cases h:b=a<;>simp[h,RP]
def kw (a p q:Nat):AV->AV
 | .sl b r off len=> .sl b (pn a p q b r) off len
 | .ptr b r i j=> .ptr b (pn a p q b r) i j
 |x=>x
def Fg (a p q:Nat):TV->TV
 | .one x=> .one (kw a p q x)
 | .agg cs=> .agg (cs.map (kw a p q))
 | .fn f cs=> .fn f (cs.map (kw a p q))
 | .tup ts=> .tup (ts.map fun t=>(t.1,t.2.map (kw a p q)))
def w8 (a p q:Nat) (o:OObj):OObj:={o with elems:=o.elems.map (List.map (kw a p q))}
theorem qn {s:AS} (a p q:Nat) (F:List OObj) (hF: ∀r:Nat,F[r]?=((s.H a)[sw p q r]?).map (w8 a p q)):ci s ⟨s.tmps.map (Fg a p q),be s.H a F⟩:=by
 rintro w0 O X act w ⟨h1,hsz,ρ,hinv,htm⟩;have hof: ∀(b r:Nat) o,(s.H b)[r]?=some o-> ∃o':OObj,(be s.H a F b)[pn a p q b r]?=some o'/\o'.es=o.es/\o'.elems.length=o.elems.length:=fun b r o ho=>by
  by_cases hb:b=a
  ·subst hb;refine⟨w8 b p q o,?_,rfl,by simp[w8]⟩;rw[bF,pn,if_pos rfl,hF,RP,ho];rfl
  exact⟨o,by rw[aZ hb,pn,if_neg hb];exact ho,rfl,rfl⟩
 have hget: ∀(b r:Nat) o',(be s.H a F b)[r]?=some o'-> ∃o:OObj,(s.H b)[pn a p q b r]?=some o/\((b=a/\o'=w8 a p q o)\/(b≠a/\o'=o)):=fun b r o' ho=>by
  by_cases hb:b=a
  ·subst hb;rw[bF,hF]at ho;obtain⟨o,g1,g2⟩:=Option.map_eq_some_iff.1 ho;exact⟨o,by rw[pn,if_pos rfl];exact g1,.inl ⟨rfl,g2.symm⟩⟩
  rw[aZ hb]at ho;exact⟨o',by rw[pn,if_neg hb];exact ho,.inr ⟨hb,rfl⟩⟩
 let ρ':Rho:=fun b r=>ρ b (pn a p q b r)
 have hρ: ∀b r,ρ' b (pn a p q b r)=ρ b r:=fun b r=>by show ρ b _=_;rw[zM]
 have hXo:Xo X ρ' (be s.H a F)=Xo X ρ s.H:=by
  funext b;apply propext;constructor
  ·rintro(h|⟨x,r,o,c,g1,g2⟩)
   ·exact .inl h
   obtain⟨o',g3,_⟩:=hget x r o g1;exact .inr ⟨x,_,o',c,g3,g2⟩
  rintro(h|⟨x,r,o,c,g1,g2⟩)
  ·exact .inl h
  obtain⟨o',g3,_⟩:=hof x r o g1;exact .inr ⟨x,_,o',c,g3,by rw[hρ];exact g2⟩
 have hav: ∀(Y:Nat->Prop) x v,AV.rel ρ s.H Y w x v->AV.rel ρ' (be s.H a F) Y w (kw a p q x) v:=fun Y x v h=>by
  cases x with
  |p x=>exact h
  |junk=>trivial
  |sl b r off len=>
   obtain⟨o,g1,g2,g3⟩:=h;obtain⟨o',k1,k2,k3⟩:=hof b r o g1;exact⟨o',k1,by omega,by rw[hρ,k2];exact g3⟩
  |ptr b r i j=>
   obtain⟨o,b',c,g1,g2,g3,g4⟩:=h;obtain⟨o',k1,k2,k3⟩:=hof b r o g1;exact⟨o',b',c,k1,by rw[hρ];exact g2,by omega,by rw[k2];exact g4⟩
 have hagg: ∀(Y:Nat->Prop) cs v,bX ρ s.H Y w cs v->bX ρ' (be s.H a F) Y w (cs.map (kw a p q)) v:=fun Y cs v ⟨vs,g1,g2,g3⟩=>by
  refine⟨vs,g1,by simpa using g2,fun j x hx=>?_⟩;rw[az]at hx;obtain⟨y,hy,rfl⟩:=Option.map_eq_some_iff.1 hx;obtain⟨u,u1,u2,u3⟩:=g3 j y hy;exact⟨u,u1,u2,hav Y y u u3⟩
 refine⟨h1,by simpa using hsz,ρ',⟨hinv.keep,fun b r o' ho=>?_,fun b r b' r' o o' x c c' ho ho' hb hb'=>?_,fun b r o x c ho hb=>?_,hinv.bar,fun b r o' ho=>?_⟩,fun t x hx=>?_⟩
 ·obtain⟨o,g1,g2⟩:=hget b r o' ho;have hob:=hinv.objs b _ o g1;have hself:=hinv.self b _ o g1;show objRel ρ' (be s.H a F) (Xo X ρ' (be s.H a F)) w b r o';rw[hXo];obtain⟨q1,q2,q3⟩:=hob;rcases g2 with⟨rfl,rfl⟩|⟨hb,rfl⟩
  ·refine⟨fun e he=>?_,q2,?_⟩
   ·simp only[w8,ak]at he;obtain⟨e',he',rfl⟩:=he;simp only[List.length_map,w8];exact q1 e' he'
   show match ρ b (pn b p q b r)with|none=>_|some (b,c)=>_
   cases hr:ρ b (pn b p q b r)with
   |none=>rw[hr]at q3;simp only at q3⊢;simp[w8,q3]
   |some bc=>
    obtain⟨b2,c⟩:=bc;rw[hr]at q3;obtain⟨cells,p1,p2,p3,p4,p5⟩:=q3;refine⟨cells,p1,p2,by simpa[w8] using p3,p4,fun i e j x hi hj=>?_⟩;simp only[w8,az]at hi;obtain⟨e',he',rfl⟩:=Option.map_eq_some_iff.1 hi;simp only[az]at hj;obtain⟨x',hx',rfl⟩:=Option.map_eq_some_iff.1 hj;obtain⟨v,v1,v2,v3⟩:=p5 i e' j x' he' hx';exact⟨v,v1,v2,hav _ _ _ v3⟩
  refine⟨q1,q2,?_⟩;show match ρ b (pn a p q b r)with|none=>_|some (b,c)=>_
  cases hr:ρ b (pn a p q b r)with
  |none=>rw[hr]at q3;exact q3
  |some bc=>
   obtain⟨b2,c⟩:=bc;rw[hr]at q3;obtain⟨cells,p1,p2,p3,p4,p5⟩:=q3;refine⟨cells,p1,p2,p3,p4,fun i e j x hi hj=>?_⟩;obtain⟨v,v1,v2,v3⟩:=p5 i e j x hi hj;have hs:=hself e (List.mem_of_getElem? hi) x (List.mem_of_getElem? hj);have hx:kw a p q x=x:=by
    cases x with
    |sl z _ _ _=>have hs:z=b:=hs;subst hs;simp[kw,pn,hb]
    |ptr z _ _ _=>have hs:z=b:=hs;subst hs;simp[kw,pn,hb]
    |p z=>rfl
    |junk=>rfl
   have:=hav _ _ _ v3;rw[hx]at this;exact⟨v,v1,v2,this⟩
 ·obtain⟨o1,g1,_⟩:=hget b r o ho;obtain⟨o2,g2,_⟩:=hget b' r' o' ho';obtain⟨e1,e2⟩:=hinv.inj b _ b' _ o1 o2 x c c' g1 g2 hb hb';subst e1;refine⟨rfl,?_⟩;rw[<- zM a p q b r,e2,zM]
 ·obtain⟨o1,g1,_⟩:=hget b r o ho;exact hinv.old b _ o1 x c g1 hb
 ·obtain⟨o,g1,g2⟩:=hget b r o' ho;have hs:=hinv.self b _ o g1;rcases g2 with⟨rfl,rfl⟩|⟨hb,rfl⟩
  ·intro e he x hx;simp only[w8,ak]at he;obtain⟨e',he',rfl⟩:=he;simp only[ak]at hx;obtain⟨x',hx',rfl⟩:=hx;have:=hs e' he' x' hx';cases x'<;>first|exact this|trivial
  exact hs
 simp only[az]at hx;obtain⟨y,hy,rfl⟩:=Option.map_eq_some_iff.1 hx;obtain⟨v,v1,v2⟩:=htm t y hy;refine⟨v,v1,?_⟩;show TV.rel ρ' (be s.H a F) (Xo X ρ' (be s.H a F)) w (Fg a p q y) v;rw[hXo];cases y with
 |one x=>exact hav _ _ _ v2
 |agg cs=>exact hagg _ _ _ v2
 |fn f cs=>obtain⟨u,h1,h2⟩:=v2;exact⟨u,hagg _ _ _ h1,h2⟩
 |tup ts=>
  obtain⟨vs,g1,g2,g3⟩:=v2;refine⟨vs,g1,by simpa using g2,fun j b cs hj=>?_⟩;rw[az]at hj;obtain⟨z,hz,hzz⟩:=Option.map_eq_some_iff.1 hj;obtain⟨b',cs'⟩:=z;simp at hzz;obtain⟨rfl,rfl⟩:=hzz;obtain⟨u,u1,u2⟩:=g3 j b' cs' hz;refine⟨u,u1,?_⟩;rcases u2 with⟨u2,u3⟩|⟨u2,q',rfl,u4⟩
  ·exact .inl ⟨u2,hagg _ _ _ u3⟩
  exact .inr ⟨u2,_,rfl,hav _ _ _ u4⟩
section
section
variable {P:Program}
theorem iC {items:List (dD P)} (hI:gQ P items) {ow:List Nat} {ops:Array Oper} {w0:World} {O X:Nat->Prop} {Q:Exit->Act->World->Prop} {suf:List Nat}: ∀(l:List Oper) (k:Nat) (s s':AS) (a:Act) (w:World),(∀(j:Nat) o,l[j]?=some o->ops[k+j]?=some o)->
  jq P items ow ops (l.zipIdx k) s=some s'->fW w0 O X s a w->(∀a' w',fW w0 O X s' a' w'->wpOps P ops Q suf a' w')->wpOps P ops Q (List.range' k l.length++suf) a w
 |[],k,s,s',a,w,_,h,r,hQ=>by
  simp only[List.zipIdx_nil,jq]at h;injection h with h
  subst h;exact hQ a w r
 |o::l,k,s,s',a,w,hl,h,r,hQ=>by
  simp only[List.zipIdx_cons,jq]at h;split at h
  ·rename_i s1 hs1;simp only[List.length_cons,List.range'_succ,List.cons_append,wpOps];have ho:ops[k]?=some o:=by have:=hl 0 o rfl;simpa using this
   rw[ho];simp only;have:=j7 (Q:=Q) hI r hs1 (K:=wpOps P ops Q (List.range' (k+1) l.length++suf)) (fun v w' hr=>iC hI l (k+1) s1 s' _ _ (fun j o hj=>by have:=hl (j+1) o (by simpa using hj);rwa[show k+(j+1)=k+1+j by omega]at this) h hr hQ);split at this
   ·rename_i hw;rw[if_pos hw];exact .inl this
   rename_i hw;rw[if_neg hw];exact this
  cases h
theorem A9 (m:Nat) (items:List (dD P)) (hI:gQ P items) (ow:List Nat) {id:Nat} {ops:Array Oper} {s s1 s2 s':AS} {Q:Exit->AS->Prop} (h1:jq P items ow ops ((ops.toList.take m).zipIdx 0) s=some s1) (hw:ci s1 s2)
  (h2:jq P items ow ops ((ops.toList.drop m).zipIdx (ops.toList.take m).length) s2=some s') (hQ:Q .normal s'):bL P (.region id ops false) Q s:=fun w0 O X a w r=>by
 refine wp_region ?_;have hsz:ops.size=(ops.toList.take m).length+(ops.toList.drop m).length:=by simp;omega
 rw[hsz,List.range_eq_range',<- List.range'_append_1,Nat.zero_add];refine iC hI (ops.toList.take m) 0 s s1 a w (fun j o hj=>?_) h1 r fun a' w' r'=>?_
 ·rw[List.getElem?_take]at hj;split at hj
  ·simpa using hj
  cases hj
 refine eZ hI (Q:=fun e a' w'=> ∃s',Q e s'/\fW w0 O X s' a' w') (ops.toList.drop m) _ s2 s' a' w' (fun j o hj=>?_) h2 (hw _ _ _ _ _ r') (fun a' w' hr=>⟨s',hQ,hr⟩);rw[List.getElem?_drop]at hj;have hlt:=(List.getElem?_eq_some_iff.1 hj).1;have hm:(ops.toList.take m).length=m:=by
  rw[List.length_take];omega
 rw[hm];simpa using hj
theorem xz (m:Nat) (items:List (aM P)) (ow:List Nat) {id:Nat} {ops:Array Oper} {y:Code} {s:AS} {Q:Exit->AS->Prop} (hl:s.tmps.length<=1000000) (hm:m<=ops.toList.length)
  (h: ∀K:AS->Prop,(∀s1,(∃s2,ci s1 s2/\s2.tmps.length<=1000000/\ ∀K:AS->Prop,(∀s',bL P y Q s'->K s')->bD P (items.map aM.a) ow (aY ops (ops.toList.drop m) m) (some s2) K)->K s1)->bD P (items.map aM.a) ow (aY ops (ops.toList.take m) 0) (some s) K):bL P (.seq (.region id ops false) y) Q s:=by
 obtain⟨s1,h1,s2,hw,hl2,h2⟩:=bK P (items.map aM.a) ow ops _ 0 s _ (h _ fun _ h=>h);obtain⟨s',h3,h4⟩:=bK P (items.map aM.a) ow ops _ m s2 _ (h2 _ fun _ h=>h);refine aF (A9 m _ (aM.ok items) ow h1 hw ?_ h4);rwa[show(ops.toList.take m).length=m by rw[List.length_take];omega]
end
end
def lC (rows:List (List Int)) (x:List Int):Bool:=b8 rows&&FitB rows.length x
theorem s8 (A B:Option Addr) (c d:Nat) (rows:List (List Int)) (x:List Int) (w:World) (hR:tS .i64 w A rows) (hx:RdI .i64 w B x) (lr:rows.length<=9223372036854775807) (hc:rows.length<=c) (lx:x.length<=9223372036854775807):
  Calls Tryz.prog 57 #[.slice A rows.length c,.slice B x.length d] w fun e w'=>e= .returned (.bool (lC rows x))/\Ext w w':=by
 have HR:=Lib.hid hR;have HX:=Lib.hid hx;clear hR hx;cases hI:b8 rows with
 |false=>
  have HV:Hid (lC rows x=false):=Lib.hid (by simp[lC,hI])
  go_enter Tryz.func57,Tryz.ntmps57
  go_wp2_with (go_at_call 18;refine(lj A c rows _ HR.out lr hc).mono ?_;rintro e w1 ⟨rfl,he⟩)
  go_ret
  exact⟨fP HV.out.symm,he⟩
 |true=>
  have HV:Hid (lC rows x=FitB rows.length x):=Lib.hid (by simp[lC,hI])
  go_enter Tryz.func57,Tryz.ntmps57
  go_wp2_with (first|(go_at_call 18;refine(lj A c rows _ HR.out lr hc).mono ?_;rintro e w1 ⟨rfl,he⟩;have HE:=Lib.hid he;clear he)|(go_at_call 58;refine(qJ rows.length B d x _ (HX.out.ext HE.out) lx).mono ?_;rintro e w2 ⟨rfl,rfl⟩))
  go_ret
  exact⟨fP HV.out.symm,HE.out⟩
def jw (rows:List (List Int)) (x y:List Int):Value:=
 if lC rows x=true/\FitB rows.length y=true then vq (dE x (dN rows y) x.length)else .tuple #[.int .i64 0,.bool false]
theorem x7 (A B C:Option Addr) (c d d':Nat) (rows:List (List Int)) (x y:List Int) (w:World) (hR:tS .i64 w A rows) (hx:RdI .i64 w B x) (hy:RdI .i64 w C y) (lr:rows.length<=9223372036854775807) (hc:rows.length<=c) (lx:x.length<=9223372036854775807) (ly:y.length<=9223372036854775807):
  Calls Tryz.prog 20 #[.slice A rows.length c,.slice B x.length d,.slice C y.length d'] w fun e w'=>e= .returned (jw rows x y)/\Ext w w':=by
 have HR:=Lib.hid hR;have HX:=Lib.hid hx;have HY:=Lib.hid hy;clear hR hx hy;cases hI:lC rows x with
 |false=>
  have HV:Hid (jw rows x y= .tuple #[.int .i64 0,.bool false]):=Lib.hid (by unfold jw;rw[if_neg (by simp[hI])])
  go_enter Tryz.func20,Tryz.ntmps20
  go_wp2_with (go_at_call 57;refine(s8 A B c d rows x _ HR.out HX.out lr hc lx).mono ?_;rintro e w1 ⟨rfl,he⟩)
  go_ret2
  exact⟨by rw[HV.out];rfl,he⟩
 |true=>
  cases hF:FitB rows.length y with
  |false=>
   have HV:Hid (jw rows x y= .tuple #[.int .i64 0,.bool false]):=Lib.hid (by unfold jw;rw[if_neg (by simp[hF])])
   go_enter Tryz.func20,Tryz.ntmps20
   go_wp2_with (first|(go_at_call 57;refine(s8 A B c d rows x _ HR.out HX.out lr hc lx).mono ?_;rintro e w1 ⟨rfl,he⟩;have HE:=Lib.hid he;clear he)|(go_at_call 58;refine(qJ rows.length C d' y _ (HY.out.ext HE.out) ly).mono ?_;rintro e w2 ⟨rfl,rfl⟩))
   go_ret2
   exact⟨by rw[HV.out];rfl,HE.out⟩
  |true=>
   have HV:Hid (jw rows x y=vq (dE x (dN rows y) x.length)):=Lib.hid (by unfold jw;rw[if_pos ⟨hI,hF⟩]);have hI':=hI;unfold lC at hI';rw[Bool.and_eq_true,i6]at hI';obtain⟨hr,hxl,hxb⟩:=hI';have hs:=gy hr;have h8:rows.length<=8:=hs.2.1;obtain⟨hyl,hyb⟩:=i6.1 hF;have hxle:x.length<=rows.length:=by omega
   have hxge:rows.length<=x.length:=by omega
   have hyge:rows.length<=y.length:=by omega
   have HS:=Lib.hid hs;have HYB:=Lib.hid hyb;have HXB:=Lib.hid hxb;have HA:=Lib.hid (xN hs hyb);have HAL:=Lib.hid (li rows y);clear hr hxl hs hyl hyb hxb
   go_enter Tryz.func20,Tryz.ntmps20
   go_wp2_with (first|(go_at_call 57;refine(s8 A B c d rows x _ HR.out HX.out lr hc lx).mono ?_;rintro e w1 ⟨rfl,he⟩;have HE:=Lib.hid he;clear he)|(go_at_call 58;refine(qJ rows.length C d' y _ (HY.out.ext HE.out) ly).mono ?_;rintro e w2 ⟨rfl,rfl⟩))
   refine(xO A C c d' rows y _ (HR.out.ext HE.out) (HY.out.ext HE.out) (by omega) (fun i hi=>by rw[HS.out.2.2.1 i hi];exact hyge) ly).mono ?_;rintro e w2 ⟨rfl,hrd,he2⟩;have HE2:=Lib.hid (HE.out.trans he2);have HRD:=Lib.hid hrd;clear hrd he2
   go_wp2_with fail
   have hcon:=Gq B (some ⟨w1.heap.size,0,none⟩) d rows.length x (dN rows y) w2 (HX.out.ext HE2.out) HRD.out (by rw[HAL.out];exact hxle) (by omega) (by rw[HAL.out];omega) (fun i z hz=>jZ HXB.out hz) HA.out;rw[HAL.out]at hcon;refine hcon.mono ?_;rintro e w3 ⟨rfl,he3⟩;have HE3:=Lib.hid (HE2.out.trans he3);clear he3 hcon;have HD:Hid (∃a b,vq (dE x (dN rows y) x.length)= .tuple #[a,b]):=Lib.hid (by unfold vq;split<;>exact⟨_,_,rfl⟩);obtain⟨va,vb,hd⟩:=HD.out;rw[hd];have HDD:=Lib.hid hd;clear hd
   go_wp2_with fail
   go_ret2
   exact⟨by rw[HV.out,HDD.out];rfl,HE3.out⟩
theorem Mj (A B:Option Addr) (c d:Nat) (rows:List (List Int)) (x:List Int) (w:World) (hR:tS .i64 w A rows) (hx:RdI .i64 w B x) (lr:rows.length<=9223372036854775807) (hc:rows.length<=c) (lx:x.length<=9223372036854775807):
  Calls Tryz.prog 55 #[.slice A rows.length c,.slice B x.length d] w fun e w'=>e= .returned (jw rows x x)/\Ext w w':=by
 have HD:Hid (∃a b,jw rows x x= .tuple #[a,b]):=Lib.hid (by unfold jw vq;split<;>(try split)<;>exact⟨_,_,rfl⟩);have hcon:=x7 A B B c d d rows x x w hR hx hx lr hc lx lx;obtain⟨va,vb,hd⟩:=HD.out;rw[hd]at hcon;rw[hd];have HC:=Lib.hid hcon;clear hcon hd HD
 go_enter Tryz.func55,Tryz.ntmps55
 go_wp2_with (go_at_call 20;refine HC.out.mono ?_;rintro e w1 ⟨rfl,he⟩)
 go_ret2
 exact⟨rfl,he⟩
end Go.Proofs.YtiollbhgpiiodaaGreatDoor
