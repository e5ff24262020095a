/-
  Part 8 of a proof (walks and plain facts).
-/
import Derived.Test.YtfgeomlagfomgaaDoorP06
set_option linter.all false
set_option maxRecDepth 100000
set_option maxHeartbeats 64000000
open List renaming replicate → ae
open List renaming mem_map → ak
open List renaming getElem?_eq_none → aq
open List renaming length_replicate → aw
open List renaming getElem?_map → ax
namespace Go.Proofs.YtfgeomlagfomgaaDoor
open Go.RowKit
section
def Jz:Op->Bool
 | .store ..=>false
 | .call {callee:= .builtin .append,..}=>false
 |_=>true
theorem uK {P:Program} {op:Op} (h:Jz op=true): ∀e G,d8 P e G op=none:=fun e G=>by
 cases op<;>simp only[d8]<;>try rfl
 case store=>cases h
 case call c=>
  obtain⟨callee,args,tys⟩:=c;cases callee with
  |value f=>rfl
  |invoke r m=>rfl
  |builtin b=>cases b<;>first|rfl|cases h
def fP (acc:List Nat):List Edge->Nat
 |[]=>0
 |e::l=>if Region.binds .any e then 2^e.on|||(acc.getD e.on 0|||fP acc l)else fP acc l
def oB:List Oper->List Nat->List Nat
 |[],acc=>acc
 |o::l,acc=>oB l (acc++[fP acc o.after.toList])
def CV (sep:List (Nat×Nat×Nat)) (oi oj:Oper):Bool:=match oi.op,oj.op with
 | .load _ (.tmp p),.store t (.tmp q) _=>sep.contains (p,q,t)&&oi.guard.isNone&&oj.guard.isNone
 |_,_=>false
def mP (sep:List (Nat×Nat×Nat)) (ops:Array Oper) (oi oj:Oper):Bool:=oi.apart ops oj&&(sj oi.op||sj oj.op||(Jz oi.op&&Jz oj.op)||CV sep oi oj)
def uZ (sep:List (Nat×Nat×Nat)) (ops:Array Oper) (oj:Oper) (m:Nat):List Oper->Nat->Bool
 |[],_=>true
 |oi::l,i=>(m.testBit i||mP sep ops oi oj)&&uZ sep ops oj m l (i+1)
def sQ (sep:List (Nat×Nat×Nat)) (ops:Array Oper) (A:List Nat):List Oper->Nat->Bool
 |[],_=>true
 |oj::l,j=>oj.after.all (fun e=>!Region.binds .any e||decide (e.on<j))&&uZ sep ops oj (A.getD j 0) (ops.toList.take j) 0&&sQ sep ops A l (j+1)
def cy (sep:List (Nat×Nat×Nat)) (ops:Array Oper):Bool:=sQ sep ops (oB ops.toList []) ops.toList 0&&ops.toList.all fun o=>sep.all fun x=>o.dst !=some x.1&&o.dst !=some x.2.1
def yL (sep:List (Nat×Nat×Nat)) (s:AS):Prop:= ∀x∈sep,∀a r i j b r' i' j',s.tmps[x.1]?=some (.one (.ptr a r i j))->s.tmps[x.2.1]?=some (.one (.ptr b r' i' j'))->b≠a
def AN (sep:List (Nat×Nat×Nat)) (s:AS):Prop:=lf s/\yL sep s
def DO (P:Program) (sep:List (Nat×Nat×Nat)) (ops:Array Oper):Prop:=(∀x∈sep,iN P x.2.2≠some 1)/\ ∀(j:Nat) o,ops[j]?=some o-> ∀x∈sep,o.dst≠some x.1/\o.dst≠some x.2.1
section
variable {ops:Array Oper} {sep:List (Nat×Nat×Nat)}
theorem qE: ∀(l:List Oper) (acc:List Nat),(oB l acc).length=acc.length+l.length/\(∀k,k<acc.length->(oB l acc)[k]?=acc[k]?)/\
  ∀(j:Nat) o,l[j]?=some o->(oB l acc)[acc.length+j]?=some (fP ((oB l acc).take (acc.length+j)) o.after.toList)
 |[],acc=>⟨by simp[oB],fun k _=>rfl,fun j o h=>by simp at h⟩
 |o::l,acc=>by
  obtain⟨h1,h2,h3⟩:=qE l (acc++[fP acc o.after.toList]);simp only[oB];refine⟨by rw[h1];simp;omega,fun k hk=>by rw[h2 k (by simp;omega),List.getElem?_append_left hk],fun j oj hj=>?_⟩;cases j with
  |zero=>
   simp at hj;subst hj;rw[Nat.add_zero,h2 acc.length (by simp)];have:(oB l (acc++[fP acc o.after.toList])).take acc.length=acc:=by
    apply List.ext_getElem?;intro k;rw[List.getElem?_take];split
    ·rename_i hk;rw[h2 k (by simp;omega),List.getElem?_append_left hk]
    rename_i hk;rw[aq (by omega)]
   rw[this]
   simp
  |succ j=>
   simp at hj;have:=h3 j oj hj;simp only[List.length_append,List.length_cons,List.length_nil]at this;rw[show acc.length+(0+1)+j=acc.length+(j+1) by omega]at this;exact this
theorem jw {acc:List Nat} {i:Nat}: ∀{l:List Edge},(fP acc l).testBit i=true-> ∃e∈l,Region.binds .any e=true/\(e.on=i\/(acc.getD e.on 0).testBit i=true)
 |[],h=>by simp[fP]at h
 |e::l,h=>by
  simp only[fP]at h;split at h
  ·rename_i hb;simp only[Nat.testBit_or,Bool.or_eq_true,Nat.testBit_two_pow,decide_eq_true_eq]at h;rcases h with h|h|h
   ·exact⟨e,by simp,hb,.inl h⟩
   ·exact⟨e,by simp,hb,.inr h⟩
   obtain⟨e',h1,h2⟩:=jw h;exact⟨e',by simp[h1],h2⟩
  obtain⟨e',h1,h2⟩:=jw h;exact⟨e',by simp[h1],h2⟩
def DU (ops:Array Oper) (p:Nat->Bool):Prop:= ∀(j:Nat) o,ops[j]?=some o->p j=true-> ∀e∈o.after,Region.binds .any e=true->p e.on=true
theorem Ek {p:Nat->Bool} (hp:DU ops p) {i:Nat}: ∀(n j:Nat),j<n->j<ops.size->p j=true->((oB ops.toList []).getD j 0).testBit i=true->p i=true:=by
 intro n
 induction n with
 |zero=>intro j h;omega
 |succ n ih=>
  intro j _ hjs hpj hbit;obtain⟨h1,_,h3⟩:=qE ops.toList [];have ho:ops.toList[j]?=some ops[j]:=by simp[hjs]
  have:=h3 j _ ho;simp only[List.length_nil,Nat.zero_add]at this;rw[List.getD_eq_getElem?_getD,this,Option.getD_some]at hbit;obtain⟨e,he,hb,h⟩:=jw hbit;have hpe:=hp j ops[j] (by simp[hjs]) hpj e (by simpa using he) hb;rcases h with rfl|h
  ·exact hpe
  rw[List.getD_eq_getElem?_getD,List.getElem?_take]at h;split at h
  ·rename_i hlt;exact ih e.on (by omega) (by omega) hpe (by rw[List.getD_eq_getElem?_getD];exact h)
  simp at h
theorem pK {oj:Oper} {m:Nat}: ∀{l:List Oper} {i0:Nat},uZ sep ops oj m l i0=true-> ∀(k:Nat) oi,l[k]?=some oi->m.testBit (i0+k)=true\/mP sep ops oi oj=true
 |[],i0,_,k,oi,h=>by simp at h
 |o::l,i0,h,k,oi,hk=>by
  simp only[uZ,Bool.and_eq_true,Bool.or_eq_true]at h;cases k with
  |zero=>simp at hk;subst hk;exact h.1
  |succ k=>
   simp at hk;have:=pK h.2 k oi hk;rwa[show i0+1+k=i0+(k+1) by omega]at this
theorem jR {A:List Nat}: ∀{l:List Oper} {j0:Nat},sQ sep ops A l j0=true-> ∀(k:Nat) oj,l[k]?=some oj->(∀e∈oj.after,Region.binds .any e=true->e.on<j0+k)/\uZ sep ops oj (A.getD (j0+k) 0) (ops.toList.take (j0+k)) 0=true
 |[],j0,_,k,oj,h=>by simp at h
 |o::l,j0,h,k,oj,hk=>by
  simp only[sQ,Bool.and_eq_true]at h;cases k with
  |zero=>
   simp at hk;subst hk;refine⟨fun e he hb=>?_,h.1.2⟩;have:=h.1.1;rw[Array.all_eq_true_iff_forall_mem]at this;have:=this e he;simpa[hb] using this
  |succ k=>
   simp at hk;have:=jR h.2 k oj hk;rwa[show j0+1+k=j0+(k+1) by omega]at this
theorem mD (h:cy sep ops=true):(∀(j:Nat) o,ops[j]?=some o-> ∀e∈o.after,Region.binds .any e=true->e.on<j)/\
  ∀(i j:Nat) oi oj,i<j->ops[i]?=some oi->ops[j]?=some oj->((oB ops.toList []).getD j 0).testBit i=true\/mP sep ops oi oj=true:=by
 unfold cy at h;rw[Bool.and_eq_true]at h
 replace h:=h.1
 refine⟨fun j o ho e he hb=>?_,fun i j oi oj hij hi hj=>?_⟩
 ·have:=(jR h j o (by simpa using ho)).1 e he hb;simpa using this
 have:=(jR h j oj (by simpa using hj)).2;rw[Nat.zero_add]at this;have:=pK this i oi (by rw[List.getElem?_take,if_pos hij];simpa using hi);rwa[Nat.zero_add]at this
variable {P:Program} {items:List (cH P)} {ow:List Nat}
noncomputable def ir (P:Program) (items:List (cH P)) (ow:List Nat) (ops:Array Oper) (i:Nat) (s:AS):Option AS:=match ops[i]? with
 |some o=>bJ P items ow ops i o s
 |none=>none
noncomputable def eQ (P:Program) (items:List (cH P)) (ow:List Nat) (ops:Array Oper):List Nat->AS->Option AS
 |[],s=>some s
 |i::l,s=>(ir P items ow ops i s).bind (eQ P items ow ops l)
theorem nD (l m:List Nat) (s:AS):eQ P items ow ops (l++m) s=(eQ P items ow ops l s).bind (eQ P items ow ops m):=by
 induction l generalizing s with
 |nil=>rfl
 |cons i l ih=>
  simp only[List.cons_append,eQ];cases ir P items ow ops i s with
  |none=>rfl
  |some s1=>exact ih s1
theorem oO (h:cy sep ops=true) (hz: ∀x∈sep,iN P x.2.2≠some 1):DO P sep ops:=⟨hz,fun j o ho x hx=>by
 unfold cy at h;rw[Bool.and_eq_true,List.all_eq_true]at h;have h1:=h.2 o (by simpa using Array.mem_of_getElem? ho);rw[List.all_eq_true]at h1;have h2:=h1 x hx;simpa using h2⟩
theorem sO {s:AS} {d:Option Tmp} {t:TV} (hl:yL sep s) (hd: ∀x∈sep,d≠some x.1/\d≠some x.2.1):yL sep (s.put d t):=fun x hx a r i j b r' i' j' h1 h2=>by
 rw[lX s d t x.1 (fun e he hex=>(hd x hx).1 (by rw[he,hex]))]at h1;rw[lX s d t x.2.1 (fun e he hex=>(hd x hx).2 (by rw[he,hex]))]at h2;exact hl x hx a r i j b r' i' j' h1 h2
theorem uh {k:Nat->Nat->Bool} {t:TV} {a r i j:Nat} (h:aW k t= .one (.ptr a r i j)):t= .one (.ptr a r i j):=by
 cases t with
 |one x=>cases x<;>simp only[aW,aV]at h<;>(try split at h)<;>simp_all
 |agg cs=>cases h
 |fn f cs=>cases h
 |tup ts=>cases h
theorem BX {tm:List TV} {H H':OH} {k:Nat->Nat->Bool} (hl:yL sep ⟨tm,H⟩):yL sep ⟨tm.map (aW k),H'⟩:=fun x hx a r i j b r' i' j' h1 h2=>by
 simp only[ax]at h1 h2;obtain⟨t1,g1,g2⟩:=Option.map_eq_some_iff.1 h1;obtain⟨t2,g3,g4⟩:=Option.map_eq_some_iff.1 h2;rw[uh g2]at g1;rw[uh g4]at g3;exact hl x hx a r i j b r' i' j' g1 g3
theorem uw (hS:DO P sep ops) {i:Nat} {o:Oper} {s s1:AS} (ho:ops[i]?=some o) (hl:AN sep s) (h:bJ P items ow ops i o s=some s1):AN sep s1:=by
 refine⟨rM hl.1 h,?_⟩;have hd:=hS.2 i o ho;rw[bi]at h;obtain⟨out,_,h⟩:=Option.bind_eq_some_iff.1 h;cases out with
 |val t=>simp only[bP]at h;injection h with h;subst h;exact sO hl.2 hd
 |new t o' l=>
  simp only[bP]at h;split at h
  ·rename_i e he;split at h
   ·injection h with h;subst h
    rw[<- he];exact sO (s:=⟨s.tmps,_⟩) hl.2 hd
   cases h
  cases h
 |wr q=>simp only[bP]at h;injection h with h;subst h;exact sO (BX (H:=s.H) hl.2) hd
theorem Ai (hS:DO P sep ops) {l:List Nat} {s s':AS} (hl:AN sep s) (h:eQ P items ow ops l s=some s'):AN sep s':=by
 induction l generalizing s with
 |nil=>simp only[eQ]at h;injection h with h;subst h;exact hl
 |cons i l ih=>
  simp only[eQ]at h;obtain⟨s1,h1,h2⟩:=Option.bind_eq_some_iff.1 h;unfold ir at h1;split at h1
  ·rename_i o ho;exact ih (uw hS ho hl h1) h2
  cases h1
theorem zB (tm:List TV):tm.map (aW fun _ _=>false)=tm:=by
 conv=>rhs;rw[<- List.map_id tm]
 exact List.map_congr_left fun t _=>ja t
theorem xa {s:AS} {t:TypeId} {ad x:Operand} {q:vF} (hn:iN P t≠some 1) (h:d8 P s.ev s.H (.store t ad x)=some q): ∃b r i j F,s.ev ad=some (.one (.ptr b r i j))/\q=⟨.undef,aO s.H b F,fun _ _=>false⟩:=by
 simp only[d8]at h;split at h
 ·rename_i a r i j n had hsz;have hn1:n≠1:=fun e=>hn (by rw[hsz,e])
  split at h
  ·split at h
   ·split at h
    ·split at h
     ·split at h
      ·rename_i hc;exact absurd hc.1 hn1
      cases h
     split at h
     ·split at h
      ·rename_i hc;exact absurd hc.2.2.2.2.1 hn1
      cases h
     cases h
    ·split at h
     ·split at h
      ·injection h with h;exact⟨a,r,i,j,_,had,h.symm⟩
      cases h
     cases h
    cases h
   cases h
  cases h
 cases h
theorem CW (hS:DO P sep ops) {i j:Nat} {oi oj:Oper} {s s1 s':AS} (hp:CV sep oi oj=true) (hl:AN sep s) (hij:gZ ops oj oi.dst) (hji:gZ ops oi oj.dst) (hd: ∀k,oi.dst=some k->oj.dst≠some k)
  (h1:bJ P items ow ops i oi s=some s1) (h2:bJ P items ow ops j oj s1=some s'): ∃s2,bJ P items ow ops j oj s=some s2/\bJ P items ow ops i oi s2=some s':=by
 unfold CV at hp;split at hp
 ·rename_i ty p t q x eqi eqj;simp only[Bool.and_eq_true]at hp;obtain⟨⟨hm,gi⟩,gj⟩:=hp;have hm:(p,q,t)∈sep:=by simpa using hm
  have gi:oi.guard=none:=by simpa using gi
  have gj:oj.guard=none:=by simpa using gj
  rw[bi]at h1 h2;obtain⟨ui,hui,h1⟩:=Option.bind_eq_some_iff.1 h1;obtain⟨uj,huj,h2⟩:=Option.bind_eq_some_iff.1 h2;have so: ∀s,ca P items ow ops i oi s=(bG P s.ev s.H oi.op).map .val:=fun s=>by
   unfold ca gate iG;rw[gi];simp only;rw[eqi];simp only[sj,EE,Bool.false_eq_true,if_false,if_true]
  rw[so]at hui;obtain⟨tv,htv,rfl⟩:=Option.map_eq_some_iff.1 hui;simp only[bP]at h1;injection h1 with h1
  subst h1;rw[bV hij]at huj;have huj':=huj;unfold ca gate iG at huj';rw[gj]at huj';simp only at huj';rw[eqj]at huj';simp only[sj,EE,Bool.false_eq_true,if_false]at huj';split at huj'
  ·rename_i qq hqq;injection huj' with huj'
   subst huj';obtain⟨b,r',i',j',F,hb,rfl⟩:=xa (hS.1 _ hm) hqq;simp only[bP]at h2;injection h2 with h2
   subst h2;refine⟨_,by rw[bi,huj];rfl,?_⟩;rw[bi,bV hji,so];simp only[zB];have e:bG P (AS.ev ⟨s.tmps,aO s.H b F⟩) (aO s.H b F) oi.op=some tv:=by
    rw[<- htv];refine(oQ (fun y hy=>?_) (fun y hy tt ht=>?_)).symm
    ·cases y<;>rfl
    rw[eqi]at hy;have hy:y= .tmp p:=by simpa[Op.operands] using hy
    subst hy;cases tt with
    |one z=>
     cases z with
     |ptr a r i0 j0=>
      have:=hl.2 _ hm a r i0 j0 b r' i' j' ht hb;exact aL (fun hab=>this hab.symm)
     |sl a r off len=>simp only[eqi,bG,ht]at htv;cases htv
     |p y=>trivial
     |junk=>trivial
    |agg cs=>simp only[eqi,bG,ht]at htv;cases htv
    |fn f cs=>simp only[eqi,bG,ht]at htv;cases htv
    |tup ts=>simp only[eqi,bG,ht]at htv;cases htv
   rw[e];simp only[Option.map_some,Option.bind_some,bP];rw[dV _ _ _ (fun k hk hk'=>hd k hk' (by rw[hk]))]
   congr 2
   cases oi.dst<;>rfl
  split at huj'
  ·cases huj'
  simp only[b6,z7]at huj';cases huj'
 cases hp
theorem Aa (hS:DO P sep ops) {i j:Nat} {oi oj:Oper} {s s1 s':AS} (hp:mP sep ops oi oj=true) (hl:AN sep s) (h1:bJ P items ow ops i oi s=some s1) (h2:bJ P items ow ops j oj s1=some s'):
  ∃s2,bJ P items ow ops j oj s=some s2/\bJ P items ow ops i oi s2=some s':=by
 unfold mP at hp;simp only[Bool.and_eq_true,Bool.or_eq_true]at hp;obtain⟨ha,hc⟩:=hp;obtain⟨a1,a2,a3⟩:=Oper.apart_spec ha;rcases hc with hc|hc
 case inr=>exact CW hS hc hl (fun e he=>a1 e he) (fun e he=>a3 e he) (fun k hk=>a2 k hk) h1 h2
 refine As hl.1 (fun e he=>a1 e he) (fun e he=>a3 e he) (fun k hk=>a2 k hk) ?_ h1 h2;rcases hc with(hc|hc)|hc
 ·exact .inl hc
 ·exact .inr (.inl hc)
 exact .inr (.inr ⟨uK hc.1,uK hc.2⟩)
theorem Bl (hS:DO P sep ops) {i:Nat} {oi:Oper} (hi:ops[i]?=some oi): ∀{l:List Nat} {s s':AS},AN sep s->(∀j∈l,∃oj,ops[j]?=some oj/\mP sep ops oi oj=true)->eQ P items ow ops (i::l) s=some s'->
  ∃sm,eQ P items ow ops l s=some sm/\ir P items ow ops i sm=some s'
 |[],s,s',_,_,h=>by
  simp only[eQ]at h;obtain⟨s1,h1,h2⟩:=Option.bind_eq_some_iff.1 h;injection h2 with h2
  subst h2;exact⟨s,rfl,h1⟩
 |j::l,s,s',hl,hj,h=>by
  simp only[eQ]at h;obtain⟨s1,h1,h⟩:=Option.bind_eq_some_iff.1 h;obtain⟨s2,h2,h3⟩:=Option.bind_eq_some_iff.1 h;obtain⟨oj,hoj,hp⟩:=hj j (by simp);unfold ir at h1 h2;rw[hi]at h1;rw[hoj]at h2;obtain⟨t1,g1,g2⟩:=Aa hS hp hl h1 h2;have hr:eQ P items ow ops (i::l) t1=some s':=by
   simp only[eQ,ir,hi];rw[g2];exact h3
  obtain⟨sm,k1,k2⟩:=Bl hS hi (uw hS hoj hl g1) (fun j hj'=>hj j (by simp[hj'])) hr;refine⟨sm,?_,k2⟩;simp only[eQ,ir,hoj];rw[g1];exact k1
def pS (n:Nat) (p:Nat->Bool):List Nat:=(List.range n).filter p
def dy (p:Nat->Bool) (i:Nat):Nat->Bool:=fun j=>j==i||p j
theorem m0 {n i:Nat} (hi:i<n) (p:Nat->Bool) (hp:p i=false):
  pS n p=(List.range i).filter p++(List.range' (i+1) (n-i-1)).filter p/\pS n (dy p i)=(List.range i).filter p++i::(List.range' (i+1) (n-i-1)).filter p:=by
 have hr:List.range n=List.range i++i::List.range' (i+1) (n-i-1):=by
  have h1:=List.range'_append_1 (s:=0) (m:=i) (n:=n-i-1+1);rw[show i+(n-i-1+1)=n by omega,Nat.zero_add,List.range'_succ]at h1;rw[List.range_eq_range',List.range_eq_range'];exact h1.symm
 unfold pS;rw[hr];simp only[List.filter_append,List.filter_cons,hp];refine⟨by simp,?_⟩;have e1:(List.range i).filter (dy p i)=(List.range i).filter p:=List.filter_congr fun j hj=>by
  have:j≠i:=by have:=List.mem_range.1 hj;omega
  simp[dy,this]
 have e2:(List.range' (i+1) (n-i-1)).filter (dy p i)=(List.range' (i+1) (n-i-1)).filter p:=List.filter_congr fun j hj=>by
  have:j≠i:=by have:=(List.mem_range'_1.1 hj).1;omega
  simp[dy,this]
 rw[e1,e2];simp[dy]
theorem vg (hS:DO P sep ops) (hd:cy sep ops=true) {p:Nat->Bool} (hc:DU ops p) {i:Nat} (hi:i<ops.size) (hp:p i=false) {s0 s':AS} (hl:AN sep s0) (h:eQ P items ow ops (pS ops.size (dy p i)) s0=some s'):
  ∃sm,eQ P items ow ops (pS ops.size p) s0=some sm/\ir P items ow ops i sm=some s':=by
 obtain⟨e1,e2⟩:=m0 hi p hp;rw[e2,nD]at h;obtain⟨s1,h1,h2⟩:=Option.bind_eq_some_iff.1 h;have ho:ops[i]?=some ops[i]:=by simp[hi]
 obtain⟨sm,k1,k2⟩:=Bl hS ho (Ai hS hl h1) (fun j hj=>by
  obtain⟨hj1,hj2⟩:=List.mem_filter.1 hj;obtain⟨hj3,hj4⟩:=List.mem_range'_1.1 hj1;have hjn:j<ops.size:=by omega
  refine⟨ops[j],by simp[hjn],?_⟩;rcases(mD hd).2 i j ops[i] ops[j] (by omega) ho (by simp[hjn])with hb|hb
  ·exact absurd (Ek hc (j+1) j (by omega) hjn hj2 hb) (by simp[hp])
  exact hb) h2
 refine⟨sm,?_,k2⟩;rw[e1,nD,h1];exact k1
theorem xI {p:Nat->Bool} (hc:DU ops p) {i:Nat} (h: ∀o,ops[i]?=some o-> ∀e∈o.after,Region.binds .any e=true->p e.on=true):DU ops (dy p i):=fun j o ho hj e he hb=>by
 by_cases hji:j=i
 ·subst hji;simp[dy,h o ho e he hb]
 have:p j=true:=by simpa[dy,hji] using hj
 simp[dy,hc j o ho this e he hb]
theorem ku {n:Nat} {p:Nat->Bool}:(∀j,j<n->p j=true)\/ ∃i,i<n/\p i=false/\ ∀j,j<i->p j=true:=by
 by_cases h: ∃i,i<n/\p i=false
 ·obtain⟨i,⟨hi1,hi2⟩,hi3⟩:=a8 h;refine .inr ⟨i,hi1,hi2,fun j hj=>?_⟩;cases hpj:p j with
  |true=>rfl
  |false=>have:=hi3 j ⟨by omega,hpj⟩;omega
 refine .inl fun j hj=>?_
 cases hpj:p j with
 |true=>rfl
 |false=>exact absurd ⟨j,hj,hpj⟩ h
theorem CU (hS:DO P sep ops) (hd:cy sep ops=true) {s0 sF:AS} (hl:AN sep s0) (hF:eQ P items ow ops (List.range ops.size) s0=some sF): ∀(m:Nat) (p:Nat->Bool),((List.range ops.size).filter fun j=>!p j).length<=m->DU ops p-> ∃s,eQ P items ow ops (pS ops.size p) s0=some s:=by
 intro m
 induction m with
 |zero=>
  intro p hm _;have hall: ∀j,j<ops.size->p j=true:=fun j hj=>by
   cases hpj:p j with
   |true=>rfl
   |false=>
    have:j∈(List.range ops.size).filter fun j=>!p j:=List.mem_filter.2 ⟨List.mem_range.2 hj,by simp[hpj]⟩
    have h0:=List.length_eq_zero_iff.1 (Nat.le_zero.1 hm);rw[h0]at this;simp at this
  refine⟨sF,?_⟩;unfold pS;rw[List.filter_eq_self.2 (fun j hj=>hall j (List.mem_range.1 hj))];exact hF
 |succ m ih=>
  intro p hm hc;rcases ku (n:=ops.size) (p:=p)with hall|⟨i,hi,hpi,hlt⟩
  ·refine⟨sF,?_⟩;unfold pS;rw[List.filter_eq_self.2 (fun j hj=>hall j (List.mem_range.1 hj))];exact hF
  have hc':DU ops (dy p i):=xI hc fun o ho e he hb=>hlt _ ((mD hd).1 i o ho e he hb)
  have hcount:((List.range ops.size).filter fun j=>!dy p i j).length<=m:=by
   have hsub:((List.range ops.size).filter fun j=>!p j).length=((List.range ops.size).filter fun j=>!dy p i j).length+1:=by
    obtain⟨e1,e2⟩:=m0 hi (fun j=>!dy p i j) (by simp[dy]);have e3:pS ops.size (dy (fun j=>!dy p i j) i)=(List.range ops.size).filter fun j=>!p j:=List.filter_congr fun j _=>by
     by_cases hji:j=i
     ·subst hji;simp[dy,hpi]
     have:(j==i)=false:=by simpa using hji
     simp only[dy,this,Bool.false_or]
    rw[<- e3,e2];show _=(pS ops.size fun j=>!dy p i j).length+1;rw[e1]
    simp;omega
   omega
  obtain⟨s,hs⟩:=ih (dy p i) hcount hc';obtain⟨sm,h1,_⟩:=vg hS hd hc hi hpi hl hs;exact⟨sm,h1⟩
theorem ko: ∀(l:List Oper) (k:Nat) (s:AS),(∀(j:Nat) o,l[j]?=some o->ops[k+j]?=some o)->fY P items ow ops (l.zipIdx k) s=eQ P items ow ops (List.range' k l.length) s
 |[],k,s,_=>rfl
 |o::l,k,s,h=>by
  simp only[List.zipIdx_cons,fY,List.length_cons,List.range'_succ,eQ];have ho:ops[k]?=some o:=by have:=h 0 o rfl;simpa using this
  unfold ir;rw[ho];simp only;cases bJ P items ow ops k o s with
  |none=>rfl
  |some s1=>
   simp only[Option.bind_some];exact ko l (k+1) s1 (fun j o hj=>by have:=h (j+1) o (by simpa using hj);rwa[show k+(j+1)=k+1+j by omega]at this)
theorem kF (hS:DO P sep ops) (hd:cy sep ops=true) {Q:Exit->Act->World->Prop} {s0 sF:AS} (R:(Nat->Bool)->AS->Act->World->Prop) (hl:AN sep s0) (hF:eQ P items ow ops (List.range ops.size) s0=some sF) (hQ: ∀p a w,(∀j,j<ops.size->p j=true)->R p sF a w->Q .normal a w)
  (hstep: ∀(p:Nat->Bool) (i:Nat) (o:Oper) (s s1:AS) (a:Act) (w:World) (K:Act->World->Prop),ops[i]?=some o->p i=false->bJ P items ow ops i o s=some s1->R p s a w->(∀v w',R (dy p i) s1 (a.put o.dst v) w'->K (a.put o.dst v) w')->if Region.wanted o (yielded ops a.tmps)then o.wp P a w K Q else K (a.put o.dst undef) w):
  ∀(fuel:Nat) (listed:Array Bool) (sL:AS) (a:Act) (w:World),listed.size=ops.size->DU ops (fun j=>listed.getD j true)->((List.range ops.size).filter fun j=>!listed.getD j true).length<=fuel->eQ P items ow ops (pS ops.size fun j=>listed.getD j true) s0=some sL->R (fun j=>listed.getD j true) sL a w->
   wpAny P .any ops Q fuel listed a w:=by
 have allQ: ∀(listed:Array Bool) (sL:AS) (a:Act) (w:World),(∀j,j<ops.size->listed.getD j true=true)->eQ P items ow ops (pS ops.size fun j=>listed.getD j true) s0=some sL->R (fun j=>listed.getD j true) sL a w->Q .normal a w:=fun listed sL a w hall hs hr=>by
  unfold pS at hs;rw[List.filter_eq_self.2 (fun j hj=>hall j (List.mem_range.1 hj)),hF]at hs;injection hs with hs
  subst hs;exact hQ _ a w hall hr
 have readyNil: ∀listed:Array Bool,listed.size=ops.size->Region.ready .any ops listed=[]-> ∀j,j<ops.size->listed.getD j true=true:=fun listed hsz hr=>by
  rcases ku (n:=ops.size) (p:=fun j=>listed.getD j true)with hall|⟨i,hi,hpi,hlt⟩
  ·exact hall
  exfalso;have:i∈Region.ready .any ops listed:=mem_ready.2 ⟨hpi,ops[i],by simp[hi],fun e he hb=>by
   have hlt':=(mD hd).1 i ops[i] (by simp[hi]) e he hb;have:=hlt e.on hlt';have hes:e.on<listed.size:=by omega
   simp[hes]at this⊢;exact this⟩
  rw[hr]at this;cases this
 intro fuel
 induction fuel with
 |zero=>
  intro listed sL a w hsz hc hm hs hr;have hall: ∀j,j<ops.size->listed.getD j true=true:=fun j hj=>by
   cases hpj:listed.getD j true with
   |true=>rfl
   |false=>
    have:j∈(List.range ops.size).filter fun j=>!listed.getD j true:=List.mem_filter.2 ⟨List.mem_range.2 hj,by rw[hpj];rfl⟩
    have h0:=List.length_eq_zero_iff.1 (Nat.le_zero.1 hm);rw[h0]at this;simp at this
  refine⟨?_,allQ listed sL a w hall hs hr⟩;cases hrd:Region.ready .any ops listed with
  |nil=>rfl
  |cons i l=>
   exfalso;have hi:i∈Region.ready .any ops listed:=by rw[hrd];simp
   obtain⟨h0,o,ho,_⟩:=mem_ready.1 hi;rw[hall i (Array.getElem?_eq_some_iff.1 ho).1]at h0;cases h0
 |succ fuel ih=>
  intro listed sL a w hsz hc hm hs hr;refine⟨fun hrd=>allQ listed sL a w (readyNil listed hsz hrd) hs hr,fun i hi=>?_⟩;obtain⟨h0,o,ho,hdeps⟩:=mem_ready.1 hi;have hin:i<ops.size:=(Array.getElem?_eq_some_iff.1 ho).1;have hset:(fun j=>(listed.setIfInBounds i true).getD j true)=dy (fun j=>listed.getD j true) i:=by
   funext j;by_cases hji:j=i
   ·subst hji;simp[dy,hsz,hin]
   rw[getD_set_ne true (Ne.symm hji)];simp[dy,hji]
  have hc':DU ops (dy (fun j=>listed.getD j true) i):=xI hc fun o' ho' e he hb=>by
   rw[ho]at ho';injection ho' with ho'
   subst ho';have h1:=hdeps e he hb;have hes:e.on<listed.size:=by
    rcases Nat.lt_or_ge e.on listed.size with h|h
    ·exact h
    simp[Array.getElem?_eq_none h]at h1
   simp[hes]at h1⊢;exact h1
  obtain⟨s1,hs1⟩:=CU hS hd hl hF _ (dy (fun j=>listed.getD j true) i) (Nat.le_refl _) hc';obtain⟨sm,k1,k2⟩:=vg hS hd hc hin h0 hl hs1;rw[hs]at k1;injection k1 with k1
  subst k1;unfold ir at k2;rw[ho]at k2;have hcount:((List.range ops.size).filter fun j=>!(listed.setIfInBounds i true).getD j true).length<=fuel:=by
   have e0:((List.range ops.size).filter fun j=>!(listed.setIfInBounds i true).getD j true)=pS ops.size fun j=>!dy (fun j=>listed.getD j true) i j:=by rw[<- hset];rfl
   rw[e0];obtain⟨e1,e2⟩:=m0 hin (fun j=>!dy (fun j=>listed.getD j true) i j) (by simp[dy]);have e3:pS ops.size (dy (fun j=>!dy (fun j=>listed.getD j true) i j) i)=(List.range ops.size).filter fun j=>!listed.getD j true:=List.filter_congr fun j _=>by
    by_cases hji:j=i
    ·subst hji;simp only[dy,beq_self_eq_true,Bool.true_or,Bool.not_true];rw[h0];rfl
    have:(j==i)=false:=by simpa using hji
    simp only[dy,this,Bool.false_or]
   have hlen:((List.range ops.size).filter fun j=>!listed.getD j true).length=(pS ops.size fun j=>!dy (fun j=>listed.getD j true) i j).length+1:=by
    rw[<- e3,e2,e1];simp;omega
   omega
  have hst:=hstep (fun j=>listed.getD j true) i o sL s1 a w (wpAny P .any ops Q fuel (listed.setIfInBounds i true)) ho h0 k2 hr (fun v w' hr'=>ih (listed.setIfInBounds i true) s1 _ _ (by simpa using hsz) (by rw[hset];exact hc') hcount (by rw[hset];exact hs1) (by rw[hset];exact hr'));unfold wpOp;rw[ho];simp only;split at hst
  ·rename_i hw;rw[if_pos hw];exact .inl hst
  rename_i hw;rw[if_neg hw];exact hst
theorem yX (hI:eF P items) (hS:DO P sep ops) (hd:cy sep ops=true) {w0:World} {O X:Nat->Prop} {Q:Exit->Act->World->Prop} {s0 sF:AS} (hl:AN sep s0) (hF:eQ P items ow ops (List.range ops.size) s0=some sF) (hQ: ∀a w,eW w0 O X sF a w->Q .normal a w):
  ∀(fuel:Nat) (listed:Array Bool) (sL:AS) (a:Act) (w:World),listed.size=ops.size->DU ops (fun j=>listed.getD j true)->((List.range ops.size).filter fun j=>!listed.getD j true).length<=fuel->eQ P items ow ops (pS ops.size fun j=>listed.getD j true) s0=some sL->eW w0 O X sL a w->
   wpAny P .any ops Q fuel listed a w:=
 kF hS hd (fun _ s a w=>eW w0 O X s a w) hl hF (fun _ a w _ hr=>hQ a w hr) (fun _ _ _ _ _ _ _ _ _ _ h hr hK=>f9 (Q:=Q) hI hr h hK)
theorem jW (hm:P.follows .mixedOrders=true) (items:List (aJ P)) (ow:List Nat) {id:Nat} (hd:cy sep ops=true) (hz: ∀x∈sep,iN P x.2.2≠some 1) {s:AS} (hs:yL sep s) {Q:Exit->AS->Prop} (h:bW P (items.map aJ.a) ow (bo ops ops.toList 0) (some s) (Q .normal)):bH P (.region id ops true) Q s:=by
 obtain⟨sF,h1,h2⟩:=bU P (items.map aJ.a) ow ops ops.toList 0 s (Q .normal) h;intro w0 O X a w r;refine wp_region_any hm ?_;have hF:eQ P (items.map aJ.a) ow ops (List.range ops.size) s=some sF:=by
  rw[List.range_eq_range'];have:=ko (P:=P) (items:=items.map aJ.a) (ow:=ow) ops.toList 0 s (fun j o hj=>by simpa using hj);rw[h1]at this;simpa using this.symm
 have hr':eW w0 O X s a {w with drawn:=w.drawn+1}:=by
  obtain⟨q1,q2,ρ,hinv,htm⟩:=r;have e:Ext w {w with drawn:=w.drawn+1}:=⟨rfl,rfl,rfl,Nat.le_refl _,fun _ _=>rfl⟩;have htm:bC X ρ s a w:=htm;exact⟨q1,q2,ρ,hinv.grow e,htm.grow e⟩
 refine yX (aJ.ok items) (oO hd hz) hd ⟨jG r,hs⟩ hF (Q:=fun e a' w'=> ∃s',Q e s'/\eW w0 O X s' a' w') (fun a w hr=>⟨sF,h2,hr⟩) ops.size (Array.replicate ops.size false) s a _ (by simp) ?_ ?_ ?_ hr'
 ·intro j o ho hp;have hj:j<ops.size:=(Array.getElem?_eq_some_iff.1 ho).1;simp[hj]at hp
 ·exact Nat.le_trans (List.length_filter_le _ _) (by simp)
 have:pS ops.size (fun j=>(Array.replicate ops.size false).getD j true)=[]:=by
  unfold pS;rw[List.filter_eq_nil_iff];intro j hj;have:=List.mem_range.1 hj;simp[this]
 rw[this];rfl
theorem dn (hm:P.follows .mixedOrders=true) (items:List (aJ P)) (ow:List Nat) {id:Nat} {y:Code} (hd:cy [] ops=true) {s:AS} {Q:Exit->AS->Prop} (h: ∀K:AS->Prop,(∀s',bH P y Q s'->K s')->bW P (items.map aJ.a) ow (bo ops ops.toList 0) (some s) K):bH P (.seq (.region id ops true) y) Q s:=
 aD (jW hm items ow hd (by simp) (fun x hx=>by simp at hx) (h _ fun _ h=>h))
theorem ms (hm:P.follows .mixedOrders=true) (items:List (aJ P)) (ow:List Nat) {id:Nat} (hd:cy [] ops=true) {s:AS} {Q:Exit->AS->Prop} (h: ∀K:AS->Prop,(∀s',Q .normal s'->K s')->bW P (items.map aJ.a) ow (bo ops ops.toList 0) (some s) K):bH P (.region id ops true) Q s:=
 jW hm items ow hd (by simp) (fun x hx=>by simp at hx) (h _ fun _ h=>h)
theorem eZ (hm:P.follows .mixedOrders=true) {y:Code} {id:Nat} {ops:Array Oper} {s:AS} {Q:Exit->AS->Prop} (hd:cy [] ops=true) (h: ∀K:AS->Prop,(∀s',bH P y Q s'->K s')->bW P [] [] (bo ops ops.toList 0) (some s) K):bH P (.seq (.region id ops true) y) Q s:=dn hm [] [] hd h
theorem ot (hm:P.follows .mixedOrders=true) {id:Nat} {ops:Array Oper} {s:AS} {Q:Exit->AS->Prop} (hd:cy [] ops=true) (h: ∀K:AS->Prop,(∀s',Q .normal s'->K s')->bW P [] [] (bo ops ops.toList 0) (some s) K):bH P (.region id ops true) Q s:=ms hm [] [] hd h
end
end
theorem j6 {n:Nat} (h: ¬n=0):n/4294967296<n:=Nat.div_lt_self (by omega) (by omega)
def aP (n:Nat):List Nat:=if n=0 then[]else n%4294967296::aP (n/4294967296)
termination_by n
decreasing_by exact j6 (by assumption)
theorem cq:aP 0=[]:=by rw[aP];simp
theorem j7 {n:Nat} (h:n≠0):aP n=n%4294967296::aP (n/4294967296):=by rw[aP];simp[h]
theorem aQ (n:Nat):natV (aP n)=n:=by
 induction n using Nat.strongRecOn with
 |_ n ih=>
  by_cases h:n=0
  ·subst h;rw[cq];rfl
  rw[j7 h,natV,ih _ (j6 h)];omega
theorem be (n:Nat):Lmb (aP n):=by
 induction n using Nat.strongRecOn with
 |_ n ih=>
  by_cases h:n=0
  ·subst h;rw[cq];intro a ha;simp at ha
  rw[j7 h];intro a ha;rcases List.mem_cons.1 ha with rfl|ha
  ·omega
  exact ih _ (j6 h) a ha
theorem cE (n:Nat):ld (aP n):=by
 induction n using Nat.strongRecOn with
 |_ n ih=>
  by_cases h:n=0
  ·subst h;rw[cq];simp[ld]
  rw[j7 h];by_cases h2:n/4294967296=0
  ·rw[h2,cq];simp[ld];omega
  have:=ih _ (j6 h);rw[j7 h2]at this⊢;unfold ld at*
  rw[List.getLast?_cons_cons];exact this
theorem BJ {l:List Nat} (h1:Lmb l) (h2:ld l):l=aP (natV l):=
 Eh h1 (be _) h2 (cE _) (aQ _).symm
theorem gH {l:List Nat} (h1:Lmb l):dJ l=aP (natV l):=by
 rw[BJ (Dl h1) (Dk l),zS]
theorem kp (n:Nat):dJ (aP n)=aP n:=nG (cE n)
theorem sv {n:Nat}:aP n=[]↔n=0:=⟨fun h=>by rw[<- aQ n,h];rfl,fun h=>by rw[h,cq]⟩
theorem iD {n k:Nat} (h:n<4294967296^k):(aP n).length<=k:=vT (cE n) (by rw[aQ];exact h)
theorem gn {n:Nat}:(aP n).length=0↔n=0:=by rw[List.length_eq_zero_iff,sv]
def Sz (z:Int) (k:Nat):Prop:=z.natAbs<4294967296^k
theorem Sz.len {z:Int} {k:Nat} (h:Sz z k):(aP z.natAbs).length<=k:=iD h
theorem Sz.mono {z:Int} {k l:Nat} (h:Sz z k) (hl:k<=l):Sz z l:=Nat.lt_of_lt_of_le h (Nat.pow_le_pow_right (by omega) hl)
def fZ (z:Int):List PV:=[.raw (.bool (decide (z<0))),.sl (ls fU (aP z.natAbs))]
def cZ (z:Int):List AV:=[.p (.raw (.bool (decide (z<0)))),.p (.sl (ls fU (aP z.natAbs)))]
abbrev tZ (z:Int):TV:= .agg [.p (.raw (.bool (decide (z<0)))),.p (.sl (ls fU (aP z.natAbs)))]
theorem vm (neg:Bool) (n:Nat):(fN neg n).natAbs=n:=by unfold fN;split<;>simp
theorem FD (neg:Bool) (n:Nat):decide (fN neg n<0)=(neg&&decide (0<n)):=by
 unfold fN;cases neg with
 |true=>simp
 |false=>simp
abbrev Bg (z:Int):Prop:=Sz z 1073741824
theorem Bg.len {z:Int} (h:Bg z):(aP z.natAbs).length<=1073741824:=iD h
theorem Hk (z:Int):fN (!decide (z<0)) z.natAbs= -z:=by unfold fN;by_cases h:z<0<;>simp[h]<;>omega
theorem yh (z:Int):fN (decide (z<0)) z.natAbs=z:=by unfold fN;by_cases h:z<0<;>simp[h]<;>omega
def r6 (a b:Int):Int:=if a<b then -1 else if a=b then 0 else 1
theorem vj (z:Int): -1<=sg z/\sg z<=1:=by unfold sg;split<;>(try split)<;>omega
theorem vV (a b:Nat): -1<=gg a b/\gg a b<=1:=by unfold gg;split<;>(try split)<;>omega
theorem En {a b:Int} (h:sg a≠sg b):r6 a b=if sg a<sg b then -1 else 1:=by
 unfold sg r6 at*
 (repeat' split at*)<;>omega
theorem Em {a b:Int} (h:sg a=sg b):r6 a b=sg a*gg a.natAbs b.natAbs:=by
 unfold sg r6 gg at*
 (repeat' split at*)<;>omega
def sumL:List Nat->List Nat->Nat->List Nat
 |[],[],c=>[c]
 |a::m,[],c=>(c+a)%4294967296::sumL m [] ((c+a)/4294967296)
 |[],b::n,c=>(c+b)%4294967296::sumL [] n ((c+b)/4294967296)
 |a::m,b::n,c=>(c+a+b)%4294967296::sumL m n ((c+a+b)/4294967296)
theorem ke: ∀(m n:List Nat) (c:Nat),natV (sumL m n c)=natV m+natV n+c
 |[],[],c=>by simp[sumL,natV]
 |a::m,[],c=>by simp only[sumL,natV,ke m []];omega
 |[],b::n,c=>by simp only[sumL,natV,ke [] n];omega
 |a::m,b::n,c=>by simp only[sumL,natV,ke m n];omega
theorem dz {a:Nat} {l:List Nat}:Lmb (a::l)↔a<4294967296/\Lmb l:=by simp[Lmb]
theorem lL: ∀(m n:List Nat) (c:Nat),Lmb m->Lmb n->c<=1->Lmb (sumL m n c)
 |[],[],c,_,_,hc=>by simp[sumL,Lmb];omega
 |a::m,[],c,hm,hn,hc=>by
  rw[dz]at hm;rw[sumL,dz];exact⟨Nat.mod_lt _ (by omega),lL m [] _ hm.2 hn (by omega)⟩
 |[],b::n,c,hm,hn,hc=>by
  rw[dz]at hn;rw[sumL,dz];exact⟨Nat.mod_lt _ (by omega),lL [] n _ hm hn.2 (by omega)⟩
 |a::m,b::n,c,hm,hn,hc=>by
  rw[dz]at hm hn;rw[sumL,dz];exact⟨Nat.mod_lt _ (by omega),lL m n _ hm.2 hn.2 (by omega)⟩
theorem mm: ∀(m n:List Nat) (c:Nat),(sumL m n c).length=max m.length n.length+1
 |[],[],c=>by simp[sumL]
 |a::m,[],c=>by simp[sumL,mm m []]
 |[],b::n,c=>by simp[sumL,mm [] n]
 |a::m,b::n,c=>by simp[sumL,mm m n]
theorem i9 {l:List Nat} {i a:Nat} (h:l[i]?=some a):l.drop i=a::l.drop (i+1):=by
 obtain⟨h1,rfl⟩:=List.getElem?_eq_some_iff.1 h;exact List.drop_eq_getElem_cons h1
theorem jB {l:List Nat} {i:Nat} (h:l.length<=i):l.drop i=[]:=List.drop_eq_nil_iff.2 h
theorem cd {l:List Nat} {i a:Nat} (hl:Lmb l) (h:l[i]?=some a):a<4294967296:=hl a (List.mem_of_getElem? h)
theorem yH (x:Nat):IntKind.u32.wrap (x:Int)=((x%4294967296:Nat):Int):=by rw[IntKind.wrap_u32];omega
theorem Gq (x:Nat):(x:Int).fdiv (2^(min 32 IntKind.u64.bits))=((x/4294967296:Nat):Int):=by
 show Int.fdiv (x:Int) 4294967296=_;rw[Int.fdiv_eq_ediv_of_nonneg _ (by omega)];omega
def diffL:List Nat->List Nat->Nat->List Nat
 |[],_,_=>[]
 |a::m,[],w=>(a+8589934592-w)%4294967296::diffL m [] (if a<w then 1 else 0)
 |a::m,b::n,w=>(a+8589934592-(w+b))%4294967296::diffL m n (if a<w+b then 1 else 0)
theorem kT: ∀(m n:List Nat) (w:Nat),Lmb m->Lmb n->w<=1->n.length<=m.length->natV n+w<=natV m->natV (diffL m n w)+(natV n+w)=natV m
 |[],[],w,_,_,_,_,h=>by simp[diffL,natV]at*;omega
 |[],b::n,w,_,_,_,h,_=>by simp at h
 |a::m,[],w,hm,hn,hw,hl,h=>by
  rw[dz]at hm;simp only[natV]at h;have:=kT m [] (if a<w then 1 else 0) hm.2 hn (by split<;>omega) (by simp) (by simp only[natV];split<;>omega);simp only[diffL,natV]at this⊢;split at this<;>rename_i hlt<;>simp only[hlt,if_true,if_false]<;>omega
 |a::m,b::n,w,hm,hn,hw,hl,h=>by
  rw[dz]at hm hn;simp only[natV]at h;have:=kT m n (if a<w+b then 1 else 0) hm.2 hn.2 (by split<;>omega) (by simpa using hl) (by split<;>omega);simp only[diffL,natV]at this⊢;split at this<;>rename_i hlt<;>simp only[hlt,if_true,if_false]<;>omega
theorem mK: ∀(m n:List Nat) (w:Nat),Lmb (diffL m n w)
 |[],n,w=>by simp[diffL,Lmb]
 |a::m,[],w=>by rw[diffL,dz];exact⟨Nat.mod_lt _ (by omega),mK m [] _⟩
 |a::m,b::n,w=>by rw[diffL,dz];exact⟨Nat.mod_lt _ (by omega),mK m n _⟩
theorem mB: ∀(m n:List Nat) (w:Nat),(diffL m n w).length=m.length
 |[],n,w=>by simp[diffL]
 |a::m,[],w=>by simp[diffL,mB m []]
 |a::m,b::n,w=>by simp[diffL,mB m n]
structure Ji (m n:List Nat) where
 i:Nat
 o:List Nat
 c:Nat
 hi:i<=m.length
 hc:c<=1
 ho:o.length=i
 h:o++diffL (m.drop i) (n.drop i) c=diffL m n 0
abbrev Bh (z:Int):Prop:=Sz z 536870912
theorem Bh.bg {z:Int} (h:Bh z):Bg z:=h.mono (by omega)
theorem Bh.len {z:Int} (h:Bh z):(aP z.natAbs).length<=536870912:=iD h
theorem Sz.neg {z:Int} {k:Nat} (h:Sz z k):Sz (-z) k:=by unfold Sz;rw[Int.natAbs_neg];exact h
theorem Bh.neg {z:Int} (h:Bh z):Bh (-z):=Sz.neg h
theorem jJ {l m:List Nat} (hl:Lmb l) (cm:ld m) (h:natV m<=natV l):m.length<=l.length:=by
 by_cases hc:m.length<=l.length
 ·exact hc
 have:=jK hl cm (by omega);omega
theorem pb: ∀(l:List Nat) (k v o:Nat),l[k]?=some o->natV (l.set k v)+o*4294967296^k=natV l+v*4294967296^k
 |[],k,v,o,h=>by simp at h
 |a::l,0,v,o,h=>by simp at h;subst h;simp[natV];omega
 |a::l,k+1,v,o,h=>by
  simp at h;have:=pb l k v o h;simp only[List.set_cons_succ,natV,Nat.pow_succ];have e1:o*(4294967296^k*4294967296)=4294967296*(o*4294967296^k):=by rw[<- Nat.mul_assoc,Nat.mul_comm]
  have e2:v*(4294967296^k*4294967296)=4294967296*(v*4294967296^k):=by rw[<- Nat.mul_assoc,Nat.mul_comm]
  rw[e1,e2];omega
theorem yd {l:List Nat} (h:Lmb l) {k v:Nat} (hv:v<4294967296):Lmb (l.set k v):=fun a ha=>by
 rcases List.mem_or_eq_of_mem_set ha with ha|rfl
 ·exact h a ha
 exact hv
theorem Cf (n:Nat):natV (ae n 0)=0:=by induction n with
 |zero=>rfl
 |succ n ih=>simp[List.replicate_succ,natV,ih]
theorem aZ {l:List Nat} {i a:Nat} (h:l[i]?=some a):natV (l.take (i+1))=natV (l.take i)+a*4294967296^i:=by
 obtain⟨h1,rfl⟩:=List.getElem?_eq_some_iff.1 h;rw[List.take_succ_eq_append_getElem h1,fD,List.length_take,Nat.min_eq_left (by omega)];simp[natV,Nat.mul_comm]
theorem lK (n:Nat):ae n [AV.p (.raw (.int .u32 0))]=lc fU (ae n 0):=by simp[lc,fU]
theorem cQ (l:List Nat) (k v:Nat):(lc fU l).set k [AV.p (.raw (.int .u32 (v:Int)))]=lc fU (l.set k v):=by simp[lc,fU,List.map_set]
structure AO (A B:List Nat) where
 i:Nat
 O:List Nat
 hi:i<=A.length
 len:O.length=A.length+B.length
 lmb:Lmb O
 val:natV O=natV (A.take i)*natV B
 zero: ∀k,i+B.length<=k->k<A.length+B.length->O[k]?=some 0
structure DX (A B:List Nat) (i a:Nat) where
 j:Nat
 O:List Nat
 c:Nat
 hj:j<=B.length
 len:O.length=A.length+B.length
 lmb:Lmb O
 hc:c<4294967296
 val:natV O+c*4294967296^(i+j)=natV (A.take i)*natV B+a*natV (B.take j)*4294967296^i
 zero: ∀k,i+B.length<=k->k<A.length+B.length->O[k]?=some 0
theorem mM {a b:Nat} (ha:a<4294967296) (hb:b<4294967296):a*b<=18446744065119617025:=by
 have:a*b<=4294967295*4294967295:=Nat.mul_le_mul (by omega) (by omega);omega
theorem zJ {A B:List Nat} {i a:Nat} (g:DX A B i a) {y o:Nat} (hy:B[g.j]?=some y) (ho:g.O[i+g.j]?=some o) (hi:i<A.length) (ha:a<4294967296) (hy':y<4294967296):
  ∃g':DX A B i a,g'.j=g.j+1/\g'.O=g.O.set (i+g.j) ((g.c+(a*y+o))%4294967296)/\g'.c=(g.c+(a*y+o))/4294967296:=by
 have hjl:g.j<B.length:=(List.getElem?_eq_some_iff.1 hy).1;have ho':=cd g.lmb ho;have hb:=mM ha hy';have hc:=g.hc;refine⟨⟨g.j+1,g.O.set (i+g.j) ((g.c+(a*y+o))%4294967296),(g.c+(a*y+o))/4294967296,hjl,by simp[g.len],yd g.lmb (Nat.mod_lt _ (by omega)),?_,?_,fun k h1 h2=>?_⟩,rfl,rfl,rfl⟩
 ·generalize a*y=p at*
  omega
 ·have h1:=pb g.O (i+g.j) ((g.c+(a*y+o))%4294967296) o ho;have h2:=aZ hy;have h3:=g.val;rw[h2,show i+(g.j+1)=i+g.j+1 by omega,Nat.pow_succ,Nat.mul_add a,Nat.add_mul];have e1:a*(y*4294967296^g.j)*4294967296^i=a*y*4294967296^(i+g.j):=by
   rw[<- Nat.mul_assoc,Nat.mul_assoc,<- Nat.pow_add,Nat.add_comm g.j i]
  rw[e1];generalize 4294967296^(i+g.j)=X at*
  generalize a*y=p at*
  have e2:(g.c+(p+o))=(g.c+(p+o))%4294967296+4294967296*((g.c+(p+o))/4294967296):=(Nat.mod_add_div _ _).symm;generalize hr:(g.c+(p+o))%4294967296=r at*
  generalize hq:(g.c+(p+o))/4294967296=q at*
  generalize natV (g.O.set (i+g.j) r)=N at*
  generalize natV g.O=M at*
  generalize natV (A.take i)*natV B=U at*
  generalize a*natV (B.take g.j)*4294967296^i=V at*
  -- N + o X = M + r X, M + c X = U + V, c + p + o = r + B q
  have e3:g.c*X+(p*X+o*X)=r*X+q*(X*4294967296):=by
   have:=congrArg (· *X) e2;simp only[Nat.add_mul]at this;rw[this]
   congr 1
   rw[Nat.mul_comm 4294967296 q,Nat.mul_assoc,Nat.mul_comm 4294967296 X]
  omega
 rw[List.getElem?_set_ne (by omega)];exact g.zero k h1 h2
theorem zI {A B:List Nat} {i a:Nat} (hA:A[i]?=some a) (g:DX A B i a) (hj: ¬g.j<B.length): ∃g':AO A B,g'.i=i+1/\g'.O=g.O.set (i+B.length) g.c:=by
 have hi:=(List.getElem?_eq_some_iff.1 hA).1;have hjl:=g.hj;have e:g.j=B.length:=by omega
 have hz:=g.zero (i+B.length) (Nat.le_refl _) (by omega);refine⟨⟨i+1,g.O.set (i+B.length) g.c,hi,by simp[g.len],yd g.lmb g.hc,?_,fun k h1 h2=>?_⟩,rfl,rfl⟩
 ·have h1:=pb g.O (i+B.length) g.c 0 hz;have h2:=g.val;rw[e,List.take_length]at h2;rw[aZ hA,Nat.add_mul];have e1:a*4294967296^i*natV B=a*natV B*4294967296^i:=by rw[Nat.mul_assoc,Nat.mul_comm (4294967296^i),<- Nat.mul_assoc]
  rw[e1];omega
 rw[List.getElem?_set_ne (by omega)];exact g.zero k (by omega) h2
theorem ES (a b:Int):fN (!(decide (a<0)==decide (b<0))) (a.natAbs*b.natAbs)=a*b:=by
 have h:=Int.natAbs_mul a b;unfold fN;rcases Int.lt_or_le a 0 with ha|ha<;>rcases Int.lt_or_le b 0 with hb|hb
 ·have:0<a*b:=Int.mul_pos_of_neg_of_neg ha hb;simp[ha,hb];omega
 ·have:a*b<=0:=Int.mul_nonpos_of_nonpos_of_nonneg (by omega) hb;have hb': ¬b<0:=by omega
  simp[ha,hb'];omega
 ·have:a*b<=0:=Int.mul_nonpos_of_nonneg_of_nonpos ha (by omega);have ha': ¬a<0:=by omega
  simp[ha',hb];omega
 have:0<=a*b:=Int.mul_nonneg ha hb;have ha': ¬a<0:=by omega
 have hb': ¬b<0:=by omega
 simp[ha',hb'];omega
abbrev JV (neg:Bool) (A:List Nat):List OObj:=[⟨52,2,[[.p (.raw (.bool neg)),.p (.sl (ls fU A))]]⟩]
abbrev JU:List OObj:=[⟨52,2,[[.raw (.bool false),.raw (.slice none 0 0)]]⟩]
theorem sJ (a b n:Nat) (h:b<2^n):(a*2^n)|||b=a*2^n+b:=by
 have:=Nat.shiftLeft_add_eq_or_of_lt h a;rw[Nat.shiftLeft_eq]at this;exact this.symm
theorem sI (a b n:Nat) (h:b<2^n):b|||(a*2^n)=a*2^n+b:=by rw[Nat.or_comm,sJ a b n h]
theorem wQ (a b:Nat) (ha:a<18446744073709551616) (hb:b<18446744073709551616):IntKind.u64.wrap (((BitVec.ofInt IntKind.u64.bits (a:Int)|||BitVec.ofInt IntKind.u64.bits (b:Int)).toNat:Nat):Int)=((a|||b:Nat):Int):=by
 rw[IntKind.wrap_u64];show((BitVec.ofInt 64 (a:Int)|||BitVec.ofInt 64 (b:Int)).toNat:Int)%_=_;rw[BitVec.toNat_or];have e: ∀x:Nat,x<18446744073709551616->(BitVec.ofInt 64 (x:Int)).toNat=x:=fun x hx=>by rw[BitVec.toNat_ofInt];show((x:Int)%18446744073709551616).toNat=x;omega
 rw[e a ha,e b hb];have:=Nat.or_lt_two_pow (n:=64) ha hb;generalize a|||b=c at*
 omega
structure Jl (l:List Nat) where
 i:Nat
 u:Nat
 hi:i<=l.length/\i<=2
 hu:u=natV (l.take i)
theorem dT {l:List Nat} (h:Lmb l) (k:Nat):natV (l.take k)<4294967296^k:=by
 have h1:Lmb (l.take k):=fun a ha=>h a (List.mem_of_mem_take ha)
 have h2:=eL h1;exact Nat.lt_of_lt_of_le h2 (Nat.pow_le_pow_right (by omega) (by rw[List.length_take];omega))
theorem ny {n:Nat} (h:(aP n).length<=2):n<18446744073709551616:=by
 have h1:=eL (be n);rw[aQ]at h1;have h2:4294967296^(aP n).length<=4294967296^2:=Nat.pow_le_pow_right (by omega) h;omega
theorem El {a b:Nat} (h:b<=a):0<=gg a b:=by unfold gg;split<;>(try split)<;>omega
abbrev zc (a b:Nat):TV:= .tup [(false,[.p (.sl (ls fU (aP (a/b))))]),(false,[.p (.sl (ls fU (aP (a%b))))])]
theorem su {a b:Nat} (h:a<=b):(aP a).length<=(aP b).length:=jJ (be _) (cE _) (by rw[aQ,aQ];exact h)
def tq (a b:Int):Int:=fN (!(decide (a<0)==decide (b<0))) (a.natAbs/b.natAbs)
def tr (a b:Int):Int:=fN (decide (a<0)) (a.natAbs%b.natAbs)
theorem Dg (a b:Int):tr a b+b*tq a b=a:=by
 have h:=Nat.div_add_mod a.natAbs b.natAbs;have h':(b.natAbs:Int)*((a.natAbs/b.natAbs:Nat):Int)+((a.natAbs%b.natAbs:Nat):Int)=(a.natAbs:Int):=by
  have:=congrArg (Nat.cast (R:=Int)) h;simpa using this
 unfold tq tr fN;generalize a.natAbs/b.natAbs=q at*
 generalize a.natAbs%b.natAbs=r at*
 by_cases ha:a<0<;>by_cases hb:b<0
 ·rw[decide_eq_true ha,decide_eq_true hb];show -(r:Int)+b*(q:Int)=a;rw[show(b.natAbs:Int)= -b by omega,show(a.natAbs:Int)= -a by omega,Int.neg_mul]at h';omega
 ·rw[decide_eq_true ha,decide_eq_false hb];show -(r:Int)+b* -(q:Int)=a;rw[show(b.natAbs:Int)=b by omega,show(a.natAbs:Int)= -a by omega]at h';rw[Int.mul_neg];omega
 ·rw[decide_eq_false ha,decide_eq_true hb];show(r:Int)+b* -(q:Int)=a;rw[show(b.natAbs:Int)= -b by omega,show(a.natAbs:Int)=a by omega,Int.neg_mul]at h';rw[Int.mul_neg];omega
 rw[decide_eq_false ha,decide_eq_false hb];show(r:Int)+b*(q:Int)=a;rw[show(b.natAbs:Int)=b by omega,show(a.natAbs:Int)=a by omega]at h';omega
theorem Ii (a b:Int):(tr a b).natAbs=a.natAbs%b.natAbs:=vm _ _
theorem Dh {a b:Int} (hb:b≠0):(tr a b).natAbs<b.natAbs:=by rw[Ii];exact Nat.mod_lt _ (by omega)
theorem Bz {a b:Int} (hb:b≠0) (h:0<=tr a b):a/b=tq a b/\a%b=tr a b:=by
 have h1:=Dg a b;have h2:=Dh (a:=a) hb;rcases Int.lt_or_gt_of_ne hb with hn|hp
 ·exact(Int.ediv_emod_unique' hn).2 ⟨h1,h,by omega⟩
 exact(Int.ediv_emod_unique hp).2 ⟨h1,h,by omega⟩
theorem Es {a b:Int} (hb:b<0) (h:tr a b<0):a/b=tq a b+1/\a%b=tr a b+b.natAbs:=by
 have h1:=Dg a b;have h2:=Dh (a:=a) (b:=b) (by omega);refine(Int.ediv_emod_unique' hb).2 ⟨?_,by omega,by omega⟩;rw[Int.mul_add,Int.mul_one];omega
theorem Et {a b:Int} (hb:0<b) (h:tr a b<0):a/b=tq a b-1/\a%b=tr a b+b.natAbs:=by
 have h1:=Dg a b;have h2:=Dh (a:=a) (b:=b) (by omega);refine(Int.ediv_emod_unique hb).2 ⟨?_,by omega,by omega⟩;rw[Int.mul_sub,Int.mul_one];omega
theorem Sz.le {x y:Int} {k:Nat} (h:Sz y k) (hx:x.natAbs<=y.natAbs):Sz x k:=Nat.lt_of_le_of_lt hx h
theorem Ih {k:Nat} (h:0<k):Sz 1 k:=by unfold Sz;exact Nat.one_lt_pow (by omega) (by decide)
def fR {α:Type} (f:α->List PV) (r:List α):List PV:=[.sl (ls f r)]
abbrev gF (M:List (List Int)):TV:= .one (.p (.sl (ls (fR fZ) M)))
abbrev JB (n:Nat) (r:List Int):Prop:=1<=r.length/\r.length<=16/\r.length=n
def AG (M:List (List Int)):Prop:=1<=M.length/\M.length<=16/\ ∀r∈M,JB (M.headD []).length r
instance (M:List (List Int)):Decidable (AG M):=by unfold AG;exact inferInstance
def Is (M:List (List Int)):TV:=if AG M then .tup [(false,[.p (.raw (.int .i64 (M.length:Int)))]),(false,[.p (.raw (.int .i64 ((M.headD []).length:Int)))]),(false,[.p (.raw (.bool true))])]
 else .tup [(false,[.p (.raw (.int .i64 0))]),(false,[.p (.raw (.int .i64 0))]),(false,[.p (.raw (.bool false))])]
theorem iq {M:List (List Int)} (h: ¬AG M):Is M= .tup [(false,[.p (.raw (.int .i64 0))]),(false,[.p (.raw (.int .i64 0))]),(false,[.p (.raw (.bool false))])]:=by unfold Is;rw[if_neg h]
theorem oc {M:List (List Int)} (h:AG M):Is M= .tup [(false,[.p (.raw (.int .i64 (M.length:Int)))]),(false,[.p (.raw (.int .i64 ((M.headD []).length:Int)))]),(false,[.p (.raw (.bool true))])]:=by unfold Is;rw[if_pos h]
theorem lH {M:List (List Int)} (h:1<=M.length):M[0]?=some (M.headD []):=by cases M with
 |nil=>simp at h
 |cons r M=>rfl
def JH (M:List (List Int)):Prop:=AG M/\M.length=(M.headD []).length
instance (M:List (List Int)):Decidable (JH M):=by unfold JH;exact inferInstance
section
def DR:PV->PV
 | .raw (.slice none 0 0)=> .sl []
 |x=>x
def DK:AV->AV
 | .p x=> .p (DR x)
 |x=>x
def zO (o:OObj):OObj:={o with elems:=o.elems.map (List.map DK)}
theorem Gb {X:Nat->Prop} {w:World} {x:PV} {v:Value} (h:bS X w x v):bS X w (DR x) v:=by
 unfold DR;split
 ·cases h;exact .nil none 0
 exact h
theorem Ga {ρ:Rho} {H:OH} {X:Nat->Prop} {w:World} {x:AV} {v:Value} (h:x.rel ρ H X w v):(DK x).rel ρ H X w v:=by
 cases x with
 |p x=>exact Gb h
 |sl a r off len=>exact h
 |ptr a r i j=>exact h
 |junk=>exact h
section
variable {H:OH} {d:Nat}
def zH (H:OH) (d:Nat):OH:=aO H d ((H d).map zO)
theorem nf {a r:Nat} {o:OObj} (h:(zH H d a)[r]?=some o): ∃o',(H a)[r]?=some o'/\((a=d/\o=zO o')\/o=o'):=by
 unfold zH at h;by_cases ha:a=d
 ·subst ha;rw[aY,ax]at h;obtain⟨o',h1,h2⟩:=Option.map_eq_some_iff.1 h;exact⟨o',h1,.inl ⟨rfl,h2.symm⟩⟩
 rw[aL ha]at h;exact⟨o,h,.inr rfl⟩
theorem DL {a r:Nat} {o:OObj} (h:(H a)[r]?=some o): ∃o',(zH H d a)[r]?=some o'/\o'.es=o.es/\o'.elems.length=o.elems.length:=by
 unfold zH;by_cases ha:a=d
 ·subst ha;exact⟨zO o,by rw[aY,ax,h];rfl,rfl,by simp[zO]⟩
 exact⟨o,by rw[aL ha];exact h,rfl,rfl⟩
theorem Gv (X:Nat->Prop) (ρ:Rho):Xo X ρ (zH H d)=Xo X ρ H:=by
 funext b;apply propext;constructor
 ·rintro(h|⟨a,r,o,c,h1,h2⟩)
  ·exact .inl h
  obtain⟨o',g1,_⟩:=nf h1;exact .inr ⟨a,r,o',c,g1,h2⟩
 rintro(h|⟨a,r,o,c,h1,h2⟩)
 ·exact .inl h
 obtain⟨o',g1,_⟩:=DL (d:=d) h1;exact .inr ⟨a,r,o',c,g1,h2⟩
theorem vz {ρ:Rho} {X:Nat->Prop} {w:World} {x:AV} {v:Value} (h:x.rel ρ H X w v):x.rel ρ (zH H d) X w v:=by
 cases x with
 |p x=>exact h
 |junk=>trivial
 |sl a r off len=>
  obtain⟨o,h1,h2,h3⟩:=h;obtain⟨o',g1,g2,g3⟩:=DL (d:=d) h1;exact⟨o',g1,by omega,by rw[g2];exact h3⟩
 |ptr a r i j=>
  obtain⟨o,b,c,h1,h2,h3,h4⟩:=h;obtain⟨o',g1,g2,g3⟩:=DL (d:=d) h1;exact⟨o',b,c,g1,h2,by omega,by rw[g2];exact h4⟩
theorem I2 {ρ:Rho} {X:Nat->Prop} {w:World} {t:TV} {v:Value} (h:t.rel ρ H X w v):t.rel ρ (zH H d) X w v:=by
 have agg: ∀{cs:List AV} {v:Value},bv ρ H X w cs v->bv ρ (zH H d) X w cs v:=fun{cs v} ⟨vs,h1,h2,h3⟩=>
  ⟨vs,h1,h2,fun j x hx=>by obtain⟨u,u1,u2,u3⟩:=h3 j x hx;exact⟨u,u1,u2,vz u3⟩⟩
 cases t with
 |one x=>exact vz (x:=x) h
 |agg cs=>exact agg h
 |fn f cs=>obtain⟨u,h1,h2⟩:=h;exact⟨u,agg h1,h2⟩
 |tup ts=>
  obtain⟨vs,h1,h2,h3⟩:=h;refine⟨vs,h1,h2,fun j b cs hj=>?_⟩;obtain⟨u,u1,u2⟩:=h3 j b cs hj;refine⟨u,u1,?_⟩;rcases u2 with⟨e,g⟩|⟨e,x,hx,g⟩
  ·exact .inl ⟨e,agg g⟩
  exact .inr ⟨e,x,hx,vz g⟩
theorem DM {ρ:Rho} {X:Nat->Prop} {w:World} {a r:Nat} {o:OObj} (h:objRel ρ H X w a r o):objRel ρ (zH H d) X w a r (zO o)/\objRel ρ (zH H d) X w a r o:=by
 obtain⟨h1,h2,h3⟩:=h;refine⟨⟨fun e he=>?_,h2,?_⟩,⟨h1,h2,?_⟩⟩
 ·simp only[zO,ak]at he;obtain⟨e',he',rfl⟩:=he;simp only[List.length_map,zO];exact h1 e' he'
 ·cases hρ:ρ a r with
  |none=>rw[hρ]at h3;simp only at h3⊢;simp[zO,h3]
  |some bc=>
   obtain⟨b,c⟩:=bc;rw[hρ]at h3;obtain⟨cells,g1,g2,g3,g4,g5⟩:=h3;refine⟨cells,g1,g2,by simpa[zO] using g3,g4,fun i e j x hi hj=>?_⟩;simp only[zO,ax]at hi;obtain⟨e',he',rfl⟩:=Option.map_eq_some_iff.1 hi;simp only[ax]at hj;obtain⟨x',hx',rfl⟩:=Option.map_eq_some_iff.1 hj;obtain⟨v,v1,v2,v3⟩:=g5 i e' j x' he' hx';exact⟨v,v1,v2,Ga (vz v3)⟩
 cases hρ:ρ a r with
 |none=>rw[hρ]at h3;exact h3
 |some bc=>
  obtain⟨b,c⟩:=bc;rw[hρ]at h3;obtain⟨cells,g1,g2,g3,g4,g5⟩:=h3;refine⟨cells,g1,g2,g3,g4,fun i e j x hi hj=>?_⟩;obtain⟨v,v1,v2,v3⟩:=g5 i e j x hi hj;exact⟨v,v1,v2,vz v3⟩
end
theorem iU {s:AS} (d:Nat):bX s ⟨s.tmps,zH s.H d⟩:=by
 rintro w0 O X a w ⟨h1,hsz,ρ,hinv,htm⟩;refine⟨h1,hsz,ρ,⟨hinv.keep,fun a r o ho=>?_,fun a r a' r' o o' b c c' ho ho' hb hb'=>?_,fun a r o b c ho hb=>?_,hinv.bar,fun a r o ho=>?_⟩,fun t x hx=>?_⟩
 ·obtain⟨o',g1,g2⟩:=nf ho;show objRel ρ (zH s.H d) (Xo X ρ (zH s.H d)) w a r o;rw[Gv];rcases g2 with⟨_,rfl⟩|rfl
  ·exact(DM (hinv.objs a r o' g1)).1
  exact(DM (hinv.objs a r o g1)).2
 ·obtain⟨p,g1,_⟩:=nf ho;obtain⟨p',g2,_⟩:=nf ho';exact hinv.inj a r a' r' p p' b c c' g1 g2 hb hb'
 ·obtain⟨p,g1,_⟩:=nf ho;exact hinv.old a r p b c g1 hb
 ·obtain⟨o',g1,g2⟩:=nf ho;have:=hinv.self a r o' g1;rcases g2 with⟨_,rfl⟩|rfl
  ·intro e he x hx;simp only[zO,ak]at he;obtain⟨e',he',rfl⟩:=he;simp only[ak]at hx;obtain⟨x',hx',rfl⟩:=hx;have:=this e' he' x' hx';cases x'<;>first|exact this|trivial
  exact this
 obtain⟨v,v1,v2⟩:=htm t x hx;refine⟨v,v1,?_⟩;show x.rel ρ (zH s.H d) (Xo X ρ (zH s.H d)) w v;rw[Gv];exact I2 v2
theorem D4 {s:AS} (k:Nat) (hk:s.tmps[k]?=some (.raw (.slice none 0 0))):bX s ⟨s.tmps.set k (.one (.p (.sl []))),s.H⟩:=by
 rintro w0 O X a w ⟨h1,hsz,ρ,hinv,htm⟩;refine⟨h1,by simpa using hsz,ρ,hinv,fun t x hx=>?_⟩;by_cases htk:t=k
 ·subst htk;obtain⟨v,v1,v2⟩:=htm t _ hk;have hlt:=(List.getElem?_eq_some_iff.1 hk).1;rw[List.getElem?_set_self hlt]at hx;injection hx with hx
  subst hx;have v2:bS (Xo X ρ s.H) w (.raw (.slice none 0 0)) v:=v2;cases v2;exact⟨_,v1,bS.nil none 0⟩
 rw[List.getElem?_set_ne (fun h=>htk h.symm)]at hx;exact htm t x hx
end
def gL (d:Nat) (l:List Nat):List (List AV):=l.mapIdx fun k c=>[.sl d (k+1) 0 c]
def vd (r:List Int):OObj:=⟨52,2,lc fZ r⟩
def IS (d:Nat) (R:List (List Int)):List OObj:=⟨58,1,gL d (R.map List.length)⟩::R.map vd
theorem bQ (d:Nat) (l:List Nat):(gL d l).length=l.length:=by simp[gL]
theorem pY (d:Nat) (l:List Nat) (c:Nat):gL d (l++[c])=gL d l++[[.sl d (l.length+1) 0 c]]:=by simp[gL,List.mapIdx_append]
theorem IX (d:Nat) (l:List Nat):(gL d l).map (List.map DK)=gL d l:=by
 apply List.ext_getElem?;intro k;simp only[gL,ax,List.getElem?_mapIdx];cases l[k]?<;>rfl
theorem JE (r:List Int):(lc fZ r).map (List.map DK)=lc fZ r:=by simp[lc,fZ,DK,DR]
theorem Gc {d n c i:Nat} (hi:i<n):(gL d (ae i c)++ae (n-i) [AV.p (PV.sl [])])[i]?=some [.p (.sl [])]:=by
 rw[List.getElem?_append_right (by simp[bQ]),bQ,aw,Nat.sub_self,List.getElem?_replicate,if_pos (by omega)]
theorem yx (d e:Nat) (l:List Nat):(gL d l).map (List.map (cU e))=gL e l:=by
 apply List.ext_getElem?;intro k;simp only[gL,ax,List.getElem?_mapIdx];cases l[k]?<;>rfl
theorem Fr (e:Nat) (r:List Int):renO e (vd r)=vd r:=by simp[renO,vd,sq]
theorem ET (d e:Nat) (R:List (List Int)):(IS d R).map (renO e)=IS e R:=by
 simp only[IS,List.map_cons,List.map_map]
 congr 1
 ·simp[renO,yx]
 exact List.map_congr_left fun r _=>Fr e r
def sw (p q r:Nat):Nat:=if r=p then q else if r=q then p else r
theorem Gt (p q r:Nat):sw p q (sw p q r)=r:=by
 unfold sw;by_cases h1:r=p
 ·subst h1;by_cases h2:q=r<;>simp[h2]
 by_cases h2:r=q
 ·subst h2;simp[h1]
 simp[h1,h2]
def nt (a p q b r:Nat):Nat:=if b=a then sw p q r else r
theorem sk (a p q b r:Nat):nt a p q b (nt a p q b r)=r:=by
 unfold nt;by_cases h:b=a<;>simp[h,Gt]
def jU (a p q:Nat):AV->AV
 | .sl b r off len=> .sl b (nt a p q b r) off len
 | .ptr b r i j=> .ptr b (nt a p q b r) i j
 |x=>x
def FN (a p q:Nat):TV->TV
 | .one x=> .one (jU a p q x)
 | .agg cs=> .agg (cs.map (jU a p q))
 | .fn f cs=> .fn f (cs.map (jU a p q))
 | .tup ts=> .tup (ts.map fun t=>(t.1,t.2.map (jU a p q)))
def tc (a p q:Nat) (o:OObj):OObj:={o with elems:=o.elems.map (List.map (jU a p q))}
theorem xB {s:AS} (a p q:Nat) (F:List OObj) (hF: ∀r:Nat,F[r]?=((s.H a)[sw p q r]?).map (tc a p q)):bX s ⟨s.tmps.map (FN a p q),aO s.H a F⟩:=by
 rintro w0 O X act w ⟨h1,hsz,ρ,hinv,htm⟩;have hof: ∀(b r:Nat) o,(s.H b)[r]?=some o-> ∃o':OObj,(aO s.H a F b)[nt a p q b r]?=some o'/\o'.es=o.es/\o'.elems.length=o.elems.length:=fun b r o ho=>by
  by_cases hb:b=a
  ·subst hb;refine⟨tc b p q o,?_,rfl,by simp[tc]⟩;rw[aY,nt,if_pos rfl,hF,Gt,ho];rfl
  exact⟨o,by rw[aL hb,nt,if_neg hb];exact ho,rfl,rfl⟩
 have hget: ∀(b r:Nat) o',(aO s.H a F b)[r]?=some o'-> ∃o:OObj,(s.H b)[nt a p q b r]?=some o/\((b=a/\o'=tc a p q o)\/(b≠a/\o'=o)):=fun b r o' ho=>by
  by_cases hb:b=a
  ·subst hb;rw[aY,hF]at ho;obtain⟨o,g1,g2⟩:=Option.map_eq_some_iff.1 ho;exact⟨o,by rw[nt,if_pos rfl];exact g1,.inl ⟨rfl,g2.symm⟩⟩
  rw[aL hb]at ho;exact⟨o',by rw[nt,if_neg hb];exact ho,.inr ⟨hb,rfl⟩⟩
 let ρ':Rho:=fun b r=>ρ b (nt a p q b r)
 have hρ: ∀b r,ρ' b (nt a p q b r)=ρ b r:=fun b r=>by show ρ b _=_;rw[sk]
 have hXo:Xo X ρ' (aO s.H a F)=Xo X ρ s.H:=by
  funext b;apply propext;constructor
  ·rintro(h|⟨x,r,o,c,g1,g2⟩)
   ·exact .inl h
   obtain⟨o',g3,_⟩:=hget x r o g1;exact .inr ⟨x,_,o',c,g3,g2⟩
  rintro(h|⟨x,r,o,c,g1,g2⟩)
  ·exact .inl h
  obtain⟨o',g3,_⟩:=hof x r o g1;exact .inr ⟨x,_,o',c,g3,by rw[hρ];exact g2⟩
 have hav: ∀(Y:Nat->Prop) x v,AV.rel ρ s.H Y w x v->AV.rel ρ' (aO s.H a F) Y w (jU a p q x) v:=fun Y x v h=>by
  cases x with
  |p x=>exact h
  |junk=>trivial
  |sl b r off len=>
   obtain⟨o,g1,g2,g3⟩:=h;obtain⟨o',k1,k2,k3⟩:=hof b r o g1;exact⟨o',k1,by omega,by rw[hρ,k2];exact g3⟩
  |ptr b r i j=>
   obtain⟨o,b',c,g1,g2,g3,g4⟩:=h;obtain⟨o',k1,k2,k3⟩:=hof b r o g1;exact⟨o',b',c,k1,by rw[hρ];exact g2,by omega,by rw[k2];exact g4⟩
 have hagg: ∀(Y:Nat->Prop) cs v,bv ρ s.H Y w cs v->bv ρ' (aO s.H a F) Y w (cs.map (jU a p q)) v:=fun Y cs v ⟨vs,g1,g2,g3⟩=>by
  refine⟨vs,g1,by simpa using g2,fun j x hx=>?_⟩;rw[ax]at hx;obtain⟨y,hy,rfl⟩:=Option.map_eq_some_iff.1 hx;obtain⟨u,u1,u2,u3⟩:=g3 j y hy;exact⟨u,u1,u2,hav Y y u u3⟩
 refine⟨h1,by simpa using hsz,ρ',⟨hinv.keep,fun b r o' ho=>?_,fun b r b' r' o o' x c c' ho ho' hb hb'=>?_,fun b r o x c ho hb=>?_,hinv.bar,fun b r o' ho=>?_⟩,fun t x hx=>?_⟩
 ·obtain⟨o,g1,g2⟩:=hget b r o' ho;have hob:=hinv.objs b _ o g1;have hself:=hinv.self b _ o g1;show objRel ρ' (aO s.H a F) (Xo X ρ' (aO s.H a F)) w b r o';rw[hXo];obtain⟨q1,q2,q3⟩:=hob;rcases g2 with⟨rfl,rfl⟩|⟨hb,rfl⟩
  ·refine⟨fun e he=>?_,q2,?_⟩
   ·simp only[tc,ak]at he;obtain⟨e',he',rfl⟩:=he;simp only[List.length_map,tc];exact q1 e' he'
   show match ρ b (nt b p q b r)with|none=>_|some (b,c)=>_
   cases hr:ρ b (nt b p q b r)with
   |none=>rw[hr]at q3;simp only at q3⊢;simp[tc,q3]
   |some bc=>
    obtain⟨b2,c⟩:=bc;rw[hr]at q3;obtain⟨cells,p1,p2,p3,p4,p5⟩:=q3;refine⟨cells,p1,p2,by simpa[tc] using p3,p4,fun i e j x hi hj=>?_⟩;simp only[tc,ax]at hi;obtain⟨e',he',rfl⟩:=Option.map_eq_some_iff.1 hi;simp only[ax]at hj;obtain⟨x',hx',rfl⟩:=Option.map_eq_some_iff.1 hj;obtain⟨v,v1,v2,v3⟩:=p5 i e' j x' he' hx';exact⟨v,v1,v2,hav _ _ _ v3⟩
  refine⟨q1,q2,?_⟩;show match ρ b (nt a p q b r)with|none=>_|some (b,c)=>_
  cases hr:ρ b (nt a p q b r)with
  |none=>rw[hr]at q3;exact q3
  |some bc=>
   obtain⟨b2,c⟩:=bc;rw[hr]at q3;obtain⟨cells,p1,p2,p3,p4,p5⟩:=q3;refine⟨cells,p1,p2,p3,p4,fun i e j x hi hj=>?_⟩;obtain⟨v,v1,v2,v3⟩:=p5 i e j x hi hj;have hs:=hself e (List.mem_of_getElem? hi) x (List.mem_of_getElem? hj);have hx:jU a p q x=x:=by
    cases x with
    |sl z _ _ _=>have hs:z=b:=hs;subst hs;simp[jU,nt,hb]
    |ptr z _ _ _=>have hs:z=b:=hs;subst hs;simp[jU,nt,hb]
    |p z=>rfl
    |junk=>rfl
   have:=hav _ _ _ v3;rw[hx]at this;exact⟨v,v1,v2,this⟩
 ·obtain⟨o1,g1,_⟩:=hget b r o ho;obtain⟨o2,g2,_⟩:=hget b' r' o' ho';obtain⟨e1,e2⟩:=hinv.inj b _ b' _ o1 o2 x c c' g1 g2 hb hb';subst e1;refine⟨rfl,?_⟩;rw[<- sk a p q b r,e2,sk]
 ·obtain⟨o1,g1,_⟩:=hget b r o ho;exact hinv.old b _ o1 x c g1 hb
 ·obtain⟨o,g1,g2⟩:=hget b r o' ho;have hs:=hinv.self b _ o g1;rcases g2 with⟨rfl,rfl⟩|⟨hb,rfl⟩
  ·intro e he x hx;simp only[tc,ak]at he;obtain⟨e',he',rfl⟩:=he;simp only[ak]at hx;obtain⟨x',hx',rfl⟩:=hx;have:=hs e' he' x' hx';cases x'<;>first|exact this|trivial
  exact hs
 simp only[ax]at hx;obtain⟨y,hy,rfl⟩:=Option.map_eq_some_iff.1 hx;obtain⟨v,v1,v2⟩:=htm t y hy;refine⟨v,v1,?_⟩;show TV.rel ρ' (aO s.H a F) (Xo X ρ' (aO s.H a F)) w (FN a p q y) v;rw[hXo];cases y with
 |one x=>exact hav _ _ _ v2
 |agg cs=>exact hagg _ _ _ v2
 |fn f cs=>obtain⟨u,h1,h2⟩:=v2;exact⟨u,hagg _ _ _ h1,h2⟩
 |tup ts=>
  obtain⟨vs,g1,g2,g3⟩:=v2;refine⟨vs,g1,by simpa using g2,fun j b cs hj=>?_⟩;rw[ax]at hj;obtain⟨z,hz,hzz⟩:=Option.map_eq_some_iff.1 hj;obtain⟨b',cs'⟩:=z;simp at hzz;obtain⟨rfl,rfl⟩:=hzz;obtain⟨u,u1,u2⟩:=g3 j b' cs' hz;refine⟨u,u1,?_⟩;rcases u2 with⟨u2,u3⟩|⟨u2,q',rfl,u4⟩
  ·exact .inl ⟨u2,hagg _ _ _ u3⟩
  exact .inr ⟨u2,_,rfl,hav _ _ _ u4⟩
abbrev Ca (d n c:Nat) (f:FF):List OObj:=⟨58,1,gL d (ae n c)⟩::(bL n c f).map vd
theorem B6 (n c:Nat) (f:FF):(bL n c f).map List.length=ae n c:=by
 apply List.ext_getElem?;intro i;rw[ax,List.getElem?_replicate];by_cases h:i<n
 ·rw[bq _ _ h,if_pos h];simp[bA]
 rw[aq (by rw[aU];omega),if_neg h];rfl
theorem Cb (d n c:Nat) (f:FF):IS d (bL n c f)=Ca d n c f:=by rw[IS,B6]
theorem ck {n i:Nat} (d c:Nat) (h:i<n):(gL d (ae n c))[i]?=some [.sl d (i+1) 0 c]:=by
 simp[gL,h]
theorem sD {n i:Nat} (c:Nat) (f:FF) (h:i<n):((bL n c f).map vd)[i]?=some ⟨52,2,lc fZ (bz c (f i))⟩:=by
 rw[ax,bq _ _ h];rfl
def upd (f:FF) (i j:Nat) (v:Int):Nat->Nat->Int:=fun a=>if a=i then(fun b=>if b=j then v else f i b)else f a
theorem EU {n i j:Nat} (c:Nat) (f:FF) (v:Int):((bL n c f).map vd).set i ⟨52,2,(lc fZ (bz c (f i))).set j [.p (.raw (.bool (decide (v<0)))),.p (.sl (ls fU (aP v.natAbs)))]⟩=(bL n c (upd f i j v)).map vd:=by
 have e:(⟨52,2,(lc fZ (bz c (f i))).set j [.p (.raw (.bool (decide (v<0)))),.p (.sl (ls fU (aP v.natAbs)))]⟩:OObj)=vd (bz c fun b=>if b=j then v else f i b):=by
  rw[<- l9,vd,<- ss];rfl
 rw[e,<- List.map_set,yg];rfl
theorem mN {n c:Nat} {f g:FF} (h: ∀i j,i<n->j<c->f i j=g i j):(bL n c f).map vd=(bL n c g).map vd:=by rw[ff h]
theorem yi (d e n c:Nat) (f:FF):(Ca d n c f).map (renO e)=Ca e n c f:=by rw[<- Cb,<- Cb,ET]
theorem Ew {H:OH} {d n c:Nat} {f:FF} (h:H d=Ca d n c f):qk H d:=fun r o ho e he x hx=>by
 rw[h]at ho;cases r with
 |succ r=>
  rw[List.getElem?_cons_succ,ax]at ho;obtain⟨l,hl,rfl⟩:=Option.map_eq_some_iff.1 ho;exact .inl (df _ _ l e he x hx)
 |zero=>
  simp at ho;subst ho;simp only at he;obtain⟨k,hk⟩:=List.mem_iff_getElem?.1 he;have hkn:k<n:=by
   have:=(List.getElem?_eq_some_iff.1 hk).1;rwa[bQ,aw]at this
  rw[ck d c hkn]at hk;injection hk with hk
  subst hk;simp at hx;subst hx;refine .inr ⟨k+1,0,c,vd (bz c (f k)),rfl,?_,df _ _ _⟩;rw[h,List.getElem?_cons_succ,ax,bq _ _ hkn];rfl
theorem JY {H:OH} {d n c:Nat} {f:FF} (h:H d=Ca d n c f):fV H d (.one (.sl d 0 0 n))=gF (bL n c f):=by
 have e:((gL d (ae n c)).map (List.map (gO H d)))=ls (fR fZ) (bL n c f):=by
  apply List.ext_getElem?;intro i;rw[ax,gp];by_cases hi:i<n
  ·rw[ck d c hi,bq _ _ hi];simp only[Option.map_some,List.map_cons,List.map_nil,gO,h,List.getElem?_cons_succ,sD _ _ hi,fR,fi,sn,nR];rw[List.drop_zero,List.take_of_length_le (by rw[bA];omega)]
  rw[aq (by rw[bQ,aw];omega),aq (by rw[aU];omega)];rfl
 simp only[fV,eo,if_true,h,List.getElem?_cons_zero];rw[List.drop_zero,List.take_of_length_le (by rw[bQ,aw];omega),e]
abbrev bT (M:List (List Int)):TV:= .one (.p (.sl (ls (fR fI) M)))
def Jx (M:List (List Int)):TV:= .tup [(false,[.p (.sl (ls (fR fZ) M))]),(false,[.p (.raw (.bool true))])]
structure rE (n:Nat) where
 i:Nat
 hi:i<=n
def part (f:FF) (i j:Nat):Nat->Nat->Int:=fun a b=>if a<i\/(a=i/\b<j)then f a b else 0
theorem mQ (f:FF) (i j a b:Nat):upd (part f i j) i j (f i j) a b=part f i (j+1) a b:=by
 unfold upd part;by_cases h1:a=i
 ·subst h1;by_cases h2:b=j
  ·subst h2;simp
  have:b<j+1↔b<j:=by omega
  simp[h2,this]
 simp[h1]
theorem pw {c:Nat} (f:FF) (i a b:Nat) (hb:b<c):part f i c a b=part f (i+1) 0 a b:=by
 unfold part;by_cases h1:a<i
 ·rw[if_pos (.inl h1),if_pos (.inl (by omega))]
 by_cases h2:a=i
 ·rw[if_pos (.inr ⟨h2,hb⟩),if_pos (.inl (by omega))]
 rw[if_neg (by omega),if_neg (by omega)]
theorem pv {n:Nat} (f:FF) (a b:Nat) (ha:a<n):part f n 0 a b=f a b:=by
 unfold part;rw[if_pos (.inl ha)]
abbrev pf:List AV:=[.raw (.slice none 0 0)]
theorem sB {α:Type} {A:List α} {x:α} {l:List α} {i:Nat} (h:A.length=i):(A++x::l)[i]?=some x:=by
 rw[List.getElem?_append_right (by omega),h,Nat.sub_self];rfl
theorem sC {α:Type} {A:List α} {x y:α} {l:List α} {i:Nat} (h:A.length=i):(A++x::l).set i y=A++y::l:=by
 rw[List.set_append_right _ _ (by omega),h,Nat.sub_self];rfl
theorem C8 (d i c:Nat):(gL d (ae i c)).map (List.map (aV fun x y=>x==d&&y==i+1))=gL d (ae i c):=by
 apply List.ext_getElem?;intro k;rw[ax];by_cases h:k<i
 ·rw[ck d c h];have:k≠i:=by omega
  simp[aV,this]
 rw[aq (by rw[bQ,aw];omega)];rfl
theorem uz (i c:Nat) (f:FF):bL (i+1) c f=bL i c f++[bz c (f i)]:=by simp[bL,List.range_succ]
theorem Ag (j:Nat) (g:Nat->Int):bz (j+1) g=bz j g++[g j]:=by simp[bz,List.range_succ]
theorem rH {P:Program} {c z:Code} {Q:Exit->AS->Prop} {s S:AS} (h1:bH P c (kw (fun s'=>bX s' S) Q) s) (h2:bH P z Q S):bH P c (kw (bH P z Q) Q) s:=h1.mono fun e s' h=>by
 cases e with
 |normal=>exact bH.weak h h2
 |_=>exact h
theorem Sz.mul {a b:Int} {k l:Nat} (ha:Sz a k) (hb:Sz b l):Sz (a*b) (k+l):=by
 unfold Sz at*;rw[Int.natAbs_mul,Nat.pow_add];exact Nat.mul_lt_mul'' ha hb
theorem Sz.sub {a b:Int} {k:Nat} (ha:Sz a k) (hb:Sz b k):Sz (a-b) (k+1):=by
 unfold Sz at*
 have:=Int.natAbs_sub_le a b;rw[Nat.pow_succ];generalize 4294967296^k=p at*
 omega
theorem Sz.add {a b:Int} {k:Nat} (ha:Sz a k) (hb:Sz b k):Sz (a+b) (k+1):=by
 unfold Sz at*
 have:=Int.natAbs_add_le a b;rw[Nat.pow_succ];generalize 4294967296^k=p at*
 omega
theorem Sz.ediv {a:Int} {k:Nat} (ha:Sz a k) (b:Int):Sz (a/b) k:=ha.le (Int.natAbs_ediv_le_natAbs a b)
abbrev Ef (v:Int):List OObj:=JV (decide (v<0)) (aP v.natAbs)
theorem FB:sg 0=0:=rfl
theorem IW {z:Int} (h:z≠0):sg z≠0:=by unfold sg;split<;>simp[h]
theorem rk {k:Nat} (h:k<=16):2^k<=65536:=Nat.pow_le_pow_right (n:=2) (by omega) h
section
section
variable {P:Program}
theorem ma {items:List (cH P)} (hI:eF P items) {ow:List Nat} {ops:Array Oper} {w0:World} {O X:Nat->Prop} {Q:Exit->Act->World->Prop} {suf:List Nat}: ∀(l:List Oper) (k:Nat) (s s':AS) (a:Act) (w:World),(∀(j:Nat) o,l[j]?=some o->ops[k+j]?=some o)->
  fY P items ow ops (l.zipIdx k) s=some s'->eW w0 O X s a w->(∀a' w',eW w0 O X s' a' w'->wpOps P ops Q suf a' w')->wpOps P ops Q (List.range' k l.length++suf) a w
 |[],k,s,s',a,w,_,h,r,hQ=>by
  simp only[List.zipIdx_nil,fY]at h;injection h with h
  subst h;exact hQ a w r
 |o::l,k,s,s',a,w,hl,h,r,hQ=>by
  simp only[List.zipIdx_cons,fY]at h;split at h
  ·rename_i s1 hs1;simp only[List.length_cons,List.range'_succ,List.cons_append,wpOps];have ho:ops[k]?=some o:=by have:=hl 0 o rfl;simpa using this
   rw[ho];simp only;have:=f9 (Q:=Q) hI r hs1 (K:=wpOps P ops Q (List.range' (k+1) l.length++suf)) (fun v w' hr=>ma hI l (k+1) s1 s' _ _ (fun j o hj=>by have:=hl (j+1) o (by simpa using hj);rwa[show k+(j+1)=k+1+j by omega]at this) h hr hQ);split at this
   ·rename_i hw;rw[if_pos hw];exact .inl this
   rename_i hw;rw[if_neg hw];exact this
  cases h
end
end
theorem uy {n c:Nat} (f:FF) (h:1<=n):((bL n c f).headD []).length=c:=by
 have:=lH (M:=bL n c f) (by rw[aU];omega);rw[bq _ _ (by omega)]at this;injection this with this
 rw[<- this,bA]
theorem EQ {n c:Nat} (f:FF) (hn1:1<=n) (hn:n<=16) (hc1:1<=c) (hc:c<=16):AG (bL n c f):=by
 refine⟨by rw[aU];omega,by rw[aU];omega,fun r hr=>?_⟩;obtain⟨i,hi⟩:=List.mem_iff_getElem?.1 hr;have hin:i<n:=by
  have:=(List.getElem?_eq_some_iff.1 hi).1;rwa[aU]at this
 rw[bq _ _ hin]at hi;injection hi with hi
 rw[<- hi,JB,bA,uy f hn1];omega
theorem D3 {M:List (List Int)} (h:AG M):M=bL M.length (M.headD []).length (ent M):=sA fun r hr=>(h.2.2 r hr).2.2
structure JQ (n:Nat) (f:FF) where
 i:Nat
 hi:i<=n
 ok: ∀a,a<i-> ∀b,b<a->f a b=f b a
structure JR (n i:Nat) (f:FF) where
 j:Nat
 hj:j<=i
 ok: ∀b,b<j->f i b=f b i
theorem za (a:Int):r6 a a=0:=by simp[r6]
theorem Bt {a b:Int} (h:a≠b):r6 a b≠0:=by unfold r6;split<;>(try split)<;>omega
theorem H8 {z:Int} (h:0<z):sg z=1:=by unfold sg;rw[if_neg (by omega),if_neg (by omega)]
theorem FA {z:Int} (h: ¬0<z):sg z<=0:=by unfold sg;split<;>(try split)<;>omega
end Go.Proofs.YtfgeomlagfomgaaDoor
