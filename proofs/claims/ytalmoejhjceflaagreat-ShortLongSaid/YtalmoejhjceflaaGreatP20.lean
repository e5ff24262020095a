/-
  Part 21 of a proof (walks and plain facts).
-/
import Derived.Test.YtalmoejhjceflaaGreatP19
set_option linter.all false
set_option maxRecDepth 100000
set_option maxHeartbeats 64000000
open Nat renaming reduceAdd → aa
open Nat renaming le_refl → ae
open List renaming replicate → af
open Nat renaming reduceBEq → ag
open List renaming getElem?_append_left → aq
open List renaming getElem?_append_right → ar
open List renaming mem_of_getElem? → ax
open List renaming length_map → ay
namespace Go.Proofs.YtalmoejhjceflaaGreat
open Go.RowKit
section
/-! Operation m as a call without arguments. -/
def iD (o:Oper):Oper:={o with op:= .call {callee:= .value (.func 0),args:= #[],argTypes:= #[]}}
def uT:Nat->List Oper->List Oper
 |_,[]=>[]
 |0,o::l=>iD o::l
 |m+1,o::l=>o::uT m l
def gg (ops:Array Oper) (m:Nat):Array Oper:=⟨uT m ops.toList⟩
theorem zD: ∀(m:Nat) (l:List Oper) (i:Nat),(uT m l)[i]?=if i=m then(l[i]?).map iD else l[i]?
 |m,[],i=>by simp[uT]
 |0,o::l,0=>rfl
 |0,o::l,i+1=>by simp[uT]
 |m+1,o::l,0=>by simp[uT]
 |m+1,o::l,i+1=>by simp[uT,zD m l i]
theorem zE: ∀(m:Nat) (l:List Oper),(uT m l).length=l.length
 |m,[]=>by simp[uT]
 |0,o::l=>rfl
 |m+1,o::l=>by simp[uT,zE m l]
section
variable {P:Program} {ops:Array Oper} {m:Nat} {s:AS}
theorem f4 (i:Nat):(gg ops m)[i]?=if i=m then(ops[i]?).map iD else ops[i]?:=by
 have:=zD m ops.toList i;simpa[gg] using this
theorem f7:(gg ops m).size=ops.size:=by simp[gg,zE]
theorem Mz (g:Nat):((gg ops m)[g]?).bind (·.dst)=(ops[g]?).bind (·.dst):=by
 rw[f4];split
 ·cases ops[g]?<;>rfl
 rfl
theorem lC {items:List (cQ P)} {ow:List Nat} {i:Nat} {o:Oper}:bf P items ow (gg ops m) i o s=bf P items ow ops i o s:=by
 unfold bf;simp only[Mz]
theorem v7 {listed:Array Bool} {i:Nat}:i∈Region.ready .any (gg ops m) listed↔i∈Region.ready .any ops listed:=by
 constructor
 ·intro h;obtain⟨h0,o,ho,hd⟩:=mem_ready.1 h;rw[f4]at ho;split at ho
  ·obtain⟨o2,h2,rfl⟩:=Option.map_eq_some_iff.1 ho;exact mem_ready.2 ⟨h0,o2,h2,hd⟩
  exact mem_ready.2 ⟨h0,o,ho,hd⟩
 intro h;obtain⟨h0,o,ho,hd⟩:=mem_ready.1 h;by_cases e:i=m
 ·exact mem_ready.2 ⟨h0,iD o,by rw[f4,if_pos e,ho];rfl,hd⟩
 exact mem_ready.2 ⟨h0,o,by rw[f4,if_neg e];exact ho,hd⟩
theorem yI {Qn:Act->World->Prop} {Wp:Nat->(Act->World->Prop)->Act->World->Prop}: ∀f,m6 (gg ops m) Qn Wp f=m6 ops Qn Wp f:=by
 have hnil: ∀listed,Region.ready .any (gg ops m) listed=[]↔Region.ready .any ops listed=[]:=fun listed=>by
  simp only[List.eq_nil_iff_forall_not_mem,v7]
 intro f
 induction f with
 |zero=>funext l a w;simp only[m6,hnil]
 |succ f ih=>funext l a w;simp only[m6,hnil,v7,ih]
/-! What some slots and families hold. -/
def lg (rd fas:List Nat) (s s':AS):Prop:=(∀k∈rd,s'.tmps[k]?=s.tmps[k]?)/\ ∀x∈fas,s'.H x=s.H x
def zk (rd fas:List Nat) (o:Oper):Bool:=Sa o.op&&(rd.all fun k=>o.dst !=some k)&&fas.all fun k=>o.dst !=some k
variable {items:List (cQ P)} {ow:List Nat} {rd fas:List Nat} {sep:List (Nat×Nat×Nat)}
theorem Fr {i:Nat} {o:Oper} {s1:AS} (h:zk rd fas o=true) (hs:bf P items ow ops i o s=some s1):lg rd fas s s1:=by
 unfold zk at h;simp only[Bool.and_eq_true,List.all_eq_true,bne_iff_ne,ne_eq]at h;obtain⟨⟨h1,h2⟩,h3⟩:=h;rw[bM]at hs;obtain⟨out,ho,ha⟩:=Option.bind_eq_some_iff.1 hs;cases out with
 |val t=>
  simp only[b8]at ha;injection ha with ha
  subst ha;exact⟨fun k hk=>j7 s _ t k fun e he hek=>h2 k hk (by rw[he,hek]),fun x _=>by rw[eK]⟩
 |new t o' l=>
  simp only[b8]at ha;split at ha
  ·rename_i d hd;split at ha
   ·injection ha with ha
    subst ha;exact⟨fun k hk=>j7 ⟨s.tmps,_⟩ _ t k fun e he hek=>h2 k hk (by rw[hd,he,hek]),fun x hx=>by
     rw[eK];exact aN fun e=>h3 x hx (by rw[hd,e])⟩
   cases ha
  cases ha
 |wr q=>
  exfalso;unfold cw at ho;split at ho
  ·unfold jv at ho;split at ho
   ·obtain⟨_,_,h⟩:=Option.map_eq_some_iff.1 ho;cases h
   split at ho
   ·obtain⟨_,_,h⟩:=Option.map_eq_some_iff.1 ho;cases h
   rw[tg h1]at ho;simp only at ho;split at ho
   ·cases ho
   unfold Co at ho;split at ho<;>cases ho
  ·cases ho
  cases ho
theorem iP (hS:Dj P sep ops) (hd:cL sep ops=true) {s0:AS} (hl:A6 sep s0) {p:Nat->Bool} (hc:uE ops p) (h:cn P items ow ops (i8 ops.size p) s0=some s): ∀(N b:Nat) (p':Nat->Bool),b+N=ops.size->(∀j,j<b->p j=true->p' j=true)->uE ops p'->(∀j,p' j=true->p j=true)->
  (∀(i:Nat) o,ops[i]?=some o->p i=true->p' i=false->zk rd fas o=true)-> ∃s',cn P items ow ops (i8 ops.size p') s0=some s'/\lg rd fas s' s
 |0,b,p',hb,h1,_,h3,_=>by
  refine⟨s,?_,fun _ _=>rfl,fun _ _=>rfl⟩;have e:i8 ops.size p'=i8 ops.size p:=List.filter_congr fun j hj=>by
   have hj:=List.mem_range.1 hj;cases hp:p j with
   |true=>exact h1 j (by omega) hp
   |false=>
    cases hp':p' j with
    |false=>rfl
    |true=>rw[h3 j hp']at hp;cases hp
  rw[e];exact h
 |N+1,b,p',hb,h1,h2,h3,h4=>by
  have hbs:b<ops.size:=by omega
  have ho:ops[b]?=some ops[b]:=by simp[hbs]
  by_cases hpb:p b=true/\p' b=false
  ·obtain⟨q1,q2⟩:=hpb;have hc':uE ops (cq p' b):=w7 h2 fun o ho' e he hbd=>h1 _ ((iL hd).1 b o ho' e he hbd) (hc b o ho' q1 e he hbd)
   obtain⟨s2,g1,g2⟩:=iP hS hd hl hc h N (b+1) (cq p' b) (by omega) (fun j hj hpj=>by
    by_cases hjb:j=b
    ·simp[cq,hjb]
    ·simp[cq,h1 j (by omega) hpj]) hc' (fun j hj=>by
    by_cases hjb:j=b
    ·rw[hjb];exact q1
    ·have hjb':(j==b)=false:=by simpa using hjb
     exact h3 j (by simpa[cq,hjb'] using hj)) (fun i o hi hpi hpi'=>by
    have:p' i=false:=by
     cases h:p' i with
     |false=>rfl
     |true=>simp[cq,h]at hpi'
    exact h4 i o hi hpi this)
   obtain⟨sm,k1,k2⟩:=t8 hS hd h2 hbs q2 hl g1;unfold co at k2;rw[ho]at k2;have k3:=Fr (h4 b _ ho q1 q2) k2;exact⟨sm,k1,fun k hk=>(g2.1 k hk).trans (k3.1 k hk),fun x hx=>(g2.2 x hx).trans (k3.2 x hx)⟩
  refine iP hS hd hl hc h N (b+1) p' (by omega) (fun j hj hpj=>?_) h2 h3 h4;by_cases hjb:j=b
  ·subst hjb;cases hp':p' j with
   |true=>rfl
   |false=>exact absurd ⟨hpj,hp'⟩ hpb
  exact h1 j (by omega) hpj
theorem Iv {items':List (cQ P)} {i d:Nat} {ev:Operand->Option TV} {H:OH} {op:Op} (h:items.find? (·.i==i)=items'.find? (·.i==i)):cf P items ow i d ev H op=cf P items' ow i d ev H op:=by
 cases op with
 |call c=>
  obtain⟨callee,args,tys⟩:=c;cases callee with
  |value f=>cases f<;>simp only[cf,h]
  |invoke r m=>simp only[cf]
  |builtin b=>cases b<;>simp only[cf]
 |_=>simp only[cf]
theorem lB {items':List (cQ P)} {i:Nat} {o:Oper} (h:items.find? (·.i==i)=items'.find? (·.i==i)):bf P items ow ops i o s=bf P items' ow ops i o s:=by
 unfold bf dr;simp only[Iv h]
def o6 (ops:Array Oper) (m:Nat):List Nat:=match ops[m]? with
 |some o=>o.op.operands.toList.filterMap fun| .tmp k=>some k|_=>none
 |none=>[]
def PT (ops:Array Oper) (m:Nat) (fas:List Nat):Bool:=decide (m<ops.size)&&cL [] (gg ops m)&&(match ops[m]? with|some o=>o.guard.isNone&&o.dst.isSome|none=>false)&&
 (List.range ops.size).all fun i=>i==m||(if i<m then((lE (gg ops m).toList []).getD m 0).testBit i else((lE (gg ops m).toList []).getD i 0).testBit m)||(match ops[i]? with|some o=>zk (o6 ops m) fas o|none=>true)
end
section
variable {P:Program} {a:Act} {w0 w:World} {O X:Nat->Prop} {ks:List Nat}
theorem Is {R:AS->Act->World->Prop} (M1:u6 ks R) (hmx:P.follows .mixedOrders=true) (items:List (aH P)) (ow:List Nat) (m:Nat) (fas:List Nat) (x:PV) {id:Nat} {ops:Array Oper} (hk:dC ks ops=true) (hE:PT ops m fas=true) {s s1 s2:AS} (h1:eD P (items.map aH.a) ow ops ((ops.toList.take m).zipIdx 0) s=some s1)
  (hsp: ∀s',lg (o6 ops m) fas s1 s'->iw s'->nR P ops m (R s') (R (s'.put (jY ops m) (.one (.p x))))) (h2:eD P (items.map aH.a) ow ops ((ops.toList.drop (m+1)).zipIdx (m+1)) (s1.put (jY ops m) (.one (.p x)))=some s2)
  {Q:Exit->Act->World->Prop} (hr:R s a w) (hQ: ∀a' w',R s2 a' w'->Q .normal a' w'):(Code.region id ops true).wp P Q a w:=by
 simp only[PT,Bool.and_eq_true,decide_eq_true_eq,List.all_eq_true,List.mem_range]at hE;obtain⟨⟨⟨hmlt,hd⟩,hgd⟩,hst⟩:=hE;obtain⟨o,ho⟩: ∃o,ops[m]?=some o:=⟨ops[m],by simp[hmlt]⟩;rw[ho]at hgd;simp only[Bool.and_eq_true]at hgd;obtain⟨hg,hds⟩:=hgd;obtain⟨d,hds⟩:=Option.isSome_iff_exists.1 hds;have hg:o.guard=none:=by simpa using hg
 have hcw:jY ops m=some d:=by unfold jY;rw[ho];exact hds
 rw[hcw]at hsp h2;have hml:(ops.toList.take m).length=m:=by rw[List.length_take];simp;omega
 let it:cQ P:=⟨m,0,[],⟨[],.one (.p x)⟩⟩
 have hfind: ∀i,i≠m->(it::items.map aH.a).find? (·.i==i)=(items.map aH.a).find? (·.i==i):=fun i hi=>by
  have:(it.i==i)=false:=by simpa[it] using Ne.symm hi
  rw[List.find?_cons,this]
 have key: ∀(l:List Nat) (s:AS),(∀i∈l,i≠m)->cn P (it::items.map aH.a) ow (gg ops m) l s=cn P (items.map aH.a) ow ops l s:=fun l=>by
  induction l with
  |nil=>intros;rfl
  |cons i l ih=>
   intro s hl;have hi:=hl i (by simp);have e:co P (it::items.map aH.a) ow (gg ops m) i s=co P (items.map aH.a) ow ops i s:=by
    unfold co;rw[f4,if_neg hi];simp only[lC,lB (hfind i hi)]
   simp only[cn,e];cases co P (items.map aH.a) ow ops i s with
   |none=>rfl
   |some s2=>exact ih s2 fun j hj=>hl j (by simp[hj])
 have hpre:cn P (it::items.map aH.a) ow (gg ops m) (List.range m) s=some s1:=by
  have:=dW (P:=P) (items:=items.map aH.a) (ow:=ow) (ops.toList.take m) 0 s (fun j o hj=>by
   rw[List.getElem?_take]at hj;split at hj
   ·simpa using hj
   cases hj)
  rw[h1,hml,<- List.range_eq_range']at this;rw[this];exact key _ _ fun i hi=>by have:=List.mem_range.1 hi;omega
 have hsuf:cn P (it::items.map aH.a) ow (gg ops m) (List.range' (m+1) (ops.size-m-1)) (s1.put (some d) (.one (.p x)))=some s2:=by
  have:=dW (P:=P) (items:=items.map aH.a) (ow:=ow) (ops:=ops) (ops.toList.drop (m+1)) (m+1) (s1.put (some d) (.one (.p x))) (fun j o hj=>by
   rw[List.getElem?_drop]at hj;simpa using hj)
  rw[h2,List.length_drop,Array.length_toList,show ops.size-(m+1)=ops.size-m-1 by omega]at this;rw[this];exact key _ _ fun i hi=>by have:=(List.mem_range'_1.1 hi).1;omega
 have hdm:(gg ops m)[m]?=some (iD o):=by rw[f4,if_pos rfl,ho];rfl
 have hmid: ∀s:AS,bf P (it::items.map aH.a) ow (gg ops m) m (iD o) s=some (s.put (some d) (.one (.p x))):=fun s=>by
  unfold bf;rw[show(iD o).guard=none from hg];show dr P _ ow m (iD o) s=_;have hfm:(it::items.map aH.a).find? (·.i==m)=some it:=by
   rw[List.find?_cons,show(it.i==m)=true by simp[it]]
  have hA:cf P (it::items.map aH.a) ow m d s.ev s.H (iD o).op=some (.one (.p x),[]):=by
   simp only[iD,cf,hfm,ew];simp[it,CallRes.plain,renTV,cb,noRefTV,dZ]
  unfold dr;rw[show(iD o).dst=some d from hds];simp only[show mR (iD o).op=false from rfl,show uC (iD o).op=false from rfl,show eY P s.ev s.H (iD o).op=none from rfl,hA,Bool.false_eq_true,if_false]
 have hrun:cn P (it::items.map aH.a) ow (gg ops m) (List.range (gg ops m).size) s=some s2:=by
  have hrg:List.range (gg ops m).size=List.range m++m::List.range' (m+1) (ops.size-m-1):=by
   rw[f7];have h1:=List.range'_append_1 (s:=0) (m:=m) (n:=ops.size-m-1+1);rw[show m+(ops.size-m-1+1)=ops.size by omega,Nat.zero_add,List.range'_succ]at h1;rw[List.range_eq_range',List.range_eq_range'];exact h1.symm
  rw[hrg,eP,hpre];simp only[Option.bind_some,cn];unfold co;rw[hdm];simp only;rw[hmid];exact hsuf
 refine(wpIn_wide (n:=0)).1 (wpIn_region_any (F:=FW none) hmx ?_);have hr':R s a {w with drawn:=w.drawn+1}:=by
  obtain⟨wa,Oa,Xa,⟨q1,q2,ρ,hinv,htm⟩,ka⟩:=M1 s a w hr;have e:Ext w {w with drawn:=w.drawn+1}:=⟨rfl,rfl,rfl,ae _,fun _ _=>rfl⟩;have htm:bq Xa ρ s a w:=htm;exact ka _ _ _ (fun _ _=>rfl) ⟨q1,q2,ρ,hinv.grow e,htm.grow e⟩
 have hlive:iw s:=by obtain⟨wa,Oa,Xa,r,_⟩:=M1 s a w hr;exact cO r
 have hS:Dj P [] (gg ops m):=ia hd (by simp);have hlv:A6 [] s:=⟨hlive,fun x hx=>by simp at hx⟩;rw[<- mg,<- yI (m:=m)];refine gB (sep:=[]) hS hd (fun _ s a w=>R s a w) hlv hrun (fun p a w hall hr=>hQ a w hr) (fun p i o' s' s1' a w K ho' hpi hcl hs hr hK=>?_) ops.size (Array.replicate ops.size false) s a _ (by simp[f7]) ?_ ?_ ?_ hr'
 ·obtain⟨hc,hc',hsel⟩:=hcl;by_cases him:i=m
  ·subst him;rw[hdm]at ho';injection ho' with ho'
   subst ho';rw[hmid]at hs;injection hs with hs
   subst hs;have hedge:=(iL hd).1;have hc1:uE (gg ops i) (fun j=>decide (j<i)):=fun j o ho hj e he hb=>by
    have:=hedge j o ho e he hb;simp only[decide_eq_true_eq]at hj⊢;omega
   have hcc:uE (gg ops i) (fun j=>p j&&decide (j<i)):=fun j o ho hj e he hb=>by
    simp only[Bool.and_eq_true]at hj⊢;exact⟨hc j o ho hj.1 e he hb,hc1 j o ho hj.2 e he hb⟩
   have hp1:cn P (it::items.map aH.a) ow (gg ops i) (i8 (gg ops i).size fun j=>decide (j<i)) s=some s1:=by
    rw[l9 (m:=i) (by rw[f7];omega) (fun j hj=>by simpa using hj) (fun j _ hj=>by simpa using hj)];exact hpre
   have hget: ∀(j:Nat) o',(gg ops i)[j]?=some o'->j≠i->ops[j]?=some o'/\j<ops.size:=fun j o' h hj=>by
    rw[f4,if_neg hj]at h;exact⟨h,(Array.getElem?_eq_some_iff.1 h).1⟩
   obtain⟨sc,g1,g2⟩:=iP (rd:=o6 ops i) (fas:=fas) hS hd hlv hc hsel (gg ops i).size 0 (fun j=>p j&&decide (j<i)) (by omega) (fun j hj=>by omega) hcc (fun j hj=>by simp only[Bool.and_eq_true]at hj;exact hj.1) (fun j o' hj hp hn=>by
    have hji:j≠i:=fun e=>by rw[e,hpi]at hp;cases hp
    obtain⟨k1,k2⟩:=hget j o' hj hji;have hlt: ¬j<i:=fun h=>by simp[hp,h]at hn
    have:=hst j k2;rw[if_neg hlt,k1]at this;simp only[Bool.or_eq_true,beq_iff_eq,hji,false_or]at this;rcases this with this|this
    ·have:=fQ hc (j+1) j (by omega) (by rw[f7];exact k2) hp this;rw[hpi]at this;cases this
    exact this)
   obtain⟨sc',g1',g2'⟩:=iP (rd:=o6 ops i) (fas:=fas) hS hd hlv hc1 hp1 (gg ops i).size 0 (fun j=>p j&&decide (j<i)) (by omega) (fun j hj=>by omega) hcc (fun j hj=>by simp only[Bool.and_eq_true]at hj;exact hj.2) (fun j o' hj hp hn=>by
    have hlt:j<i:=by simpa using hp
    have hji:j≠i:=by omega
    obtain⟨k1,k2⟩:=hget j o' hj hji;have hpj:p j=false:=by simpa[hlt] using hn
    have:=hst j k2;rw[if_pos hlt,k1]at this;simp only[Bool.or_eq_true,beq_iff_eq,hji,false_or]at this;rcases this with this|this
    ·have:=fQ hc' (i+1) i (by omega) (by rw[f7];exact hmlt) (by simp[cq]) this;have hji':(j==i)=false:=by simpa using hji
     simp[cq,hpj,hji']at this
    exact this)
   rw[g1]at g1';injection g1' with e
   subst e;have hsame:lg (o6 ops i) fas s1 s':=⟨fun k hk=>(g2.1 k hk).trans (g2'.1 k hk).symm,fun x hx=>(g2.2 x hx).trans (g2'.2 x hx).symm⟩;have hlv':iw s':=by obtain⟨wa,Oa,Xa,r,_⟩:=M1 s' a w hr;exact cO r
   obtain⟨o2,ho2,hg2,hso⟩:=hsp s' hsame hlv';rw[ho]at ho2;injection ho2 with ho2
   subst ho2;unfold wpOpIn;rw[ho];simp only;rw[if_pos (by simp[Region.wanted,hg])];exact hso a w K Q hr fun v w' h2=>hK v w' h2
  rw[f4,if_neg him]at ho';rw[lC,lB (hfind i him)]at hs;obtain⟨wa,Oa,Xa,ra,ka⟩:=M1 _ _ _ hr;exact kT ho' hs ra fun v w' r'=>hK v w' (ka _ _ _ (iM hk ho' v) r')
 ·intro j o ho hp;have hj:j<ops.size:=by have:=(Array.getElem?_eq_some_iff.1 ho).1;rwa[f7]at this
  simp[hj]at hp
 ·exact Nat.le_trans (List.length_filter_le _ _) (by simp[f7])
 have:i8 (gg ops m).size (fun j=>(Array.replicate ops.size false).getD j true)=[]:=by
  unfold i8;rw[List.filter_eq_nil_iff];intro j hj;have:=List.mem_range.1 hj;rw[f7]at this;simp[this]
 rw[this];rfl
/-! Calls that read own memory. -/
def Hd (fa:Nat) (F:List OObj) (t u:TV):Prop:=(tC t=true/\u=t)\/(∃r off len o,t= .one (.sl fa r off len)/\F[r]?=some o/\cU o/\u= .one (.p (.sl (((o.elems.take (off+len)).drop off).map (List.map ri)))))\/
 ∃r i j o e,t= .one (.ptr fa r i j)/\F[r]?=some o/\o.elems[i]?=some e/\(∀x∈e,isPure x=true)/\u= .one (.p (.ptr ((e.drop j).map ri)))
def wF (fa:Nat) (F:List OObj):List TV->List TV->Prop
 |[],[]=>True
 |t::ts,u::us=>Hd fa F t u/\wF fa F ts us
 |_,_=>False
theorem vp {fa:Nat} {F:List OObj}: ∀{ts us:List TV},wF fa F ts us->us.length=ts.length/\ ∀(j:Nat) u,us[j]?=some u-> ∃t,ts[j]?=some t/\Hd fa F t u
 |[],[],_=>⟨rfl,fun j u h=>by simp at h⟩
 |t::ts,u::us,⟨h1,h2⟩=>by
  obtain⟨g1,g2⟩:=vp h2;refine⟨by simp[g1],fun j v hv=>?_⟩
  match j,hv with
  |0,hv=>exact⟨t,rfl,by simp at hv;subst hv;exact h1⟩
  |j+1,hv=>exact g2 j v (by simpa using hv)
 |[],_::_,h=>h.elim
 |_::_,[],h=>h.elim
variable {ρ:Rho} {s:AS}
theorem Bo {H:OH} {Y:Nat->Prop} (hob: ∀(x r:Nat) (o:OObj),(H x)[r]?=some o->objRel ρ H Y w x r o) {fa:Nat} {t u:TV} (h:Hd fa (H fa) t u) {v:Value} (hr:t.rel ρ H Y w v):u.rel (fun _ _=>none) (fun _=>[]) (fun _=>False) w v:=by
 have hpure: ∀x u,isPure x=true->AV.rel ρ H Y w x u->bX (fun _=>False) w (ri x) u:=fun x u hp h=>by
  cases x<;>first|exact bX.weaken (fun _ _ h=>h.elim) h|cases hp
 rcases h with⟨hp,rfl⟩|⟨r,off,len,o,rfl,ho,hpr,rfl⟩|⟨r,i,j,o,e,rfl,ho,he,hpr,rfl⟩
 ·exact qP hp hr
 ·exact mB (hob fa r o ho) ho (fun e he x hx u hu=>hpure x u (hpr e he x hx) hu) (fun _ _ _ h=>h) hr
 obtain⟨o',b,c,g1,g2,g3,rfl⟩:=hr;rw[ho]at g1;injection g1 with g1
 subst g1;obtain⟨q1,q2,q3⟩:=hob fa r o ho;rw[g2]at q3;obtain⟨cells,p1,p2,p3,p4,p5⟩:=q3;have hcl: ∀(k:Nat) x,((e.drop j).map ri)[k]?=some x-> ∃u:Value,cells[i*o.es+(j+k)]?=some u/\bX (fun _=>False) w x u:=fun k x hx=>by
  rw[List.getElem?_map,List.getElem?_drop]at hx;obtain⟨x',hx',rfl⟩:=Option.map_eq_some_iff.1 hx;obtain⟨u,u1,u2,u3⟩:=p5 i e (j+k) x' he hx';exact⟨u,u1,hpure x' u (hpr x' (ax hx')) u3⟩
 refine bX.ptr b (i*o.es+j) _ (fun k=>(cells[i*o.es+(j+k)]?).getD undef) (fun h=>h) (Array.getElem?_eq_some_iff.1 p1).1 (fun k x hx=>?_) (fun k x hx=>?_)
 ·obtain⟨u,u1,_⟩:=hcl k x hx;rw[cell_of_row _ b _ cells o.ty (0,0) p1,show i*o.es+j+k=i*o.es+(j+k) by omega,u1];rfl
 obtain⟨u,u1,u2⟩:=hcl k x hx;simp only[u1,Option.getD_some];exact u2
theorem J1 (hrel:cW w0 O X s a w) {o:Oper} {f:FuncId} {ts:List TV} (hts:nf o s=some (f,ts)) {args:List TV} {res:CallRes} (hcon:CallC P f args res) (hsafe:Ek res) {fa d:Nat} (harg:wF fa (s.H fa) ts args) (hd:s.H d=[]) (hdst:o.dst=some d)
  {K:Act->World->Prop} {Q:Exit->Act->World->Prop} (hK: ∀v w',cW w0 O X (iv s d (renTV d res.r) (res.fam.map (renO d))) (a.put o.dst v) w'->K (a.put o.dst v) w'):o.wp P a w K Q:=by
 obtain⟨h1,hsz,ρ,hinv,htm⟩:=hrel;have htm:bq X ρ s a w:=htm;obtain⟨q1,q2⟩:=vp harg;have hXlt: ∀j,Xo X ρ s.H j->j<w.heap.size:=fun b hb=>by
  rcases hb with hb|⟨x,y,o',n,g1,g2⟩
  ·exact hinv.bar b hb
  exact bO (hinv.objs x y o' g1) g2
 have post: ∀v w1 ρc,Inv w (fun _=>False) (fun _=>False) (famH 0 res.fam) ρc w1->res.r.rel ρc (famH 0 res.fam) (Xo (fun _=>False) ρc (famH 0 res.fam)) w1 v->cW w0 O X (iv s d (renTV d res.r) (res.fam.map (renO d))) (a.put (some d) v) w1:=fun v w1 ρc hi hr=>by
  have hfam: ∀(x r:Nat) o,(famH 0 res.fam x)[r]?=some o->o∈res.fam:=fun x r o ho=>by
   unfold famH at ho;split at ho
   ·exact ax ho
   simp at ho
  have hob': ∀{Y Y':Nat->Prop} (x r:Nat) o,o∈res.fam->objRel ρc (famH 0 res.fam) Y w1 x r o->objRel ρc (famH 0 res.fam) Y' w1 x r o:=fun{Y Y'} x r o hmem hob=>by
   obtain⟨z1,z2,z3⟩:=hob;refine⟨z1,z2,?_⟩;cases hr0:ρc x r with
   |none=>rw[hr0]at z3;exact z3
   |some bc=>
    obtain⟨b,n⟩:=bc;rw[hr0]at z3;obtain⟨cells,p1,p2,p3,p4,p5⟩:=z3;refine⟨cells,p1,p2,p3,p4,fun i e j z he hz=>?_⟩;obtain⟨u,u1,u2,u3⟩:=p5 i e j z he hz;exact⟨u,u1,u2,pe (hsafe.2 o hmem e (ax he) z (ax hz)) u3⟩
  by_cases hpl:res.plain=true
  ·exact oh (P:=P) (it:=(⟨0,f,args,res⟩:cQ P)) (d:=d) (v:=v) (w1:=w1) (ρc:=ρc) h1 hsz hinv htm rfl rfl (fun _=>hd) (by rw[if_pos hpl];exact hi) (by rw[if_pos hpl];exact hr)
  have hi':Inv w (fun _=>False) (Xo X ρ s.H) (famH 0 res.fam) ρc w1:=
   ⟨hi.keep,fun x r o ho=>hob' x r o (hfam x r o ho) (hi.objs x r o ho),hi.inj,fun x r o b c ho hb=>by
    have:=hi.old x r o b c ho hb;refine⟨this.1,fun hX=>?_⟩;rcases this.1 with h|h
    ·have:=hXlt b hX;omega
    exact h,fun b hb=>Nat.lt_of_lt_of_le (hXlt b hb) hi.keep.size,hi.self⟩
  exact oh (P:=P) (it:=(⟨0,f,args,res⟩:cQ P)) (d:=d) (v:=v) (w1:=w1) (ρc:=ρc) h1 hsz hinv htm rfl rfl (fun _=>hd) (by rw[if_neg hpl];exact hi') (by rw[if_neg hpl];exact Cx hsafe.1 hr)
 have key: ∀vs:Array Value,(execOp a.eval o).run P w= .ok (.enter f vs) w->vs.size=args.length->(∀(j:Nat) t,ts[j]?=some t-> ∃v:Value,vs[j]?=some v/\t.rel ρ s.H (Xo X ρ s.H) w v)->o.wp P a w K Q:=fun vs hrun hvs hargs=>by
  unfold Oper.wp;rw[hrun];simp only[Oper.upon];refine(hcon.2 (fun _=>False) w vs (fun j hj=>hj.elim) hvs fun j u hu=>?_).mono ?_
  ·obtain⟨t,ht,hat⟩:=q2 j u hu;obtain⟨v,v1,v2⟩:=hargs j t ht;exact⟨v,v1,Bo hinv.objs hat v2⟩
  rintro e w1 ⟨v,rfl,ρc,hi,hr⟩;have:=post v w1 ρc hi hr;rw[hdst]at hK⊢;exact hK v w1 this
 unfold nf at hts;split at hts
 ·rename_i c hop;split at hts
  ·rename_i f' hcal;obtain⟨ts',hev,e⟩:=Option.map_eq_some_iff.1 hts;injection e with e e'
   subst e e';obtain⟨e1,e2⟩:=bZ hev;have hsize:c.args.size=args.length:=by rw[q1];simpa using e1.symm
   refine key _ (i7 hop hcal rfl hcon.1) (by simp[hsize]) fun j t ht=>?_
   obtain⟨y,hy,hyt⟩:=e2 j t ht;refine⟨a.eval y,?_,bD htm y _ hyt⟩;rw[Array.getElem?_map];have:c.args[j]?=some y:=by simpa using hy
   rw[this];rfl
  ·rename_i k hcal;split at hts
   ·rename_i f' extra ts' hcl hev;injection hts with hts
    injection hts with e e'
    subst e e';obtain⟨e1,e2⟩:=bZ hev;obtain⟨us,k1,k2,k3⟩:=iJ (v:=a.eval (.tmp k)) (fun t0 ht0=>bD htm (.tmp k) t0 ht0) hcl;have hlen:args.length=c.args.size+us.size:=by rw[q1,List.length_append,e1,k2,Array.length_toList]
    refine key _ (iO hop hcal k1 hcon.1) (by simp[hlen]) fun j t ht=>?_
    by_cases hj:j<ts'.length
    ·rw[aq hj]at ht;obtain⟨y,hy,hyt⟩:=e2 j _ ht;refine⟨a.eval y,?_,bD htm y _ hyt⟩;rw[Array.getElem?_append_left (by simp at e1⊢;omega),Array.getElem?_map];have:c.args[j]?=some y:=by simpa using hy
     rw[this];rfl
    rw[ar (by omega)]at ht;obtain⟨v,v1,v2⟩:=k3 _ _ ht;refine⟨v,?_,v2⟩;rw[Array.getElem?_append_right (by simp at e1⊢;omega)];simp at e1⊢;rw[<- e1];exact v1
   cases hts
  cases hts
 cases hts
theorem IV {b r n:Nat} {ty:TypeId} {rest:List (List AV)} (hrel:cW w0 O X s a w) (ho:(s.H b)[r]?=some ⟨ty,1,af n [AV.junk]++rest⟩): ∃vs:List Value,vs.length=n/\cW w0 O X ⟨s.tmps,aJ s.H b ((s.H b).set r ⟨ty,1,vs.map (fun v=>[AV.p (.raw v)])++rest⟩)⟩ a w:=by
 obtain⟨h1,hsz,ρ,hinv,htm⟩:=hrel;have htm:bq X ρ s a w:=htm;obtain⟨q1,q2,q3⟩:=id (hinv.objs b r _ ho);cases hr:ρ b r with
 |none=>
  rw[hr]at q3;simp only[List.append_eq_nil_iff,List.replicate_eq_nil_iff]at q3;obtain⟨rfl,rfl⟩:=q3;refine⟨[],rfl,?_⟩;have:(s.H b).set r ⟨ty,1,[].map (fun v=>[AV.p (.raw v)])++[]⟩=s.H b:=by
   apply List.ext_getElem?;intro i;rw[List.getElem?_set];split
   ·rename_i hi;subst hi;rw[if_pos (List.getElem?_eq_some_iff.1 ho).1,ho];rfl
   rfl
  rw[this,show aJ s.H b (s.H b)=s.H from funext fun x=>by unfold aJ;split<;>simp_all];exact⟨h1,hsz,ρ,hinv,htm⟩
 |some bc=>
  obtain⟨p,c⟩:=bc;rw[hr]at q3;obtain⟨cells,p1,p2,p3,p4,p5⟩:=q3;have hjl:(af n [AV.junk]).length=n:=by simp
  refine⟨(List.range n).map fun i=>(cells[i]?).getD undef,by simp[wk],?_⟩;have hnew: ∀(i:Nat) e',((((List.range n).map fun i=>(cells[i]?).getD undef).map (fun v=>[AV.p (.raw v)])++rest:List (List AV)))[i]?=some e'->(i<n/\e'=[.p (.raw ((cells[i]?).getD undef))])\/(n<=i/\rest[i-n]?=some e'/\(af n [AV.junk]++rest)[i]?=some e'):=fun i e' he=>by
   by_cases hi:i<n
   ·rw[aq (by simpa using hi)]at he;simp[hi]at he;exact .inl ⟨hi,he.symm⟩
   rw[ar (by simpa using Nat.le_of_not_lt hi)]at he;simp only[ay,List.length_range]at he;exact .inr ⟨by omega,he,by rw[ar (by omega),hjl];exact he⟩
  obtain⟨i1,i2⟩:=sO hinv (o':=⟨ty,1,((List.range n).map fun i=>(cells[i]?).getD undef).map (fun v=>[AV.p (.raw v)])++rest⟩) ho hr p1 rfl rfl (by simp) (fun e' he'=>by
   obtain⟨i,hi⟩:=List.mem_iff_getElem?.1 he';rcases hnew i e' hi with⟨_,rfl⟩|⟨_,_,h⟩
   ·rfl
   ·exact q1 e' (ax h)) (fun e' he' x hx=>by
   obtain⟨i,hi⟩:=List.mem_iff_getElem?.1 he';rcases hnew i e' hi with⟨_,rfl⟩|⟨_,_,h⟩
   ·simp only[List.mem_singleton]at hx;subst hx;trivial
   ·exact hinv.self b r _ ho e' (ax h) x hx) (fun i e' j x he hx=>by
   rcases hnew i e' he with⟨hi,rfl⟩|⟨_,_,h⟩
   ·have hj:j=0:=by
     cases j with
     |zero=>rfl
     |succ j=>simp at hx
    subst hj;simp at hx;subst hx;obtain⟨u,u1,u2,_⟩:=p5 i [.junk] 0 .junk (by rw[aq (by omega)];simp[hi]) rfl;simp only[Nat.mul_one,Nat.add_zero]at u1⊢;refine⟨u,u1,u2,?_⟩;rw[u1];exact bX.raw u u2
   exact p5 i e' j x h hx)
  exact⟨h1,hsz,ρ,i1,fun t x hx=>by
   obtain⟨v,v1,v2⟩:=htm t x hx;exact⟨v,v1,TV.rel_map v2 i2⟩⟩
theorem Mg {H H1:OH} {d:Nat} (hd:H d=[]) {t:TV} (h:fj H t):eZ H1 d t=t:=by
 have av: ∀x,eh H x->dI H1 d x=x:=fun x hx=>by
  cases x with
  |p x=>rfl
  |junk=>rfl
  |sl b r off len=>
   have:b≠d:=fun e=>hx (by rw[e];exact hd)
   simp only[dI,if_neg this]
  |ptr b r i j=>
   have:b≠d:=fun e=>hx (by rw[e];exact hd)
   simp only[dI,if_neg this]
  |fn f b qs=>
   have:b≠d:=fun e=>hx.1 (by rw[e];exact hd)
   simp only[dI,if_neg this]
 have avs: ∀cs:List AV,(∀x∈cs,eh H x)->cs.map (dI H1 d)=cs:=fun cs hc=>by
  conv=>rhs;rw[<- List.map_id cs]
  exact List.map_congr_left fun x hx=>av x (hc x hx)
 cases t with
 |one x=>simp only[eZ,av x h]
 |agg cs=>simp only[eZ,avs cs h]
 |fn f cs=>simp only[eZ,avs cs h]
 |tup ts=>
  simp only[eZ]
  congr 1
  conv=>rhs;rw[<- List.map_id ts]
  exact List.map_congr_left fun x hx=>by
   rw[avs x.2 (h x hx)];rfl
theorem Ho {d:Nat} {F:List OObj} {rv:TV} {x:PV} (hl:iw s) (hd:s.H d=[]) (hfz: ∀H:OH,H d=F->rc H d/\eZ H d rv= .one (.p x)):bW (iv s d rv F) (s.put (some d) (.one (.p x))):=by
 have hup:aJ s.H d []=s.H:=funext fun y=>by
  unfold aJ;split
  ·rename_i h;rw[h];exact hd.symm
  rfl
 obtain⟨H1,e1,e2,e3⟩: ∃H1:OH,iv s d rv F=⟨s.tmps.set d rv,H1⟩/\H1 d=F/\aJ H1 d []=s.H:=by
  cases F with
  |nil=>exact⟨s.H,rfl,hd,hup⟩
  |cons o l=>
   refine⟨aJ s.H d (o::l),rfl,aX,?_⟩;rw[<- hup];funext y;unfold aJ;split<;>rfl
 rw[e1];obtain⟨f1,f2⟩:=hfz H1 e2;have h:=dF (s:=⟨s.tmps.set d rv,H1⟩) d f1;simp only[e3,List.map_set,f2]at h;have em:s.tmps.map (eZ H1 d)=s.tmps:=by
  conv=>rhs;rw[<- List.map_id s.tmps]
  exact List.map_congr_left fun t ht=>by
   obtain⟨k,hk⟩:=List.mem_iff_getElem?.1 ht;exact Mg hd (hl.1 k t hk)
 rw[em]at h;exact h
def N9 (P:Program) (f:FuncId) (ts:List TV) (fa d r n:Nat) (ty:TypeId) (rest:List (List AV)) (x:PV) (F:List OObj):Prop:= ∀vs:List Value,vs.length=n-> ∃args res,CallC P f args res/\Ek res/\wF fa (F.set r ⟨ty,1,vs.map (fun v=>[AV.p (.raw v)])++rest⟩) ts args/\
 ∀H:OH,H d=res.fam.map (renO d)->rc H d/\eZ H d (renTV d res.r)= .one (.p x)
theorem Gs {f:FuncId} {ts:List TV} {o:Oper} {fa d r n:Nat} {ty:TypeId} {rest:List (List AV)} {x:PV} (hts:nf o s=some (f,ts)) (hdst:o.dst=some d) (hd:s.H d=[]) (hfd:fa≠d) (hrow:(s.H fa)[r]?=some ⟨ty,1,af n [AV.junk]++rest⟩) (hcon:N9 P f ts fa d r n ty rest x (s.H fa)):
  wJ P o (cW w0 O X s) (cW w0 O X (s.put o.dst (.one (.p x)))):=fun a w K Q hr hK=>by
 obtain⟨vs,hl,hr2⟩:=IV hr hrow;obtain⟨args,res,hc,hsafe,harg,hfz⟩:=hcon vs hl;have hev:AS.ev ⟨s.tmps,aJ s.H fa ((s.H fa).set r ⟨ty,1,vs.map (fun v=>[AV.p (.raw v)])++rest⟩)⟩=s.ev:=funext fun y=>by cases y<;>rfl
 have hts':nf o ⟨s.tmps,aJ s.H fa ((s.H fa).set r ⟨ty,1,vs.map (fun v=>[AV.p (.raw v)])++rest⟩)⟩=some (f,ts):=by
  rw[<- hts];unfold nf;simp only[hev]
 have hd':aJ s.H fa ((s.H fa).set r ⟨ty,1,vs.map (fun v=>[AV.p (.raw v)])++rest⟩) d=[]:=by rw[aN (Ne.symm hfd)];exact hd
 refine iF (.inl rfl) (J1 hr2 hts' hc hsafe (fa:=fa) (by simp only[aX];exact harg) hd' hdst fun v w' r'=>hK v w' ?_);have r3:=Ho (cO hr2) hd' hfz _ _ _ _ _ r';have hlt:=(List.getElem?_eq_some_iff.1 hrow).1;have hw:=kq (s:=AS.put ⟨s.tmps,aJ s.H fa ((s.H fa).set r ⟨ty,1,vs.map (fun v=>[AV.p (.raw v)])++rest⟩)⟩ (some d) (.one (.p x))) fa r (o:=⟨ty,1,vs.map (fun v=>[AV.p (.raw v)])++rest⟩) (o':=⟨ty,1,af n [AV.junk]++rest⟩) (by rw[eK];simp only[aX];exact List.getElem?_set_self hlt) rfl rfl (by simp[hl]) (fun i e' he=>by
  have hjl:(af n [AV.junk]).length=n:=by simp
  by_cases hi:i<n
  ·rw[aq (by omega)]at he;simp[hi]at he;subst he;refine⟨[.p (.raw (vs[i]'(by omega)))],by rw[aq (by simp;omega)];simp[hl,hi],rfl,fun j x hx=>?_⟩;cases j with
   |zero=>simp at hx;exact .inl hx.symm
   |succ j=>simp at hx
  rw[ar (by omega),hjl]at he;exact⟨e',by rw[ar (by simp;omega)];simpa[hl] using he,rfl,fun j x hx=> .inr hx⟩)
 have r4:=hw _ _ _ _ _ r3;have e:(AS.mk (AS.put ⟨s.tmps,aJ s.H fa ((s.H fa).set r ⟨ty,1,vs.map (fun v=>[AV.p (.raw v)])++rest⟩)⟩ (some d) (.one (.p x))).tmps (aJ (AS.put ⟨s.tmps,aJ s.H fa ((s.H fa).set r ⟨ty,1,vs.map (fun v=>[AV.p (.raw v)])++rest⟩)⟩ (some d) (.one (.p x))).H fa (((AS.put ⟨s.tmps,aJ s.H fa ((s.H fa).set r ⟨ty,1,vs.map (fun v=>[AV.p (.raw v)])++rest⟩)⟩ (some d) (.one (.p x))).H fa).set r ⟨ty,1,af n [AV.junk]++rest⟩)))=s.put (some d) (.one (.p x)):=by
  simp only[AS.put,aX,List.set_set];have e1:(s.H fa).set r ⟨ty,1,af n [AV.junk]++rest⟩=s.H fa:=by
   apply List.ext_getElem?;intro i;rw[List.getElem?_set];split
   ·rename_i hi;subst hi;exact hrow.symm
   rfl
  rw[e1]
  congr 1
  funext y;unfold aJ;split
  ·rename_i h;rw[h]
  rfl
 rw[e]at r4;rw[hdst];rw[hdst]at r4;exact r4
theorem Gr {R:AS->Act->World->Prop} (M1:EH R) {o:Oper} {s1 s2:AS} (h: ∀w0 O X,wJ P o (cW w0 O X s1) (cW w0 O X s2)):wJ P o (R s1) (R s2):=fun a w K Q hr hK=>by
 obtain⟨w1,O1,X1,r1,k1⟩:=M1 s1 a w hr;exact h w1 O1 X1 a w K Q r1 fun v w' r'=>hK v w' (k1 _ _ _ r')
theorem L4 {ops:Array Oper} {m:Nat} {fas:List Nat} {s':AS} (h:lg (o6 ops m) fas s s'):cxTs ops m s'=cxTs ops m s:=by
 unfold cxTs;have h1:=h.1;unfold o6 at h1;cases ho:ops[m]? with
 |none=>rfl
 |some o=>
  rw[ho]at h1;simp only at h1⊢;have hev: ∀y∈o.op.operands,s'.ev y=s.ev y:=fun y hy=>by
   cases y with
   |tmp k=>exact h1 k (List.mem_filterMap.2 ⟨.tmp k,by simpa using hy,rfl⟩)
   |_=>rfl
  have:nf o s'=nf o s:=by
   unfold nf;split
   ·rename_i c hop;rw[hop]at hev;simp only[Op.operands,Call.operands]at hev;split
    ·rename_i f hcal;rw[hcal]at hev;rw[ib c.args.toList fun y hy=>hev y (by simp at hy⊢;exact .inr hy)]
    ·rename_i k hcal;rw[hcal]at hev;rw[ib c.args.toList fun y hy=>hev y (by simp at hy⊢;exact .inr hy),hev (.tmp k) (by simp)]
    rfl
   rfl
  rw[this]
variable {γ:Type} {L:jd γ} {g:γ} {Q:Exit->AS->γ->Prop}
theorem vg (hmx:P.follows .mixedOrders=true) (m fa d r n:Nat) (ty:TypeId) (rest:List (List AV)) (x:PV) {f:FuncId} {ts:List TV} (items:List (aH P)) (ow:List Nat) {id:Nat} {ops:Array Oper} (hk:dC ks ops=true) (hE:PT ops m [fa,d]=true) (hcw:jY ops m=some d) (hfd:fa≠d)
  (h: ∀K:AS->Prop,(∀s1,(cxTs ops m s1=some (f,ts)/\s1.H d=[]/\(s1.H fa)[r]?=some ⟨ty,1,af n [AV.junk]++rest⟩/\N9 P f ts fa d r n ty rest x (s1.H fa)/\ ∀K:AS->Prop,(∀s',Q .normal s' g->K s')->ca P (items.map aH.a) ow (bC ops (ops.toList.drop (m+1)) (m+1)) (some (s1.put (some d) (.one (.p x)))) K)->K s1)->ca P (items.map aH.a) ow (bC ops (ops.toList.take m) 0) (some s) K):dY P L ks (.region id ops true) Q s g:=fun vf w0 O X a w r0=>by
 obtain⟨s1,h1,q1,q2,q3,q4,q5⟩:=bi P (items.map aH.a) ow ops _ 0 s _ (h _ fun s1 q=>q);obtain⟨s2,h3,h4⟩:=bi P (items.map aH.a) ow ops _ (m+1) _ _ (q5 (fun s=>Q .normal s g) fun _ h=>h);refine Is (R:=iR L ks vf w0 O X g) fb hmx items ow m [fa,d] x hk hE h1 (fun s' hs hl=>?_) (by rw[hcw];exact h3) r0 fun a' w' r'=>⟨s2,g,h4,r'⟩
 rw[hcw];refine nJ hk ?_;have ht:=(L4 hs).trans q1;unfold cxTs at ht;cases ho:ops[m]? with
 |none=>rw[ho]at ht;cases ht
 |some o=>
  rw[ho]at ht;simp only at ht;split at ht
  ·rename_i hg;have hdst:o.dst=some d:=by unfold jY at hcw;rw[ho]at hcw;exact hcw
   refine⟨o,ho,by simpa using hg,?_⟩;rw[<- hdst];have e1:s'.H fa=s1.H fa:=hs.2 fa (by simp);have e2:s'.H d=s1.H d:=hs.2 d (by simp);exact Gr pW fun w0 O X=>Gs ht hdst (by rw[e2];exact q2) hfd (by rw[e1];exact q3) (by rw[e1];exact q4)
  cases ht
end
end
section
theorem EO {P:Program} {γ:Type} {L:jd γ} {ks:List Nat} {s:AS} {g:γ} {Q:Exit->AS->γ->Prop} (hmx:P.follows .mixedOrders=true) (items:List (aH P)) (ow:List Nat) {id:Nat} {ops:Array Oper} (hd:cL [] ops=true) (hk:dC ks ops=true)
  (h: ∀K:AS->Prop,(∀s',Q .normal s' g->K s')->ca P (items.map aH.a) ow (bC ops ops.toList 0) (some s) K):dY P L ks (.region id ops true) Q s g:=fun vf w0 O X a w r=>by
 obtain⟨sF,h1,h2⟩:=bi P (items.map aH.a) ow ops ops.toList 0 s _ (h (fun s'=>Q .normal s' g) fun _ h=>h);have hF:cn P (items.map aH.a) ow ops (List.range ops.size) s=some sF:=by
  rw[List.range_eq_range'];have:=dW (P:=P) (items:=items.map aH.a) (ow:=ow) ops.toList 0 s (fun j o hj=>by simpa using hj);rw[h1]at this;simpa using this.symm
 refine(wpIn_wide (n:=0)).1 (wpIn_region_any (F:=FW none) hmx ?_);have hr':iR L ks vf w0 O X g s a {w with drawn:=w.drawn+1}:=by
  obtain⟨wa,Oa,Xa,⟨q1,q2,ρ,hinv,htm⟩,ka⟩:=fb s a w r;have e:Ext w {w with drawn:=w.drawn+1}:=⟨rfl,rfl,rfl,ae _,fun _ _=>rfl⟩;have htm:bq Xa ρ s a w:=htm;exact ka _ _ _ (fun _ _=>rfl) ⟨q1,q2,ρ,hinv.grow e,htm.grow e⟩
 have hlive:iw s:=by obtain⟨wa,Oa,Xa,r,_⟩:=fb s a w r;exact cO r
 rw[<- mg];refine gB (sep:=[]) (ia hd (by simp)) hd (fun _ s a w=>iR L ks vf w0 O X g s a w) ⟨hlive,fun x hx=>by simp at hx⟩ hF (fun p a w _ hr=>⟨sF,g,h2,hr⟩) (fun p i o s' s1' a w K ho hpi _ hs hr hK=>?_) ops.size (Array.replicate ops.size false) s a _ (by simp) ?_ ?_ ?_ hr'
 ·obtain⟨wa,Oa,Xa,ra,ka⟩:=fb _ _ _ hr;exact kT ho hs ra fun v w' r'=>hK v w' (ka _ _ _ (iM hk ho v) r')
 ·intro j o ho hp;have hj:j<ops.size:=(Array.getElem?_eq_some_iff.1 ho).1;simp[hj]at hp
 ·exact Nat.le_trans (List.length_filter_le _ _) (by simp)
 have:i8 ops.size (fun j=>(Array.replicate ops.size false).getD j true)=[]:=by
  unfold i8;rw[List.filter_eq_nil_iff];intro j hj;have:=List.mem_range.1 hj;simp[this]
 rw[this];rfl
theorem lh {s:AS} {n m:Nat} {c:Int} {y D:List Int} {M acc:List (List Int)} {ex:Bool} (hH:s.H 0=yh 0 n m (c::y) D M acc ex):bW s ⟨s.tmps,aJ s.H 0 (yh 0 n (m+1) y D M acc ex)⟩:=by
 have h:=kq (s:=s) 0 3 (o:=⟨2,1,jnk m++lc fI (c::y)⟩) (o':=⟨2,1,jnk (m+1)++lc fI y⟩) (by rw[hH];rfl) rfl rfl (by simp only[eG,List.length_cons];omega) fun i e' he=>by
  rw[<- lO m c y];simp only at he;by_cases hi:i=m
  ·subst hi;have hl:i<(jnk (i+1)++lc fI y).length:=by rw[eG];omega
   refine⟨_,List.getElem?_set_self hl,?_⟩;rw[aq (by simp[jnk])]at he;simp[jnk]at he;subst he;exact⟨rfl,fun j x hj=>by
    cases j with
    |zero=>simp at hj;exact .inl hj.symm
    |succ j=>simp at hj⟩
  refine⟨e',by rw[List.getElem?_set_ne (Ne.symm hi)];exact he,rfl,fun j x hj=> .inr hj⟩
 rw[hH]at h;exact h
structure SZ (lo hi:Int) (h:Int->List (List Int)) (T:List (List Int)) where
 x:Int
 acc:List (List Int)
 h1:lo<=x
 e:acc++(rng x hi).flatMap h=T
section
variable {n:Nat} {f:FF} {B:Int} {ex:Bool}
theorem Al (hv:mN n f B) (k:Nat) (y:List Int) (z:Bool) (acc:List (List Int)) (hk:y.length+(k+1)=n) (hT:mZ y) (hP:fD f n B (k+1) (bj n y)) (hz:z=true->dB f n B k (bj n y)<=0) (hlen:(acc++uD f n B ex k y z).length<=1000000)
  (hrec: ∀j,k=j+1-> ∀c acc',dB f n B k (bj n y)<=c->c<=d6 f n B k (bj n y)->(z=true->0<=c)->(acc'++uD f n B ex j (c::y) (z&&decide (c=0))).length<=1000000->Ri n f B ex j (c::y) (z&&decide (c=0)) acc'):Ri n f B ex k y z acc:=by
 have hn8:=hv.n8;have hdk:=hv.d (k:=k) (by omega);have hd1:=hv.d (k:=k+1) (by omega);have hD0:=aZ (dk f) (show k<n+1 by omega);have hD1:=aZ (dk f) (show k+1<n+1 by omega);have hDl:=aW (n+1) (dk f);have hM:=sT n f (show k<n by omega);have hMl:=ii n f n;have hRl:(k9 n f k).length=n-k-1:=aW _ _;have hR: ∀i,i<y.length->(k9 n f k)[i]?=some (bk f k k (k+(i+1))):=fun i hi=>aZ _ (by omega)
 have hsh:=fun m (hm:m<=y.length)=>hv.shP_c hk hT hm
 have hshA:=mG f hk;have hrs:=hv.rs0 (k:=k+1) (by omega) hP;have hsq:=hv.sq (k:=k) (by omega) hP;have hlh:=hv.lohi hk hT hP;have htc:=Nx (m:=y.length+1) (by omega);have hrt:=lL hsq.1 hsq.2;have cR:=Mb _ hsq.1 hsq.2;have hst:=fun c=>hv.step hk (c:=c) hP
 have hsqe:dk f k*nF f n B (k+1) (bj n y)=kS f n B k (bj n y):=rfl;have hloe:dB f n B k (bj n y)=0-(isqF (kS f n B k (bj n y))+qV f k y y.length)/dk f (k+1):=by rw[hshA];unfold dB;omega
 have hhie:d6 f n B k (bj n y)=(isqF (kS f n B k (bj n y))-qV f k y y.length)/dk f (k+1):=by rw[hshA];rfl
 have hshy:=hsh y.length (ae _);have cF1:=yW (isqF (kS f n B k (bj n y))+qV f k y y.length) (dk f (k+1)) hd1.1 (by omega) (by omega) (by omega);have cF2:=yW (isqF (kS f n B k (bj n y))-qV f k y y.length) (dk f (k+1)) hd1.1 (by omega) (by omega) (by omega);have e1:IntKind.i64.wrap ((k:Int)+1)=((k+1:Nat):Int):=aM (by omega) (by omega);have hS: ∃h:Int->List (List Int),uD f n B ex k y z=(rng (if z=true then 0 else dB f n B k (bj n y)) (d6 f n B k (bj n y))).flatMap h/\(k=0-> ∀c,h c=if(z&&decide (c=0))=true\/(ex&&!decide (nF f n B k (bj n (c::y))=0))=true then[]else[c::y])/\ ∀j,k=j+1-> ∀c,h c=uD f n B ex j (c::y) (z&&decide (c=0)):=by
  cases k with
  |zero=>exact⟨_,rfl,fun _ _=>rfl,fun j e=>absurd e (by omega)⟩
  |succ j=>
   refine⟨_,rfl,fun e=>absurd e (by omega),fun j' e c=>?_⟩;obtain rfl:j'=j:=by omega
   rfl
 obtain⟨h,hS,hh0,hh1⟩:=hS;have hsp0:qV f k y 0=0:=rfl;have hsps: ∀i,qV f k y i+bk f k k (k+(i+1))*y.getD i 0=qV f k y (i+1):=fun _=>rfl
 rw[<- hshA]at hst;have hrs': ∀c,fD f n B k (bj n (c::y))->0<=nF f n B k (bj n (c::y))/\nF f n B k (bj n (c::y))<=70368744177664:=fun c h=>hv.rs0 (by omega) h
 clear hv hP hT;unfold Ri at*
 rw[hS]at hlen⊢;clear hS;generalize dB f n B k (bj n y)=lo at*
 generalize d6 f n B k (bj n y)=hi at*
 generalize kS f n B k (bj n y)=sq at*
 generalize nF f n B (k+1) (bj n y)=rest at*
 generalize isqF sq=rt at*
 generalize be (n+1) (dk f)=D at*
 generalize dT n f n=M at*
 generalize k9 n f k=r at*
 generalize dk f (k+1)=d1 at*
 generalize dk f k=d0 at*
 generalize qV f k y=sp at*
 have hlo: -46911780290560<=lo/\lo<=46911780290560:=by omega
 have hhi: -46911780290560<=hi/\hi<=46911780290560:=by omega
 clear hlh htc;have hd1n:(d1=0)=False:=eq_false (by omega);refine oc Tryz.func139 rfl (by kernel_rfl) Ov (by simp) (by simp[selfTV,bG]) (by simp[selfTV]) (yR 0 _ _ _ _ _ _ _) (yR 0 _ _ _ _ _ _ _) (Pi 0 _ _ _ _ _ _ _ _ _ _) ?_;rw[Tryz.ntmps139];refine dY.weak (aF (tm:=(.raw (.int .i64 (k:Int))::.raw (.int .i64 rest)::.raw (.bool z)::.one (.ptr 0 1 0 0)::.one (.ptr 0 2 0 0)::.one (.ptr 0 0 0 0)::.one (.ptr 0 6 0 0)::.one (.ptr 0 4 0 0)::j16 (j16 (j16 (j16 (j16 (j16 (j16 (jk::jk::jk::[]))))))))) (l:=[(0,yh 0 n (k+1) y D M acc ex)]) ⟨rfl,trivial⟩ (by simp[wk,af])) ?_;refine aS (by kernel_rfl) fun _ K=>?_;simp(disch:=omega) only[kd,aa,e1,hD1];apply K
 refine bN (aS (by kernel_rfl) fun _ K=>?_);simp(disch:=omega) only[kd,aa,hM,fR,hRl];apply K;refine iS (G:=qp y.length) (fun q=>⟨(.raw (.int .i64 (k:Int))::.raw (.int .i64 rest)::.raw (.bool z)::.one (.ptr 0 1 0 0)::.one (.ptr 0 2 0 0)::.one (.ptr 0 0 0 0)::.one (.ptr 0 6 0 0)::.one (.ptr 0 4 0 0)::jk::jk::jk::.raw (.int .i64 d1)::.raw (.int .i64 (sp q.i))::j16 (jk::jk::jk::.one (.p (.sl (ls fI r)))::rN y.length::rN q.i::j16 (j16 (j16 (j16 (j16 (j4 (j4 ([]))))))))),Hm [(0,yh 0 n (k+1) y D M acc ex)]⟩) (fun _=>()) (fun q=>y.length-q.i) ⟨0,by omega⟩ ?_ rfl ?_
 ·refine aF ⟨rfl,trivial⟩ ?_;simp[wk,hsp0];omega
 rintro⟨i,hi0⟩;simp only;by_cases hm:i<y.length
 ·have hRi:=hR i hm;have s0:=hsh i (by omega);have s1:=hsh (i+1) (by omega);have s2:=hsps i;have e3:IntKind.i64.wrap (((k+1:Nat):Int)+(i:Int))=((k+1+i:Nat):Int):=by rw[aM (by omega) (by omega)];omega
  have hXi:=IS (k+1) i y;have hXl:=eG (k+1) y;have hyi:y[i]?=some (y.getD i 0):=by rw[List.getD_eq_getElem?_getD,List.getElem?_eq_getElem hm];rfl
  generalize bk f k k (k+(i+1))=q at*
  generalize y.getD i 0=yi at*
  refine aS (by kernel_rfl) fun _ K=>?_;simp(disch:=omega) only[kd];apply K
  first|refine Bf rfl ?_|refine bN (bI rfl (fun _=>bY ?_) (fun h=>by simp at h<;>omega))
  refine bN (eQ ?_);refine aS (by kernel_rfl) fun _ K=>?_;simp(disch:=omega) only[kd,aa,hRi];apply K
  refine b9 (by kernel_rfl) fun _ K=>?_;simp(disch:=omega) only[kd,aa,e1,e3,hXi,hyi,aM,s2];apply K
  show dY _ _ _ _ _ _ _;refine b9 (by kernel_rfl) fun _ K=>?_;simp(disch:=omega) only[kd,aM];apply K
  refine⟨⟨i+1,by omega⟩,by simp only;omega,aF ⟨rfl,trivial⟩ ?_,trivial⟩;simp[wk]
 have hin:i=y.length:=by omega
 subst hin;refine aS (by kernel_rfl) fun _ K=>?_;simp(disch:=omega) only[kd];apply K
 first|refine Bc rfl ?_|refine bN (bI rfl (fun h=>by simp at h<;>omega) (fun _=>d5 ?_))
 show dY _ _ _ _ _ _ _;refine aS (by kernel_rfl) fun _ K=>?_;simp(disch:=omega) only[kd,aa,hD0,hsqe,aM];apply K
 refine iT [⟨1,_,_,_,cR⟩] [] (by kernel_rfl) fun _ K=>?_;simp only[kd,aa];apply K
 refine iT [⟨4,_,_,_,cF1⟩,⟨10,_,_,_,cF2⟩] [] (by kernel_rfl) fun _ K=>?_;simp(disch:=omega) only[kd,<- hhie,aa,aM,<- hloe,ag];apply K
 refine bN (yy (S:=⟨(.raw (.int .i64 (k:Int))::jk::.raw (.bool z)::.one (.ptr 0 1 0 0)::.one (.ptr 0 2 0 0)::.one (.ptr 0 0 0 0)::.one (.ptr 0 6 0 0)::.one (.ptr 0 4 0 0)::jk::jk::jk::.raw (.int .i64 d1)::.raw (.int .i64 (sp y.length))::jk::jk::.raw (.int .i64 sq)::jk::.raw (.int .i64 (if z=true then 0 else lo))::.raw (.int .i64 hi)::j16 (j16 (j16 (j16 (j16 (j16 (j4 (j4 ([]))))))))),Hm [(0,yh 0 n (k+1) y D M acc ex)]⟩) ?_ ?_)
 ·cases z with
  |true=>
   refine aS (by kernel_rfl) fun _ K=>?_;simp only[kd];apply K
   first|refine fP rfl ?_|refine bI rfl (fun _=>?_) (fun h=>by simp at h<;>omega)
   refine b9 (by kernel_rfl) fun _ K=>?_;simp only[kd];apply K
   refine⟨aF ⟨rfl,trivial⟩ ?_,rfl⟩;simp[wk]
  |false=>
   refine aS (by kernel_rfl) fun _ K=>?_;simp only[kd];apply K
   first|refine fw rfl (bY ?_)|refine bI rfl (fun h=>by simp at h<;>omega) (fun _=>bY ?_)
   refine⟨aF ⟨rfl,trivial⟩ ?_,rfl⟩;simp[wk]
 refine aS (by kernel_rfl) fun _ K=>?_;simp only[kd];apply K
 have hT1:((acc++(rng (if z=true then 0 else lo) hi).flatMap h)).length<=1000000:=hlen;generalize hTT:acc++(rng (if z=true then 0 else lo) hi).flatMap h=T at*
 refine iS (G:=SZ (if z=true then 0 else lo) hi h T) (fun v=>⟨(.raw (.int .i64 (k:Int))::jk::.raw (.bool z)::.one (.ptr 0 1 0 0)::.one (.ptr 0 2 0 0)::.one (.ptr 0 0 0 0)::.one (.ptr 0 6 0 0)::.one (.ptr 0 4 0 0)::jk::jk::jk::.raw (.int .i64 d1)::.raw (.int .i64 (sp y.length))::jk::jk::.raw (.int .i64 sq)::jk::jk::.raw (.int .i64 hi)::.raw (.int .i64 v.x)::j16 (j16 (j16 (j16 (j16 (j16 (j4 (jk::jk::jk::[])))))))),Hm [(0,yh 0 n (k+1) y D M v.acc ex)]⟩) (fun _=>()) (fun v=>(hi+1-v.x).toNat) ⟨_,acc,Int.le_refl _,hTT⟩ ?_ rfl ?_
 ·refine aF ⟨rfl,trivial⟩ ?_;simp[wk]
 rintro⟨x,ac,hx0,he⟩;simp only;by_cases hx:x<=hi
 ·have hxz:z=true->0<=x:=fun e=>by rw[if_pos e]at hx0;exact hx0
  have hxlo:lo<=x:=by
   cases z with
   |true=>have:=hz rfl;have:=hxz rfl;omega
   |false=>simpa using hx0
  obtain⟨hP',hq⟩:=hst x hxlo hx;have hrx:=hrs' x hP';rw[fh hx,List.flatMap_cons,<- List.append_assoc]at he;have hal:(ac++h x).length<=1000000:=by
   rw[<- he,List.length_append]at hT1;omega
  have hxb:(d1*x).natAbs<=65535*46911780290560:=by
   rw[Int.natAbs_mul];exact Nat.mul_le_mul (by omega) (by omega)
  have hh0x:=fun e=>hh0 e x
  generalize hrxe:nF f n B k (bj n (x::y))=rx at*
  have hprod:0<=d1*rx:=Int.mul_nonneg (by omega) hrx.1;have hdiv:Int.tdiv (sq-(d1*x+sp y.length)*(d1*x+sp y.length)) d1=rx:=by rw[hq];exact Int.mul_tdiv_cancel_left _ (by omega)
  have huu:0<=(d1*x+sp y.length)*(d1*x+sp y.length):=by
   rcases Int.le_total 0 (d1*x+sp y.length)with h|h
   ·exact Int.mul_nonneg h h
   exact Int.mul_nonneg_of_nonpos_of_nonpos h h
  have hXl:=eG (k+1) y;have hXs:=lO k x y;have hXg:(jnk (k+1)++lc fI y)[k]?=some [.junk]:=by
   rw[aq (by simp[jnk])];simp[jnk]
  refine bN (aS (by kernel_rfl) fun _ K=>?_);simp(disch:=omega) only[kd,aa];apply K
  first|refine fP rfl (bY ?_)|refine bI rfl (fun _=>bY ?_) (fun h=>by simp at h<;>omega)
  refine bN (eQ ?_);refine aS (by kernel_rfl) fun _ K=>?_;simp(disch:=omega) only[kd,aa,hXg,hXs];apply K
  refine aS (by kernel_rfl) fun _ K=>?_;simp(disch:=omega) only[kd,aa,aM];apply K
  generalize hU:(d1*x+sp y.length)*(d1*x+sp y.length)=uu at*
  refine aS (by kernel_rfl) fun _ K=>?_;simp(disch:=omega) only[kd,aa,hU,aM,hdiv];apply K
  refine eQ ?_;cases k with
  |zero=>
   have hhx:=hh0x rfl;obtain⟨bb,hbb⟩: ∃bb:Bool,bb=((z&&decide (x=0))||(ex&&!decide (rx=0))):=⟨_,rfl⟩;have hhx':h x=if bb=true then[]else[x::y]:=by rw[hhx,hbb];simp
   clear hhx hh0x hh0 hh1;have hk0:(0<((0:Nat):Int))=False:=eq_false (by omega);have hj0:jnk 0++lc fI (x::y)=lc fI (x::y):=rfl;refine aS (by kernel_rfl) fun _ K=>?_;simp only[kd,aa,hk0];apply K
   first|refine fw rfl ?_|refine bI rfl (fun h=>by simp at h<;>omega) (fun _=>?_)
   simp only[hj0];refine bN (yy (S:=⟨(.raw (.int .i64 ((0:Nat):Int))::jk::.raw (.bool z)::.one (.ptr 0 1 0 0)::.one (.ptr 0 2 0 0)::.one (.ptr 0 0 0 0)::.one (.ptr 0 6 0 0)::.one (.ptr 0 4 0 0)::jk::jk::jk::.raw (.int .i64 d1)::.raw (.int .i64 (sp y.length))::jk::jk::.raw (.int .i64 sq)::jk::jk::.raw (.int .i64 hi)::.raw (.int .i64 x)::j16 (j16 (j16 (j16 (j16 (j4 (j4 (j4 (.raw (.bool bb)::j4 (j4 (jk::jk::[]))))))))))),Hm [(0,yh 0 n 0 (x::y) D M ac ex)]⟩) ?_ ?_)
   ·cases z with
    |false=>
     refine aS (by kernel_rfl) fun _ K=>?_;simp(disch:=omega) only[kd,aa];apply K
     first|refine fw rfl ?_|refine bI rfl (fun h=>by simp at h<;>omega) (fun _=>?_)
     cases ex with
     |false=>
      refine b9 (by kernel_rfl) fun _ K=>?_;simp(disch:=omega) only[kd,aa];apply K
      refine⟨aF ⟨rfl,trivial⟩ ?_,rfl⟩;simp[wk,hbb]
     |true=>
      by_cases hr0:rx=0
      ·have hr1:(rx=0)=True:=eq_true hr0;refine b9 (by kernel_rfl) fun _ K=>?_;simp(disch:=omega) only[kd,aa,hr1];apply K
       refine⟨aF ⟨rfl,trivial⟩ ?_,rfl⟩;simp[wk,hbb,hr0]
      have hr1:(rx=0)=False:=eq_false hr0;refine b9 (by kernel_rfl) fun _ K=>?_;simp(disch:=omega) only[kd,aa,hr1];apply K
      refine⟨aF ⟨rfl,trivial⟩ ?_,rfl⟩;simp[wk,hbb,hr0]
    |true=>
     by_cases hx00:x=0
     ·have hx01:(x=0)=True:=eq_true hx00;refine aS (by kernel_rfl) fun _ K=>?_;simp(disch:=omega) only[kd,aa,hx01];apply K
      first|refine fP rfl (bY ?_)|refine bI rfl (fun _=>bY ?_) (fun h=>by simp at h<;>omega)
      refine⟨aF ⟨rfl,trivial⟩ ?_,rfl⟩;simp[wk,hbb,hx00]
     have hx01:(x=0)=False:=eq_false hx00;refine aS (by kernel_rfl) fun _ K=>?_;simp(disch:=omega) only[kd,aa,hx01];apply K
     first|refine fw rfl ?_|refine bI rfl (fun h=>by simp at h<;>omega) (fun _=>?_)
     cases ex with
     |false=>
      refine b9 (by kernel_rfl) fun _ K=>?_;simp(disch:=omega) only[kd,aa];apply K
      refine⟨aF ⟨rfl,trivial⟩ ?_,rfl⟩;simp[wk,hbb,hx00]
     |true=>
      by_cases hr0:rx=0
      ·have hr1:(rx=0)=True:=eq_true hr0;refine b9 (by kernel_rfl) fun _ K=>?_;simp(disch:=omega) only[kd,aa,hr1];apply K
       refine⟨aF ⟨rfl,trivial⟩ ?_,rfl⟩;simp[wk,hbb,hr0,hx00]
      have hr1:(rx=0)=False:=eq_false hr0;refine b9 (by kernel_rfl) fun _ K=>?_;simp(disch:=omega) only[kd,aa,hr1];apply K
      refine⟨aF ⟨rfl,trivial⟩ ?_,rfl⟩;simp[wk,hbb,hr0,hx00]
   rw[hhx']at he hal;cases bb with
   |true=>
    rw[if_pos rfl,List.append_nil]at he
    first|refine fP rfl (bY ?_)|refine bI rfl (fun _=>bY ?_) (fun h=>by simp at h<;>omega)
    show dY _ _ _ _ _ _ _;refine b9 (by kernel_rfl) fun _ K=>?_;simp(disch:=omega) only[kd,aa,aM];apply K
    refine⟨⟨x+1,ac,by omega,he⟩,by simp only;omega,(lh (m:=0) rfl).trans (aF ⟨rfl,trivial⟩ ?_),trivial⟩;simp[wk]
   |false=>
    rw[if_neg (by decide)]at he hal;have cC:=Il (x::y) (by simp) (by rw[List.length_cons];omega);have hxyl:(x::y).length=n:=by rw[List.length_cons];omega
    have hal1:ac.length+1<=1000000:=by simpa using hal
    generalize hxy:x::y=xy at*
    first|refine fw rfl ?_|refine bI rfl (fun h=>by simp at h<;>omega) (fun _=>?_)
    refine vg bU 2 0 96 3 0 2 (lc fI xy) (.sl (ls fI xy)) (f:=142) (ts:=[.one (.sl 0 3 0 n)]) [] [] (by kernel_rfl) (by kernel_rfl) rfl (by decide) fun K hK=>?_
    simp only[kd];refine hK _ ⟨rfl,rfl,rfl,?_,?_⟩
    ·intro vs hvs;obtain rfl:vs=[]:=List.eq_nil_of_length_eq_zero hvs;refine⟨_,_,cC,⟨rfl,fun o ho e he x hx=>?_⟩,⟨.inr (.inl ⟨3,0,n,_,rfl,rfl,bz 2 1 xy,?_⟩),trivial⟩,fun H hH=>?_⟩
     ·simp only[List.mem_singleton]at ho;subst ho;obtain⟨z,_,rfl⟩:=List.mem_map.1 he;simp only[fI,List.map_cons,List.map_nil,List.mem_singleton]at hx;subst hx;rfl
     ·show iu xy=_;show iu xy= .one (.p (.sl (((List.take (0+n) (lc fI xy)).drop 0).map (List.map ri))));rw[Nat.zero_add,List.drop_zero,List.take_of_length_le (by rw[jK];omega),mr]
     simp only[List.map_cons,List.map_nil,renO,jL]at hH;refine⟨dR hH,?_⟩;simp only[renTV,cb,eZ,dI,if_true,hH,List.getElem?_cons_zero];rw[Nat.zero_add,List.drop_zero,List.take_of_length_le (by rw[jK];omega),ij]
    clear hK K;intro K hK;simp(disch:=omega) only[kd,aa,Nat.reduceMul,Nat.reduceLeDiff,List.any_cons,ag,List.any_nil];apply hK;clear hK K;show dY _ _ _ _ _ _ _;refine b9 (by kernel_rfl) fun _ K=>?_;simp(disch:=omega) only[kd,aa,aM];apply K
    subst hxy;refine⟨⟨x+1,ac++[x::y],by omega,he⟩,by simp only;omega,(lh (m:=0) (c:=x) (y:=y) (acc:=ac++[x::y]) ?_).trans (aF ⟨rfl,trivial⟩ ?_),trivial⟩
    ·have hkl:List.map (List.map (a6 fun x y=>x==0&&y==5)) (jnk 0++lc fI (x::y))=jnk 0++lc fI (x::y):=xo _ _;simp only[aX,hkl,yh,List.length_append,List.length_cons,List.length_nil,Nat.zero_add,<- I7];rfl
    simp[wk]
  |succ j=>
   have hhx:=hh1 j rfl x;have e4:IntKind.i64.wrap (((j+1:Nat):Int)-1)=(j:Int):=by rw[aM (by omega) (by omega)];omega
   have hkp:(0<((j+1:Nat):Int))=True:=eq_true (by omega);rw[hhx]at hal he;have cV:=hrec j rfl x ac hxlo hx hxz hal;rw[hrxe]at cV;generalize uD f n B ex j (x::y) (z&&decide (x=0))=W at*
   refine aS (by kernel_rfl) fun _ K=>?_;simp(disch:=omega) only[kd,aa,hkp];apply K
   first|refine fP rfl ?_|refine bI rfl (fun _=>?_) (fun h=>by simp at h<;>omega)
   cases z with
   |false=>
    simp only[Bool.false_and]at cV;refine gy 9 cV 0 [] [] (by kernel_rfl) (by omega) (by decide) fun K hK=>?_
    simp(disch:=omega) only[kd,aa,e4];refine hK _ ⟨⟨rfl,(rp 0 0 _ _ _ _ _ _ _).symm⟩,?_⟩;clear hK K;intro K hK;simp(disch:=omega) only[kd,aa,BB,jY,Ov,oH,k8,ag,List.map_append,fX];apply hK;clear hK K;show dY _ _ _ _ _ _ _;refine b9 (by kernel_rfl) fun _ K=>?_;simp(disch:=omega) only[kd,aa,aM];apply K
    refine⟨⟨x+1,ac++W,by omega,he⟩,by simp only;omega,(lh rfl).trans (aF ⟨rfl,trivial⟩ ?_),trivial⟩;simp[wk]
   |true=>
    by_cases hx00:x=0
    ·subst hx00;simp only[Bool.true_and,decide_true]at cV;refine gy 9 cV 0 [] [] (by kernel_rfl) (by omega) (by decide) fun K hK=>?_
     simp(disch:=omega) only[kd,aa,e4];refine hK _ ⟨⟨rfl,(rp 0 0 _ _ _ _ _ _ _).symm⟩,?_⟩;clear hK K;intro K hK;simp(disch:=omega) only[kd,aa,BB,jY,Ov,oH,k8,ag,List.map_append,fX];apply hK;clear hK K;show dY _ _ _ _ _ _ _;refine b9 (by kernel_rfl) fun _ K=>?_;simp(disch:=omega) only[kd,aa,aM];apply K
     refine⟨⟨0+1,ac++W,by omega,he⟩,by simp only;omega,(lh rfl).trans (aF ⟨rfl,trivial⟩ ?_),trivial⟩;simp[wk]
    have hx01:(x=0)=False:=eq_false hx00;simp only[Bool.true_and,hx01,decide_false]at cV;refine gy 9 cV 0 [] [] (by kernel_rfl) (by omega) (by decide) fun K hK=>?_
    simp(disch:=omega) only[kd,aa,e4,hx01];refine hK _ ⟨⟨rfl,(rp 0 0 _ _ _ _ _ _ _).symm⟩,?_⟩;clear hK K;intro K hK;simp(disch:=omega) only[kd,aa,BB,jY,Ov,oH,k8,ag,List.map_append,fX];apply hK;clear hK K;show dY _ _ _ _ _ _ _;refine b9 (by kernel_rfl) fun _ K=>?_;simp(disch:=omega) only[kd,aa,aM];apply K
    refine⟨⟨x+1,ac++W,by omega,he⟩,by simp only;omega,(lh rfl).trans (aF ⟨rfl,trivial⟩ ?_),trivial⟩;simp[wk]
 rw[fm hx,List.flatMap_nil,List.append_nil]at he;subst he;refine bN (aS (by kernel_rfl) fun _ K=>?_);simp(disch:=omega) only[kd,aa];apply K
 first|refine fw rfl (d5 ?_)|refine bI rfl (fun h=>by simp at h<;>omega) (fun _=>d5 ?_)
 show _/\_;refine⟨.inl rfl,trivial,_,aF (tm:=(jk::jk::jk::.one (.ptr 0 1 0 0)::.one (.ptr 0 2 0 0)::.one (.ptr 0 0 0 0)::.one (.ptr 0 6 0 0)::.one (.ptr 0 4 0 0)::j16 (j16 (j16 (j16 (j16 (j16 (j16 (jk::jk::jk::[]))))))))) (l:=[(0,yh 0 n (k+1) y D M ac ex)]) ⟨rfl,trivial⟩ (by simp[wk]),⟨fW _,rfl⟩,by simp⟩
end
end
section
noncomputable def nL (f:FF) (n:Nat) (B:Int):Nat->List Int->List (Int×Int)
 |0,y=>[(dB f n B 0 (bj n y),d6 f n B 0 (bj n y))]
 |k+1,y=>(dB f n B (k+1) (bj n y),d6 f n B (k+1) (bj n y))::(rng (dB f n B (k+1) (bj n y)) (d6 f n B (k+1) (bj n y))).flatMap fun c=>nL f n B k (c::y)
abbrev yY (a n m:Nat) (y D:List Int) (M:List (List Int)) (acc:List (Int×Int)):List OObj:=[⟨190,1,[[.fn 146 a [(1,0,0),(2,0,0),(4,0,0),(0,0,0)]]]⟩,⟨188,2,[[.p (.sl (ls fI D)),.p (.sl (ls (fR fI) M))]]⟩,⟨35,1,[[.sl a 3 0 n]]⟩,⟨2,1,jnk m++lc fI y⟩,⟨76,1,[[.sl a 5 0 acc.length]]⟩,⟨133,2,lc fV acc⟩]
theorem DK (a d n m:Nat) (y D:List Int) (M:List (List Int)) (acc:List (Int×Int)):(yY a n m y D M acc).map (renO d)=yY d n m y D M acc:=by
 simp only[yY,List.map_cons,List.map_nil,renO,cb,jL,List.map_append,fX,List.isEmpty_cons,Bool.false_eq_true,if_false]
theorem yZ (a n m:Nat) (y D:List Int) (M:List (List Int)) (acc:List (Int×Int)): ∀o∈yY a n m y D M acc,selfO a o:=fun o ho e he x hx=>by
 simp only[List.mem_cons,List.not_mem_nil,or_false]at ho;rcases ho with rfl|rfl|rfl|rfl|rfl|rfl
 ·simp only[List.mem_singleton]at he;subst he;simp only[List.mem_singleton]at hx;subst hx;exact⟨rfl,by simp⟩
 ·simp only[List.mem_singleton]at he;subst he;simp only[List.mem_cons,List.not_mem_nil,or_false]at hx;rcases hx with rfl|rfl<;>trivial
 ·simp only[List.mem_singleton]at he;subst he;simp only[List.mem_singleton]at hx;subst hx;rfl
 ·simp only[List.mem_append]at he;rcases he with he|he
  ·obtain⟨_,rfl⟩:=List.mem_replicate.1 he;simp only[List.mem_singleton]at hx;subst hx;trivial
  exact cd (bz 2 1 _ e he x hx)
 ·simp only[List.mem_singleton]at he;subst he;simp only[List.mem_singleton]at hx;subst hx;rfl
 exact cd (bz 133 2 _ e he x hx)
abbrev QY:List (Nat×Nat):=[(1,2),(2,3),(4,4),(0,5)]
theorem Pq (a n m m':Nat) (y y' D:List Int) (M:List (List Int)) (acc acc':List (Int×Int)): ∀r∈QY.map Prod.fst,∀o,(yY a n m y D M acc)[r]?=some o-> ∃o',(yY a n m' y' D M acc')[r]?=some o'/\o'.es=o.es/\o.elems.length<=o'.elems.length:=fun r hr o h=>by
 simp only[QY,List.map_cons,List.map_nil,List.mem_cons,List.not_mem_nil,or_false]at hr;rcases hr with rfl|rfl|rfl|rfl<;>(injection h with h;subst h;exact⟨_,rfl,rfl,ae _⟩)
abbrev S8 (k:Nat) (rest:Int):List TV:=[.raw (.int .i64 (k:Int)),.raw (.int .i64 rest),.one (.ptr 0 1 0 0),.one (.ptr 0 2 0 0),.one (.ptr 0 4 0 0),.one (.ptr 0 0 0 0)]
abbrev Ra (n:Nat) (f:FF) (B:Int) (k:Nat) (y:List Int) (acc:List (Int×Int)):Prop:=
 jT Tryz.prog QZ (QY.map Prod.fst) 146 (S8 k (nF f n B (k+1) (bj n y))) (yY 0 n (k+1) y (be (n+1) (dk f)) (dT n f n) acc) (yY 0 n (k+1) y (be (n+1) (dk f)) (dT n f n) (acc++nL f n B k y)) () () (.tup [])
theorem Hn {s:AS} {n m:Nat} {c:Int} {y D:List Int} {M:List (List Int)} {acc:List (Int×Int)} (hH:s.H 0=yY 0 n m (c::y) D M acc):bW s ⟨s.tmps,aJ s.H 0 (yY 0 n (m+1) y D M acc)⟩:=by
 have h:=kq (s:=s) 0 3 (o:=⟨2,1,jnk m++lc fI (c::y)⟩) (o':=⟨2,1,jnk (m+1)++lc fI y⟩) (by rw[hH];rfl) rfl rfl (by simp only[eG,List.length_cons];omega) fun i e' he=>by
  rw[<- lO m c y];simp only at he;by_cases hi:i=m
  ·subst hi;have hl:i<(jnk (i+1)++lc fI y).length:=by rw[eG];omega
   refine⟨_,List.getElem?_set_self hl,?_⟩;rw[aq (by simp[jnk])]at he;simp[jnk]at he;subst he;exact⟨rfl,fun j x hj=>by
    cases j with
    |zero=>simp at hj;exact .inl hj.symm
    |succ j=>simp at hj⟩
  refine⟨e',by rw[List.getElem?_set_ne (Ne.symm hi)];exact he,rfl,fun j x hj=> .inr hj⟩
 rw[hH]at h;exact h
theorem IT (m:Nat) (y:List Int) (κ:Nat->Nat->Bool):List.map (List.map (a6 κ)) (jnk m++lc fI y)=jnk m++lc fI y:=by
 rw[List.map_append,xo];simp[jnk,a6]
structure SQ (lo hi:Int) (h:Int->List (Int×Int)) (T:List (Int×Int)) where
 x:Int
 acc:List (Int×Int)
 h1:lo<=x
 e:acc++(rng x hi).flatMap h=T
section
variable {n:Nat} {f:FF} {B:Int}
theorem IA (hv:mN n f B) (k:Nat) (y:List Int) (acc:List (Int×Int)) (hk:y.length+(k+1)=n) (hT:mZ y) (hP:fD f n B (k+1) (bj n y)) (hlen:(acc++nL f n B k y).length<=2000000)
  (hrec: ∀j,k=j+1-> ∀c acc',dB f n B k (bj n y)<=c->c<=d6 f n B k (bj n y)->(acc'++nL f n B j (c::y)).length<=2000000->Ra n f B j (c::y) acc'):Ra n f B k y acc:=by
 have hn8:=hv.n8;have hdk:=hv.d (k:=k) (by omega);have hd1:=hv.d (k:=k+1) (by omega);have hD0:=aZ (dk f) (show k<n+1 by omega);have hD1:=aZ (dk f) (show k+1<n+1 by omega);have hDl:=aW (n+1) (dk f);have hshy:=hv.shP_c hk hT (ae _);have hshA:=mG f hk;have hrs:=hv.rs0 (k:=k+1) (by omega) hP;have hsq:=hv.sq (k:=k) (by omega) hP;have hlh:=hv.lohi hk hT hP;have htc:=Nx (m:=y.length+1) (by omega);have hrt:=lL hsq.1 hsq.2;have cR:=Ev _ hsq.1 hsq.2;have cS:=fun xs h1 h2=>Ni hv k y xs hk hT h1 h2
 have hst:=fun c=>hv.step hk (c:=c) hP
 have hsqe:dk f k*nF f n B (k+1) (bj n y)=kS f n B k (bj n y):=rfl;rw[hshA]at hshy;have hloe:dB f n B k (bj n y)=0-(isqF (kS f n B k (bj n y))+qU f n k (bj n y))/dk f (k+1):=by unfold dB;omega
 have hhie:d6 f n B k (bj n y)=(isqF (kS f n B k (bj n y))-qU f n k (bj n y))/dk f (k+1):=rfl;have cF1:=Az (isqF (kS f n B k (bj n y))+qU f n k (bj n y)) (dk f (k+1)) hd1.1 (by omega) (by omega) (by omega);have cF2:=Az (isqF (kS f n B k (bj n y))-qU f n k (bj n y)) (dk f (k+1)) hd1.1 (by omega) (by omega) (by omega);have e1:IntKind.i64.wrap ((k:Int)+1)=((k+1:Nat):Int):=aM (by omega) (by omega);have hS: ∃h:Int->List (Int×Int),nL f n B k y=(dB f n B k (bj n y),d6 f n B k (bj n y))::(if k=0 then[]else(rng (dB f n B k (bj n y)) (d6 f n B k (bj n y))).flatMap h)/\ ∀j,k=j+1-> ∀c,h c=nL f n B j (c::y):=by
  cases k with
  |zero=>exact⟨fun _=>[],rfl,fun j e=>absurd e (by omega)⟩
  |succ j=>
   refine⟨_,rfl,fun j' e c=>?_⟩;obtain rfl:j'=j:=by omega
   rfl
 obtain⟨h,hS,hh1⟩:=hS;have hrs': ∀c,fD f n B k (bj n (c::y))->0<=nF f n B k (bj n (c::y))/\nF f n B k (bj n (c::y))<=70368744177664:=fun c h=>hv.rs0 (by omega) h
 clear hv hP hT hshA;unfold Ra at*
 rw[hS]at hlen⊢;clear hS;generalize dB f n B k (bj n y)=lo at*
 generalize d6 f n B k (bj n y)=hi at*
 generalize kS f n B k (bj n y)=sq at*
 generalize nF f n B (k+1) (bj n y)=rest at*
 generalize isqF sq=rt at*
 generalize be (n+1) (dk f)=D at*
 generalize dT n f n=M at*
 generalize dk f (k+1)=d1 at*
 generalize dk f k=d0 at*
 generalize qU f n k (bj n y)=sh at*
 have hlo: -46911780290560<=lo/\lo<=46911780290560:=by omega
 have hhi: -46911780290560<=hi/\hi<=46911780290560:=by omega
 clear hlh htc;have hd1n:(d1=0)=False:=eq_false (by omega);have hal0:acc.length+1<=2000000:=by
  rw[List.length_append,List.length_cons]at hlen;omega
 refine oc Tryz.func146 rfl (by kernel_rfl) QY (by simp) (by simp[selfTV,bG]) (by simp[selfTV]) (yZ 0 _ _ _ _ _ _) (yZ 0 _ _ _ _ _ _) (Pq 0 _ _ _ _ _ _ _ _ _) ?_;rw[Tryz.ntmps146];refine dY.weak (aF (tm:=(.raw (.int .i64 (k:Int))::.raw (.int .i64 rest)::.one (.ptr 0 1 0 0)::.one (.ptr 0 2 0 0)::.one (.ptr 0 4 0 0)::.one (.ptr 0 0 0 0)::j16 (j16 (j16 (j16 (j4 (j4 (jk::[])))))))) (l:=[(0,yY 0 n (k+1) y D M acc)]) ⟨rfl,trivial⟩ (by simp[wk,af])) ?_;refine bN (vg bU 8 0 24 3 (k+1) 2 (lc fI y) (.raw (.int .i64 sh)) (f:=147) (ts:=[.one (.ptr 0 1 0 0),.raw (.int .i64 (k:Int)),.one (.sl 0 3 0 n)]) [] [] (by kernel_rfl) (by kernel_rfl) rfl (by decide) fun K hK=>?_);simp(disch:=omega) only[kd,aa,e1,hD1];refine hK _ ⟨rfl,rfl,rfl,?_,?_⟩
 ·intro vs hvs;refine⟨_,_,cS (vs.map (fun v=>[PV.raw v])++ls fI y) (by rw[List.length_append,ay,hvs,eH];omega) (fun i hi=>?_),⟨rfl,by simp⟩,⟨.inr (.inr ⟨1,0,0,_,_,rfl,rfl,rfl,by simp[isPure],rfl⟩),.inl ⟨rfl,rfl⟩,.inr (.inl ⟨3,0,n,_,rfl,rfl,?_,?_⟩),trivial⟩,fun H hH=>⟨fun r o ho=>by rw[hH]at ho;simp at ho,rfl⟩⟩
  ·rw[ar (by rw[ay];omega),ay,hvs,show k+1+i-(k+1)=i by omega,fY,List.getElem?_eq_getElem hi,List.getD_eq_getElem?_getD,List.getElem?_eq_getElem hi];rfl
  ·intro e he x hx;simp only[List.mem_append,List.mem_map]at he;rcases he with⟨v,_,rfl⟩|he
   ·simp only[List.mem_singleton]at hx;subst hx;rfl
   exact bz 2 1 y e he x hx
  rw[Nat.zero_add,List.drop_zero,List.take_of_length_le (by rw[List.length_append,ay,hvs,jK];omega),List.map_append,mr,List.map_map];rfl
 clear hK K;intro K hK;simp only[kd,aa];apply hK;clear hK K cS;show dY _ _ _ _ _ _ _;refine aS (by kernel_rfl) fun _ K=>?_;simp(disch:=omega) only[kd,aa,hD0,hsqe,aM];apply K
 refine iT [⟨1,_,_,_,cR⟩] [] (by kernel_rfl) fun _ K=>?_;simp only[kd,aa];apply K
 refine iT [⟨4,_,_,_,cF1⟩,⟨10,_,_,_,cF2⟩] [] (by kernel_rfl) fun _ K=>?_;simp(disch:=omega) only[kd,<- hhie,aa,aM,<- hloe,ag];apply K
 have hkl: ∀κ,List.map (List.map (a6 κ)) (jnk (k+1)++lc fI y)=jnk (k+1)++lc fI y:=IT (k+1) y;refine aS (by kernel_rfl) fun _ K=>?_;simp(disch:=omega) only[kd,aa,Nat.reduceLeDiff,Nat.reduceMul,List.any_cons,ag,List.any_nil,hkl];apply K
 clear hkl;generalize ha1:acc++[(lo,hi)]=a1 at*
 refine dY.weak (aF (tm:=(.raw (.int .i64 (k:Int))::jk::.one (.ptr 0 1 0 0)::.one (.ptr 0 2 0 0)::.one (.ptr 0 4 0 0)::.one (.ptr 0 0 0 0)::jk::jk::.raw (.int .i64 d1)::.raw (.int .i64 sh)::.raw (.int .i64 sq)::jk::.raw (.int .i64 lo)::.raw (.int .i64 hi)::j16 (j16 (j16 (j16 (jk::[])))))) (l:=[(0,yY 0 n (k+1) y D M a1)]) ⟨?_,trivial⟩ (by simp[wk])) ?_
 ·subst ha1;simp only[aX,yY,List.length_append,List.length_cons,List.length_nil,Nat.zero_add,<- I7];rfl
 have hal1:a1.length<=2000000:=by rw[<- ha1,List.length_append];exact hal0
 rw[show acc++(lo,hi)::(if k=0 then[]else(rng lo hi).flatMap h)=a1++(if k=0 then[]else(rng lo hi).flatMap h) by rw[<- ha1,List.append_assoc];rfl]at hlen⊢;cases k with
 |zero=>
  have hk0:(((0:Nat):Int)=0)=True:=eq_true rfl;refine bN (aS (by kernel_rfl) fun _ K=>?_);simp(disch:=omega) only[kd,hk0];apply K
  first|refine fP rfl (jl ?_)|refine bI rfl (fun _=>jl ?_) (fun h=>by simp at h<;>omega)
  rw[if_pos rfl,List.append_nil];refine⟨.inr rfl,rfl,_,aF (tm:=(jk::jk::.one (.ptr 0 1 0 0)::.one (.ptr 0 2 0 0)::.one (.ptr 0 4 0 0)::.one (.ptr 0 0 0 0)::j16 (j16 (j16 (j16 (j4 (j4 (jk::[])))))))) (l:=[(0,yY 0 n (0+1) y D M a1)]) ⟨rfl,trivial⟩ (by simp[wk]),⟨fW _,rfl⟩,by simp⟩
 |succ j=>
  rw[if_neg (by omega)]at hlen⊢;have hkn:(((j+1:Nat):Int)=0)=False:=eq_false (by omega);have e4:IntKind.i64.wrap (((j+1:Nat):Int)-1)=(j:Int):=by rw[aM (by omega) (by omega)];omega
  refine bN (aS (by kernel_rfl) fun _ K=>?_);simp only[kd,hkn];apply K
  first|refine fw rfl (bY ?_)|refine bI rfl (fun h=>by simp at h<;>omega) (fun _=>bY ?_)
  show dY _ _ _ _ _ _ _;refine aS (by kernel_rfl) fun _ K=>?_;simp only[kd];apply K
  generalize hTT:a1++(rng lo hi).flatMap h=T at*
  refine iS (G:=SQ lo hi h T) (fun v=>⟨(.raw (.int .i64 ((j+1:Nat):Int))::jk::.one (.ptr 0 1 0 0)::.one (.ptr 0 2 0 0)::.one (.ptr 0 4 0 0)::.one (.ptr 0 0 0 0)::jk::jk::.raw (.int .i64 d1)::.raw (.int .i64 sh)::.raw (.int .i64 sq)::jk::jk::.raw (.int .i64 hi)::.raw (.int .i64 v.x)::j16 (j16 (j16 (j16 ([]))))),Hm [(0,yY 0 n (j+1+1) y D M v.acc)]⟩) (fun _=>()) (fun v=>(hi+1-v.x).toNat) ⟨_,a1,Int.le_refl _,hTT⟩ ?_ rfl ?_
  ·refine aF ⟨rfl,trivial⟩ ?_;simp[wk]
  rintro⟨x,ac,hx0,he⟩;simp only;by_cases hx:x<=hi
  ·obtain⟨hP',hq⟩:=hst x hx0 hx;have hrx:=hrs' x hP';rw[fh hx,List.flatMap_cons,<- List.append_assoc]at he;have hal:(ac++h x).length<=2000000:=by
    rw[<- he,List.length_append]at hlen;omega
   have hxb:(d1*x).natAbs<=65535*46911780290560:=by
    rw[Int.natAbs_mul];exact Nat.mul_le_mul (by omega) (by omega)
   have hhx:=hh1 j rfl x;rw[hhx]at hal he;have cV:=hrec j rfl x ac hx0 hx hal;generalize nF f n B (j+1) (bj n (x::y))=rx at*
   generalize nL f n B j (x::y)=W at*
   have hprod:0<=d1*rx:=Int.mul_nonneg (by omega) hrx.1;have hdiv:Int.tdiv (sq-(d1*x+sh)*(d1*x+sh)) d1=rx:=by rw[hq];exact Int.mul_tdiv_cancel_left _ (by omega)
   have huu:0<=(d1*x+sh)*(d1*x+sh):=by
    rcases Int.le_total 0 (d1*x+sh)with h|h
    ·exact Int.mul_nonneg h h
    exact Int.mul_nonneg_of_nonpos_of_nonpos h h
   have hXl:=eG (j+1+1) y;have hXs:=lO (j+1) x y;have hXg:(jnk (j+1+1)++lc fI y)[j+1]?=some [.junk]:=by
    rw[aq (by simp[jnk])];simp[jnk]
   refine bN (aS (by kernel_rfl) fun _ K=>?_);simp(disch:=omega) only[kd,aa];apply K
   first|refine fP rfl (bY ?_)|refine bI rfl (fun _=>bY ?_) (fun h=>by simp at h<;>omega)
   refine bN (eQ ?_);refine aS (by kernel_rfl) fun _ K=>?_;simp(disch:=omega) only[kd,aa,hXg,hXs];apply K
   refine aS (by kernel_rfl) fun _ K=>?_;simp(disch:=omega) only[kd,aa,aM];apply K
   generalize hU:(d1*x+sh)*(d1*x+sh)=uu at*
   refine lA bU cV 0 [] [] (by kernel_rfl) (by omega) (by kernel_rfl) fun K hK=>?_
   simp(disch:=omega) only[kd,List.size_toArray,aa,Nat.reduceSub,e4,hU,aM,hdiv];refine hK _ ⟨⟨rfl,?_⟩,?_⟩
   ·exact(DK 0 0 _ _ _ _ _ _).symm
   clear hK K;show dY _ _ _ _ _ _ _;refine b9 (by kernel_rfl) fun _ K=>?_;simp(disch:=omega) only[kd,aa,BB,jY,List.size_toArray,Nat.reduceSub,QY,oH,k8,ag,List.map_append,fX,aM];apply K
   refine⟨⟨x+1,ac++W,by omega,he⟩,by simp only;omega,(Hn rfl).trans (aF ⟨rfl,trivial⟩ ?_),trivial⟩;simp[wk]
  rw[fm hx,List.flatMap_nil,List.append_nil]at he;subst he;refine bN (aS (by kernel_rfl) fun _ K=>?_);simp(disch:=omega) only[kd,aa];apply K
  first|refine fw rfl (d5 ?_)|refine bI rfl (fun h=>by simp at h<;>omega) (fun _=>d5 ?_)
  show _/\_;refine⟨.inl rfl,trivial,_,aF (tm:=(jk::jk::.one (.ptr 0 1 0 0)::.one (.ptr 0 2 0 0)::.one (.ptr 0 4 0 0)::.one (.ptr 0 0 0 0)::j16 (j16 (j16 (j16 (j4 (j4 (jk::[])))))))) (l:=[(0,yY 0 n (j+1+1) y D M ac)]) ⟨rfl,trivial⟩ (by simp[wk]),⟨fW _,rfl⟩,by simp⟩
end
end
end Go.Proofs.YtalmoejhjceflaaGreat
