/-
  Part 29 of a proof (walks and plain facts).
-/
import Derived.Test.YtalmoejhjceflaaGreatV27
set_option linter.all false
set_option maxRecDepth 100000
set_option maxHeartbeats 64000000
open Nat renaming reduceAdd → aa
open List renaming replicate → af
open Nat renaming reduceBEq → ag
namespace Go.Proofs.YtalmoejhjceflaaGreat
open Go.RowKit Go.Proofs.Tryz
variable {n:Nat} {s:AS} {b:Oper} {c:Array Oper} {e:List TV} {f:FuncId} {g:OH} {h:TV}
section
/-! Operation m as a call without arguments. -/
def vw (o:Oper):Oper:={o with op:= .call {callee:= .value (.func 0),args:= #[],argTypes:= #[]}}
def C0:Nat->List Oper->List Oper
 |_,[]=>[]
 |0,o::l=>vw o::l
 |m+1,o::l=>o::C0 m l
def qB (b:Array Oper) (m:Nat):Array Oper:=⟨C0 m b.toList⟩
theorem I0: ∀(m:Nat) (l:List Oper) (i:Nat),(C0 m l)[i]?=if i=m then(l[i]?).map vw else l[i]?
 |m,[],i=>by simp[C0]
 |0,o::l,0=>rfl
 |0,o::l,i+1=>by simp[C0]
 |m+1,o::l,0=>by simp[C0]
 |m+1,o::l,i+1=>by simp[C0,I0 m l i]
theorem I1: ∀(m:Nat) (l:List Oper),(C0 m l).length=l.length
 |m,[]=>by simp[C0]
 |0,o::l=>rfl
 |m+1,o::l=>by simp[C0,I1 m l]
section
variable {P:Program} {ops:Array Oper} {m:Nat} {s:AS}
theorem sn (i:Nat):(qB ops m)[i]?=if i=m then(ops[i]?).map vw else ops[i]?:=by
 grind [I0,qB]
theorem Vs:(qB ops m).size=ops.size:=by simp[qB,I1]
theorem Zm (g:Nat):((qB ops m)[g]?).bind (·.dst)=(ops[g]?).bind (·.dst):=by
 rw[sn];split
 ·cases ops[g]?<;>rfl
 rfl
theorem Hu {c:List (dD P)} {e:List Nat} {i:Nat}:bs P c e (qB ops m) i b s=bs P c e ops i b s:=by
 grind [bs,Zm]
theorem D1 {b:Array Bool} {i:Nat}:i∈Region.ready .any (qB ops m) b↔i∈Region.ready .any ops b:=by
 grind [mem_ready,sn,vw]
theorem TH {Qn:Act->World->Prop} {Wp:Nat->(Act->World->Prop)->Act->World->Prop}: ∀f,uO (qB ops m) Qn Wp f=uO ops Qn Wp f:=by
 have c: ∀b,Region.ready .any (qB ops m) b=[]↔Region.ready .any ops b=[]:=fun b=>by
  simp only[ahy,D1]
 intro f
 induction f with
 |zero=>grind [uO]
 |succ f e=>simp_all[uO,D1]
/-! What some slots and families hold. -/
def wP (e b:List Nat) (s c:AS):Prop:=(∀k∈e,c.tmps[k]?=s.tmps[k]?)/\ ∀x∈b,c.H x=s.H x
def Oy (c b:List Nat) (o:Oper):Bool:=noD o.op&&(c.all fun k=>o.dst !=some k)&&b.all fun k=>o.dst !=some k
variable {items:List (dD P)} {ow:List Nat} {rd fas:List Nat} {sep:List (Nat×Nat×Nat)}
theorem Q0 {i:Nat} {u:AS} (h:Oy rd fas b=true) (r:bs P items ow ops i b s=some u):wP rd fas s u:=by
 unfold Oy at h;simp only[afb,aeP,bne_iff_ne,ne_eq]at h;obtain⟨⟨v,n⟩,w⟩:=h;rw[bW]at r;obtain⟨out,f,c⟩:=aeZ.1 r;cases out with
 |val t=>
  simp only[cW]at c;injection c with c
  subst c;exact⟨fun k j=>mZ s _ t k fun e p g=>n k j (by rw[p,g]),fun x _=>by rw[js]⟩
 |new t A l=>
  simp only[cW]at c;split at c
  ·rename_i d y;split at c
   ·injection c with c
    subst c;exact⟨fun k j=>mZ ⟨s.tmps,_⟩ _ t k fun e p g=>n k j (by grind),fun x z=>by
     rw[js];grind [aU]⟩
   cases c
  cases c
 |wr q=>
  exfalso;unfold dY at f;split at f
  ·unfold lO at f;split at f
   ·simp_all
   split at f
   ·simp_all
   rw[Bs v]at f;simp only at f;split at f
   ·cases f
   unfold RD at f;grind
  ·cases f
  cases f
theorem sM (t:Qd P sep ops) (q:cz sep ops=true) {B:AS} (w:ND sep B) {p:Nat->Bool} (u:Ex ops p) (h:dS P items ow ops (oX ops.size p) B=some s): ∀(N b:Nat) (c:Nat->Bool),b+N=ops.size->(∀j,j<b->p j=true->c j=true)->Ex ops c->(∀j,c j=true->p j=true)->
  (∀(i:Nat) o,ops[i]?=some o->p i=true->c i=false->Oy rd fas o=true)-> ∃Q,dS P items ow ops (oX ops.size c) B=some Q/\wP rd fas Q s
 |0,b,c,S,D,_,E,_=>by
  refine⟨s,?_,fun _ _=>rfl,fun _ _=>rfl⟩;have e:oX ops.size c=oX ops.size p:=ahu fun j l=>by
   have l:=afE.1 l;cases X:p j with
   |true=>grind
   |false=>
    grind
  grind
 |N+1,b,c,S,D,r,E,F=>by
  have g:b<ops.size:=by omega
  have I:ops[b]?=some ops[b]:=by simp[g]
  by_cases y:p b=true/\c b=false
  ·obtain⟨M,O⟩:=y;have v:Ex ops (fc c b):=EX r fun o n e G f=>D _ ((oF q).1 b o n e G f) (u b o n M e G f)
   obtain⟨Y,R,C⟩:=sM t q w u h N (b+1) (fc c b) (by omega) (fun j l z=>by
    grind [fc]) v (fun j l=>by
    grind [fc]) (fun i o W T J=>by
    grind [fc])
   obtain⟨V,U,A⟩:=Ce t q r g O w R;unfold eK at A;rw[I]at A;have L:=Q0 (F b _ I M O) A;exact⟨V,U,fun k H=>(C.1 k H).trans (L.1 k H),fun x K=>(C.2 x K).trans (L.2 x K)⟩
  refine sM t q w u h N (b+1) c (by omega) (fun j l z=>?_) r E F;grind
theorem Ut {b:List (dD P)} {i d:Nat} {ev:Operand->Option TV} {op:Op} (h:items.find? (·.i==i)=b.find? (·.i==i)):dM P items ow i d ev g op=dM P b ow i d ev g op:=by
 cases op with
 |call c=>
  grind [dM]
 |_=>simp only[dM]
theorem Ht {c:List (dD P)} {i:Nat} (h:items.find? (·.i==i)=c.find? (·.i==i)):bs P items ow ops i b s=bs P c ow ops i b s:=by
 unfold bs fo;simp only[Ut h]
def F9 (ops:Array Oper) (m:Nat):List Nat:=match ops[m]? with
 |some o=>o.op.operands.toList.filterMap fun| .tmp k=>some k|_=>none
 |none=>[]
def Vu (ops:Array Oper) (m z:Nat) (fas:List Nat):Bool:=decide (m<z)&&(cz [] (mz (qB ops m) z)&&((match ops[m]? with|some o=>o.guard.isNone&&o.dst.isSome|none=>false)&&
 ((z==ops.size||(z+1==ops.size&&(List.range z).all fun i=>((qv (mz (qB ops m) z).toList []).getD z 0).testBit i))&&
 (List.range z).all fun i=>i==m||(if i<m then((qv (mz (qB ops m) z).toList []).getD m 0).testBit i else((qv (mz (qB ops m) z).toList []).getD i 0).testBit m)||(match ops[i]? with|some o=>Oy (F9 ops m) fas o|none=>true))))
end
section
variable {P:Program} {a:Act} {w0 w:World} {O X Y:Nat->Prop} {ks:List Nat}
theorem Ip {R1 R2:AS->Act->World->Prop} (M1:yc ks R1) (bp:P.follows .mixedOrders=true) (b:List (ar P)) (q:List Nat) (m z:Nat) (u:List Nat) (x:PV) {id:Nat} (hk:cY ks c=true) (hE:Vu c m z u=true) {s1 M s3:AS} (h1:ja P (b.map ar.a) q c ((c.toList.take m).zipIdx 0) s=some s1) (a6: ∀L,wP (F9 c m) u s1 L->nl L->yO P c m (R1 L) (R1 (L.put (cwD c m) (.one (.p x))))) (h2:ja P (b.map ar.a) q c (((c.toList.take z).drop (m+1)).zipIdx (m+1)) (s1.put (cwD c m) (.one (.p x)))=some M) (C:z<c.size->yO P c z (R1 M) (R2 s3)) (an:z=c.size-> ∀a w,R1 M a w->R2 s3 a w) {Q:Exit->Act->World->Prop} (A:R1 s a w) (hQ: ∀a' E,R2 s3 a' E->Q .normal a' E):(Code.region id c true).wp P Q a w:=by
 simp only[Vu,afb,decide_eq_true_eq,aeP,afE]at hE;obtain⟨cl,hd,S,y,cp⟩:=hE;rw[ag7,beq_iff_eq,afb,beq_iff_eq,aeP]at y;have cr:z<=c.size/\c.size<=z+1:=by omega
 have a2:m<c.size:=by omega
 obtain⟨o,N⟩: ∃o,c[m]?=some o:=⟨c[m],by simp[a2]⟩;rw[N]at S;simp only[afb]at S;obtain⟨hg,R⟩:=S;obtain⟨d,R⟩:=ah7.1 R;have hg:o.guard=none:=by simp_all
 have bb:cwD c m=some d:=by grind [cwD]
 rw[bb]at a6 h2;have cj:(c.toList.take m).length=m:=by grind
 let B:dD P:=⟨m,0,[],⟨[],.one (.p x)⟩⟩
 have bl: ∀i,i≠m->(B::b.map ar.a).find? (·.i==i)=(b.map ar.a).find? (·.i==i):=fun i hi=>by
  grind
 have T: ∀i,i≠m->i≠z->(mz (qB c m) z)[i]?=c[i]?:=fun i h1 h2=>by grind [me,sn]
 have I: ∀(i:Nat) (o:Oper) (s:AS),i≠m->bs P (B::b.map ar.a) q (mz (qB c m) z) i o s=bs P (b.map ar.a) q c i o s:=fun i o s hi=>by
  grind [qM,Hu,Ht]
 have key: ∀(l:List Nat) (s:AS),(∀i∈l,i≠m/\i≠z)->dS P (B::b.map ar.a) q (mz (qB c m) z) l s=dS P (b.map ar.a) q c l s:=fun l=>by
  induction l with
  |nil=>intros;rfl
  |cons i l ih=>
   intro s hl;have hi:=hl i (by simp);have e:eK P (B::b.map ar.a) q (mz (qB c m) z) i s=eK P (b.map ar.a) q c i s:=by
    grind [eK]
   simp only[dS,e];cases eK P (b.map ar.a) q c i s with
   |none=>rfl
   |some M=>grind
 have a4:dS P (B::b.map ar.a) q (mz (qB c m) z) (List.range m) s=some s1:=by
  grind [jb,List.range_eq_range']
 have b3:dS P (B::b.map ar.a) q (mz (qB c m) z) (List.range' (m+1) (z-m-1)) (s1.put (some d) (.one (.p x)))=some M:=by
  grind [jb]
 have bc:(mz (qB c m) z)[m]?=some (vw o):=by grind [me,sn]
 have a1: ∀s:AS,bs P (B::b.map ar.a) q (mz (qB c m) z) m (vw o) s=some (s.put (some d) (.one (.p x))):=fun s=>by
  unfold bs;rw[show(vw o).guard=none from hg];show fo P _ q m (vw o) s=_;have b4:(B::b.map ar.a).find? (·.i==m)=some B:=by
   grind
  have hA:dM P (B::b.map ar.a) q m d s.ev s.H (vw o).op=some (.one (.p x),[]):=by
   grind [vw,dM,gy,renTV,dA,noRefTV,iu]
  unfold fo;rw[show(vw o).dst=some d from R];simp only[show qp (vw o).op=false from rfl,show A7 (vw o).op=false from rfl,show iY P s.ev s.H (vw o).op=none from rfl,hA,afq,if_false]
 have J:(mz (qB c m) z).size=c.size:=by rw[lD,Vs]
 have b0:dS P (B::b.map ar.a) q (mz (qB c m) z) (List.range z) s=some M:=by
  have cn:List.range z=List.range m++m::List.range' (m+1) (z-m-1):=by
   have h1:=afk (s:=0) (m:=m) (n:=z-m-1+1);grind [List.range'_succ,List.range_eq_range']
  grind [jO,dS,eK]
 have D: ∃sF,dS P (B::b.map ar.a) q (mz (qB c m) z) (List.range (mz (qB c m) z).size) s=some sF/\(z=c.size->sF=M):=by
  rw[J];rcases y with e|⟨e,_⟩
  ·grind
  obtain⟨ol,a3,U,_⟩:=C (by omega);have ai:(mz (qB c m) z)[z]?=some (AK ol):=by grind [me,sn]
  have hl:bs P (B::b.map ar.a) q (mz (qB c m) z) z (AK ol) M=some (M.put ol.dst (.raw (.bool false))):=by
   unfold bs;rw[show(AK ol).guard=none from U];rfl
  grind [List.range_succ,jO,dS,eK]
 obtain⟨sF,D,bw⟩:=D;refine(wpIn_wide (n:=0)).1 (wpIn_region_any (F:=FW none) bp ?_);have bt:R1 s a {w with drawn:=w.drawn+1}:=by
  obtain⟨wa,Oa,Xa,⟨q1,q2,ρ,ap,ac⟩,ka⟩:=M1 s a w A;have e:fm w {w with drawn:=w.drawn+1}:=⟨rfl,rfl,rfl,aeJ _,fun _ _=>rfl⟩;have ac:bz Xa ρ s a w:=ac;exact ka _ _ _ (fun _ _=>rfl) ⟨q1,q2,ρ,ap.grow e,ac.grow e⟩
 have W:nl s:=by obtain⟨wa,Oa,Xa,r,_⟩:=M1 s a w A;exact gL r
 have hS:Qd P [] (mz (qB c m) z):=oE hd (by simp);have Z:ND [] s:=⟨W,fun x hx=>by simp at hx⟩;rw[<- zc,<- TH (m:=m),<- HD (m:=z)];refine pA (sep:=[]) hS hd (fun p s a w=>if(decide (z<c.size)&&p z)=true then R2 s3 a w else R1 s a w) Z D (fun p a w b2 A=>?_) (fun p i o' L b1 a w K g br ba hs A hK=>?_) c.size (Array.replicate c.size false) s a _ (by simp[J]) ?_ ?_ ?_ ?_
 ·by_cases a7:z<c.size
  ·rw[if_pos (by grind)]at A;exact hQ a w A
  rw[if_neg (by simp[a7]),bw (by omega)]at A;exact hQ a w (an (by omega) a w A)
 ·obtain⟨hc,a9,t⟩:=ba;have bm:i<c.size:=by grind
  by_cases av:i=z
  ·subst av;have af:fc p i i=true:=by simp[fc]
   obtain⟨ol,a3,U,a5⟩:=C bm;have ai:(mz (qB c m) i)[i]?=some (AK ol):=by grind [me,sn]
   rw[ai]at g;injection g with g
   subst g;have bx:oX (mz (qB c m) i).size p=List.range i:=vZ (by omega) (fun j f=>by
    have:=jY a9 (i+1) i (by omega) (by omega) af ((y.resolve_left (by omega)).2 j (afE.2 f));grind [fc]) (fun j cc cg=>by
    grind)
   rw[bx,b0]at t;injection t with t
   subst t;rw[br,Bool.and_false,if_neg (by decide)]at A;unfold wpOpIn;rw[a3];simp only;rw[if_pos (by simp[Region.wanted,U])];exact a5 a w K Q A fun v E h2=>hK v E (by rw[if_pos (by grind)];exact h2)
  have aa:(decide (z<c.size)&&p z)=false:=by
   by_cases a7:z<c.size
   ·cases aa:p z with
    |false=>simp
    |true=>
     have:=jY hc (z+1) z (by omega) (by omega) aa ((y.resolve_left (by omega)).2 i (afE.2 (by omega)));grind
   grind
  have cs:(z==i)=false:=by simp;omega
  have cm:(decide (z<c.size)&&fc p i z)=false:=by grind [fc]
  rw[aa,if_neg (by decide)]at A;have a8: ∀v E,R1 b1 (a.put o'.dst v) E->K (a.put o'.dst v) E:=fun v E h=>hK v E (by grind)
  by_cases V:i=m
  ·subst V;rw[bc]at g;injection g with g
   subst g;rw[a1]at hs;injection hs with hs
   subst hs;have bh:=(oF hd).1;have ag:Ex (mz (qB c i) z) (fun j=>decide (j<i)):=fun j o N f e he hb=>by
    grind
   have ah:Ex (mz (qB c i) z) (fun j=>p j&&decide (j<i)):=fun j o N f e he hb=>by
    simp only[afb]at f⊢;exact⟨hc j o N f.1 e he hb,ag j o N f.2 e he hb⟩
   have bq:dS P (B::b.map ar.a) q (mz (qB c i) z) (oX (mz (qB c i) z).size fun j=>decide (j<i)) s=some s1:=by
    rw[vZ (m:=i) (by omega) (fun j f=>by grind) (fun j _ f=>by grind)];exact a4
   obtain⟨sc,g1,g2⟩:=sM (rd:=F9 c i) (fas:=u) hS hd Z hc t (mz (qB c i) z).size 0 (fun j=>p j&&decide (j<i)) (by omega) (fun j f=>by omega) ah (fun j f=>by grind) (fun j o' f hp hn=>by
    have ch:j≠i:=fun e=>by grind
    have bn:=(ae4.1 f).1;rw[J]at bn;have ci:j≠z:=fun e=>by grind
    grind [jY])
   obtain⟨ct,ad,ae⟩:=sM (rd:=F9 c i) (fas:=u) hS hd Z ag bq (mz (qB c i) z).size 0 (fun j=>p j&&decide (j<i)) (by omega) (fun j f=>by omega) ah (fun j f=>by grind) (fun j o' f hp hn=>by
    grind [jY,fc])
   rw[g1]at ad;injection ad with e
   subst e;have ab:wP (F9 c i) u s1 L:=⟨fun k hk=>(g2.1 k hk).trans (ae.1 k hk).symm,fun x hx=>(g2.2 x hx).trans (ae.2 x hx).symm⟩;have a0:nl L:=by obtain⟨wa,Oa,Xa,r,_⟩:=M1 L a w A;exact gL r
   obtain⟨o2,G,b5,bH⟩:=a6 L ab a0;rw[N]at G;injection G with G
   subst G;unfold wpOpIn;rw[N];simp only;rw[if_pos (by simp[Region.wanted,hg])];exact bH a w K Q A fun v E h2=>a8 v E h2
  rw[T i V av]at g;rw[I i _ _ V]at hs;obtain⟨wa,Oa,Xa,ra,ka⟩:=M1 _ _ _ A;grind [zz,i6]
 ·intro j o N hp;have f:j<c.size:=by grind
  simp[f]at hp
 ·grind
 ·have:oX (mz (qB c m) z).size (fun j=>(Array.replicate c.size false).getD j true)=[]:=by
   unfold oX;rw[ahv];intro j f;have:=afE.1 f;rw[J]at this;simp[this]
  rw[this];rfl
 rw[if_neg (by by_cases h:z<c.size<;>simp[h])];exact bt
def SZ (c:Nat) (F:List OObj) (t u:TV):Prop:=(xH t=true/\u=t)\/(∃r b len o,t= .one (.sl c r b len)/\F[r]?=some o/\fE o/\u= .one (.p (.sl (((o.elems.take (b+len)).drop b).map (List.map unP)))))\/
 ∃r i j o e,t= .one (.ptr c r i j)/\F[r]?=some o/\o.elems[i]?=some e/\(∀x∈e,isPure x=true)/\u= .one (.p (.ptr ((e.drop j).map unP)))
def Eu (b:Nat) (F:List OObj):List TV->List TV->Prop
 |[],[]=>True
 |t::c,u::e=>SZ b F t u/\Eu b F c e
 |_,_=>False
theorem Do {e:Nat} {F:List OObj}: ∀{b c:List TV},Eu e F b c->c.length=b.length/\ ∀(j:Nat) u,c[j]?=some u-> ∃t,b[j]?=some t/\SZ e F t u
 |[],[],_=>⟨rfl,fun j u h=>by simp at h⟩
 |t::b,u::c,⟨m,f⟩=>by
  obtain⟨g,l⟩:=Do f;grind
 |[],_::_,h=>h.elim
 |_::_,[],h=>h.elim
variable {ρ:Rho} {s:AS}
theorem KN {Y:Nat->Prop} (z: ∀(x r:Nat) (o:OObj),(g x)[r]?=some o->objRel ρ g Y w x r o) {u:TV} (f:SZ n (g n) h u) {v:Value} (F:h.rel ρ g Y w v):u.rel (fun _ _=>none) (fun _=>[]) (fun _=>False) w v:=by
 have l: ∀x u,isPure x=true->AV.rel ρ g Y w x u->bS (fun _=>False) w (unP x) u:=fun x u E f=>by
  cases x<;>first|exact bS.weaken (fun _ _ f=>f.elim) f|cases E
 rcases f with⟨E,rfl⟩|⟨r,N,len,o,rfl,y,p,rfl⟩|⟨r,i,j,o,e,rfl,y,D,p,rfl⟩
 ·exact rB E F
 ·exact sG (z n r o y) y (fun e D x m u M=>l x u (p e D x m) M) (fun _ _ _ f=>f) F
 obtain⟨T,b,c,C,L,S,rfl⟩:=F;rw[y]at C;injection C with C
 subst C;obtain⟨Z,q2,J⟩:=z n r o y;rw[L]at J;obtain⟨cells,I,U,V,W,Q⟩:=J;have q: ∀(k:Nat) x,((e.drop j).map unP)[k]?=some x-> ∃u:Value,cells[i*o.es+(j+k)]?=some u/\bS (fun _=>False) w x u:=fun k x m=>by
  rw[aeG,agL]at m;obtain⟨G,A,rfl⟩:=adT.1 m;obtain⟨u,B,K,R⟩:=Q i e (j+k) G D A;exact⟨u,B,l G u (p G (adQ A)) R⟩
 refine bS.ptr b (i*o.es+j) _ (fun k=>(cells[i*o.es+(j+k)]?).getD undef) (fun f=>f) (ae4.1 I).1 (fun k x m=>?_) (fun k x m=>?_)
 ·obtain⟨u,B,_⟩:=q k x m;rw[cell_of_row _ b _ cells o.ty (0,0) I,show i*o.es+j+k=i*o.es+(j+k) by omega,B];rfl
 obtain⟨u,B,K⟩:=q k x m;simp only[B,agu];exact K
theorem V9 (S:dP w0 O X s a w) (aa:cfTs b s=some (f,e)) {args:List TV} {res:CallRes} (G:CallC P f args res) (A:kg res) {fa d:Nat} (L:Eu fa (s.H fa) e args) (hd:s.H d=[]) (M:b.dst=some d) {K:Act->World->Prop} {Q:Exit->Act->World->Prop} (hK: ∀v w',dP w0 O X (kq s d (renTV d res.r) (res.fam.map (renO d))) (a.put b.dst v) w'->K (a.put b.dst v) w'):b.wp P a w K Q:=by
 obtain⟨h1,U,ρ,p,B⟩:=S;have B:bz X ρ s a w:=B;obtain⟨q1,q2⟩:=Do L;have F: ∀j,Xo X ρ s.H j->j<w.heap.size:=fun g J=>by
  rcases J with J|⟨x,y,o',n,g1,g2⟩
  ·exact p.bar g J
  exact bI (p.objs x y o' g1) g2
 have post: ∀v q m,Inv w (fun _=>False) (fun _=>False) (famH 0 res.fam) m q->res.r.rel m (famH 0 res.fam) (Xo (fun _=>False) m (famH 0 res.fam)) q v->dP w0 O X (kq s d (renTV d res.r) (res.fam.map (renO d))) (a.put (some d) v) q:=fun v q m C V=>by
  have N: ∀(x r:Nat) b,(famH 0 res.fam x)[r]?=some b->b∈res.fam:=fun x r b D=>by
   unfold famH at D;split at D
   ·exact adQ D
   simp at D
  have R: ∀{Y Y':Nat->Prop} (x r:Nat) b,b∈res.fam->objRel m (famH 0 res.fam) Y q x r b->objRel m (famH 0 res.fam) Y' q x r b:=fun{Y Y'} x r b hmem hob=>
   dV hob rfl (fun _ _ _=>rfl) fun l he z hz _ u3=>nd (A.2 b hmem l he z hz) u3
  by_cases E:res.plain=true
  ·exact gW (P:=P) (it:=(⟨0,f,args,res⟩:dD P)) (d:=d) (v:=v) (w1:=q) (ρc:=m) h1 U p B rfl rfl (fun _=>hd) (by rw[if_pos E];exact C) (by rw[if_pos E];exact V)
  have Z:Inv w (fun _=>False) (Xo X ρ s.H) (famH 0 res.fam) m q:=
   ⟨C.keep,fun x r b D=>R x r b (N x r b D) (C.objs x r b D),C.inj,fun x r b g c D J=>by
    have:=C.old x r b g c D J;refine⟨this.1,fun hX=>?_⟩;rcases this.1 with h|h
    ·have:=F g hX;omega
    exact h,fun g J=>aeT (F g J) C.keep.size,C.self⟩
  exact gW (P:=P) (it:=(⟨0,f,args,res⟩:dD P)) (d:=d) (v:=v) (w1:=q) (ρc:=m) h1 U p B rfl rfl (fun _=>hd) (by rw[if_neg E];exact Z) (by rw[if_neg E];exact qf A.1 V)
 obtain⟨vs,T,ab,I⟩:=EU aa B G.1;unfold Oper.wp;rw[T];simp only[Oper.upon];refine(G.2 (fun _=>False) w vs (fun j hj=>hj.elim) (ab.trans q1.symm) fun j u hu=>?_).mono ?_
 ·obtain⟨t,ht,W⟩:=q2 j u hu;obtain⟨v,v1,v2⟩:=I j t ht;exact⟨v,v1,KN p.objs W v2⟩
 rintro l q ⟨v,rfl,m,C,V⟩;have:=post v q m C V;rw[M]at hK⊢;exact hK v q this
theorem U3 {r e:Nat} {F:TypeId} {f:List (List AV)} (C:dP w0 O X s a w) (B:(s.H n)[r]?=some ⟨F,1,af e [AV.junk]++f⟩): ∃vs:List Value,vs.length=e/\dP w0 O X ⟨s.tmps,aK s.H n ((s.H n).set r ⟨F,1,vs.map (fun v=>[AV.p (.raw v)])++f⟩)⟩ a w:=by
 obtain⟨K,D,ρ,l,z⟩:=C;have z:bz X ρ s a w:=z;obtain⟨U,q2,E⟩:=id (l.objs n r _ B);cases I:ρ n r with
 |none=>
  rw[I]at E;simp only[List.append_eq_nil_iff,List.replicate_eq_nil_iff]at E;obtain⟨rfl,rfl⟩:=E;refine⟨[],rfl,?_⟩;have:(s.H n).set r ⟨F,1,[].map (fun v=>[AV.p (.raw v)])++[]⟩=s.H n:=by
   apply aeW;intro i;rw[afG];split
   ·rename_i m;subst m;rw[if_pos (aeI.1 B).1,B];rfl
   rfl
  rw[this,show aK s.H n (s.H n)=s.H from funext fun x=>by unfold aK;split<;>simp_all];exact⟨K,D,ρ,l,z⟩
 |some N=>
  obtain⟨p,c⟩:=N;rw[I]at E;obtain⟨cells,T,Z,p3,p4,L⟩:=E;have G:(af e [AV.junk]).length=e:=by simp
  refine⟨(List.range e).map fun i=>(cells[i]?).getD undef,by simp[wk],?_⟩;have o: ∀(i:Nat) g,((((List.range e).map fun i=>(cells[i]?).getD undef).map (fun v=>[AV.p (.raw v)])++f:List (List AV)))[i]?=some g->(i<e/\g=[.p (.raw ((cells[i]?).getD undef))])\/(e<=i/\f[i-e]?=some g/\(af e [AV.junk]++f)[i]?=some g):=fun i g y=>by
   by_cases m:i<e
   ·rw[aff (by simpa using m)]at y;simp[m]at y;exact .inl ⟨m,y.symm⟩
   rw[afs (by simpa using af2 m)]at y;simp only[ae3,agR]at y;exact .inr ⟨by omega,y,by rw[afs (by omega),G];exact y⟩
  obtain⟨R,S⟩:=A6 l (o':=⟨F,1,((List.range e).map fun i=>(cells[i]?).getD undef).map (fun v=>[AV.p (.raw v)])++f⟩) B I T rfl rfl (by simp) (fun g A=>by
   obtain⟨i,m⟩:=afo.1 A;rcases o i g m with⟨_,rfl⟩|⟨_,_,h⟩
   ·rfl
   ·exact U g (adQ h)) (fun g A x q=>by
   obtain⟨i,m⟩:=afo.1 A;rcases o i g m with⟨_,rfl⟩|⟨_,_,h⟩
   ·simp only[aeK]at q;subst q;trivial
   ·exact l.self n r _ B g (adQ h) x q) (fun i g j x y q=>by
   rcases o i g y with⟨m,rfl⟩|⟨_,_,h⟩
   ·have Q:j=0:=by
     cases j with
     |zero=>rfl
     |succ j=>simp at q
    subst Q;simp at q;subst q;obtain⟨u,J,M,_⟩:=L i [.junk] 0 .junk (by rw[aff (by omega)];simp[m]) rfl;simp only[aja,ago]at J⊢;refine⟨u,J,M,?_⟩;rw[J];exact bS.raw u M
   exact L i g j x h q)
  exact⟨K,D,ρ,R,fun t x q=>by
   obtain⟨v,V,W⟩:=z t x q;exact⟨v,V,TV.rel_map W S⟩⟩
theorem Y0 {o:OH} {d:Nat} (q:g d=[]) (c:ji g h):f5 o d h=h:=by
 have u: ∀x,il g x->gn o d x=x:=fun x n=>by
  cases x with
  |p x=>rfl
  |junk=>rfl
  |sl b r y len=>
   have:b≠d:=fun e=>n (by rw[e];exact q)
   simp only[gn,if_neg this]
  |ptr b r i j=>
   have:b≠d:=fun e=>n (by rw[e];exact q)
   simp only[gn,if_neg this]
  |fn f b A=>
   have:b≠d:=fun e=>n.1 (by rw[e];exact q)
   simp only[gn,if_neg this]
 have m: ∀l:List AV,(∀x∈l,il g x)->l.map (gn o d)=l:=fun l v=>by
  conv=>rhs;rw[<- agz l]
  exact ae1 fun x n=>u x (v x n)
 cases h with
 |one x=>simp only[f5,u x c]
 |agg l=>simp only[f5,m l c]
 |fn f l=>simp only[f5,m l c]
 |tup z=>
  simp only[f5]
  congr 1
  conv=>rhs;rw[<- agz z]
  exact ae1 fun x n=>by
   rw[m x.2 (c x n)];rfl
theorem Tj {d:Nat} {F:List OObj} {x:PV} (u:nl s) (f:s.H d=[]) (g: ∀H:OH,H d=F->ve H d/\f5 H d h= .one (.p x)):bN (kq s d h F) (s.put (some d) (.one (.p x))):=by
 have e:aK s.H d []=s.H:=funext fun y=>by
  unfold aK;split
  ·rename_i b;rw[b];exact f.symm
  rfl
 obtain⟨c,j,m,n⟩: ∃c:OH,kq s d h F=⟨s.tmps.set d h,c⟩/\c d=F/\aK c d []=s.H:=by
  cases F with
  |nil=>exact⟨s.H,rfl,f,e⟩
  |cons o l=>
   refine⟨aK s.H d (o::l),rfl,be,?_⟩;rw[<- e];funext y;unfold aK;split<;>rfl
 rw[j];obtain⟨f1,f2⟩:=g c m;have b:=bR (s:=⟨s.tmps.set d h,c⟩) d f1;simp only[n,aiX,f2]at b;have q:s.tmps.map (f5 c d)=s.tmps:=by
  conv=>rhs;rw[<- agz s.tmps]
  exact ae1 fun t v=>by
   obtain⟨k,r⟩:=afo.1 v;exact Y0 f (u.1 k t r)
 rw[q]at b;exact b
def aaR (P:Program) (f:FuncId) (e:List TV) (c d r n:Nat) (g:TypeId) (b:List (List AV)) (x:PV) (F:List OObj):Prop:= ∀vs:List Value,vs.length=n-> ∃args res,CallC P f args res/\kg res/\Eu c (F.set r ⟨g,1,vs.map (fun v=>[AV.p (.raw v)])++b⟩) e args/\
 ∀H:OH,H d=res.fam.map (renO d)->ve H d/\f5 H d (renTV d res.r)= .one (.p x)
theorem R6 {d r g:Nat} {m:TypeId} {l:List (List AV)} {x:PV} (S:cfTs b s=some (f,e)) (q:b.dst=some d) (hd:s.H d=[]) (L:n≠d) (t:(s.H n)[r]?=some ⟨m,1,af g [AV.junk]++l⟩) (A:aaR P f e n d r g m l x (s.H n)):
  CR P b (dP w0 O X s) (dP w0 O X (s.put b.dst (.one (.p x)))):=fun a w K Q hr W=>by
 obtain⟨vs,I,D⟩:=U3 hr t;obtain⟨args,res,Z,u,z,M⟩:=A vs I;have J:AS.ev ⟨s.tmps,aK s.H n ((s.H n).set r ⟨m,1,vs.map (fun v=>[AV.p (.raw v)])++l⟩)⟩=s.ev:=funext fun y=>by cases y<;>rfl
 have E:cfTs b ⟨s.tmps,aK s.H n ((s.H n).set r ⟨m,1,vs.map (fun v=>[AV.p (.raw v)])++l⟩)⟩=some (f,e):=by
  rw[<- S];unfold cfTs;simp only[J]
 have B:aK s.H n ((s.H n).set r ⟨m,1,vs.map (fun v=>[AV.p (.raw v)])++l⟩) d=[]:=by rw[aU (agv L)];exact hd
 refine lj (.inl rfl) (V9 D E Z u (fa:=n) (by simp only[be];exact z) B q fun v w' r'=>W v w' ?_);have r3:=Tj (gL D) B M _ _ _ _ _ r';have R:=(aeI.1 t).1;have hw:=pi (s:=AS.put ⟨s.tmps,aK s.H n ((s.H n).set r ⟨m,1,vs.map (fun v=>[AV.p (.raw v)])++l⟩)⟩ (some d) (.one (.p x))) n r (o:=⟨m,1,vs.map (fun v=>[AV.p (.raw v)])++l⟩) (o':=⟨m,1,af g [AV.junk]++l⟩) (by rw[js];simp only[be];exact afu R) rfl rfl (by simp[I]) (fun i U C=>by
  have N:(af g [AV.junk]).length=g:=by simp
  by_cases G:i<g
  ·rw[aff (by omega)]at C;simp[G]at C;subst C;refine⟨[.p (.raw (vs[i]'(by omega)))],by rw[aff (by simp;omega)];simp[I,G],rfl,fun j x F=>?_⟩;cases j with
   |zero=>simp at F;exact .inl F.symm
   |succ j=>simp at F
  rw[afs (by omega),N]at C;exact⟨U,by rw[afs (by simp;omega)];simpa[I] using C,rfl,fun j x F=> .inr F⟩)
 have T:=hw _ _ _ _ _ r3;have c:(AS.mk (AS.put ⟨s.tmps,aK s.H n ((s.H n).set r ⟨m,1,vs.map (fun v=>[AV.p (.raw v)])++l⟩)⟩ (some d) (.one (.p x))).tmps (aK (AS.put ⟨s.tmps,aK s.H n ((s.H n).set r ⟨m,1,vs.map (fun v=>[AV.p (.raw v)])++l⟩)⟩ (some d) (.one (.p x))).H n (((AS.put ⟨s.tmps,aK s.H n ((s.H n).set r ⟨m,1,vs.map (fun v=>[AV.p (.raw v)])++l⟩)⟩ (some d) (.one (.p x))).H n).set r ⟨m,1,af g [AV.junk]++l⟩)))=s.put (some d) (.one (.p x)):=by
  simp only[AS.put,be,aiY];have V:(s.H n).set r ⟨m,1,af g [AV.junk]++l⟩=s.H n:=by
   apply aeW;intro i;rw[afG];split
   ·rename_i G;subst G;exact t.symm
   rfl
  rw[V]
  congr 1
  funext y;unfold aK;split
  ·rename_i h;rw[h]
  rfl
 rw[c]at T;rw[q];rw[q]at T;exact T
theorem R5 {R:AS->Act->World->Prop} (e:S6 R) {c:AS} (h: ∀w0 O X,CR P b (dP w0 O X s) (dP w0 O X c)):CR P b (R s) (R c):=fun a w K Q l j=>by
 obtain⟨r,f,g,p,m⟩:=e s a w l;exact h r f g a w K Q p fun v q n=>j v q (m _ _ _ n)
theorem YQ {q:List Nat} {p:AS} (h:wP (F9 c n) q s p):cxTs c n p=cxTs c n s:=by
 unfold cxTs;have l:=h.1;unfold F9 at l;cases t:c[n]? with
 |none=>rfl
 |some o=>
  rw[t]at l;simp only at l⊢;have e: ∀y∈o.op.operands,p.ev y=s.ev y:=fun y j=>by
   cases y with
   |tmp k=>exact l k (ahS.2 ⟨.tmp k,by simpa using j,rfl⟩)
   |_=>rfl
  have:cfTs o p=cfTs o s:=by
   unfold cfTs;split
   ·rename_i b r;rw[r]at e;simp only[Op.operands,Call.operands]at e;split
    ·rename_i f g;rw[g]at e;rw[lE b.args.toList fun y j=>e y (by simp at j⊢;exact .inr j)]
    ·rename_i k g;rw[g]at e;rw[lE b.args.toList fun y j=>e y (by simp at j⊢;exact .inr j),e (.tmp k) (by simp)]
    rfl
   rfl
  rw[this]
variable {γ:Type} {L:iz γ} {g:γ} {Q:Exit->AS->γ->Prop}
theorem Df (C:P.follows .mixedOrders=true) (m l d r n:Nat) (G:TypeId) (v:List (List AV)) (x:PV) {f:FuncId} {ts:List TV} (b:List (ar P)) (y:List Nat) {id:Nat} (F:cY ks c=true) (S:Vu c m c.size [l,d]=true) (e:cwD c m=some d) (B:l≠d) (h: ∀K:AS->Prop,(∀j,(cxTs c m j=some (f,ts)/\j.H d=[]/\(j.H l)[r]?=some ⟨G,1,af n [AV.junk]++v⟩/\aaR P f ts l d r n G v x (j.H l)/\ ∀K:AS->Prop,(∀z,Q .normal z g->K z)->bM P (b.map ar.a) y (aV c (c.toList.drop (m+1)) (m+1)) (some (j.put (some d) (.one (.p x)))) K)->K j)->bM P (b.map ar.a) y (aV c (c.toList.take m) 0) (some s) K):eF P L ks (.region id c true) Q s g:=fun I Y w0 O X a w r0=>by
 obtain⟨j,M,U,V,W,q4,Z⟩:=aO P (b.map ar.a) y c _ 0 s _ (h _ fun j q=>q);obtain⟨s2,N,R⟩:=aO P (b.map ar.a) y c _ (m+1) _ _ (Z (fun s=>Q .normal s g) fun _ h=>h);refine Ip (R1:=jy L ks I Y w0 O X g) (R2:=jy L ks I Y w0 O X g) eP C b y m c.size [l,d] x F S M (fun z D hl=>?_) (by rw[e,aeS (by simp)];exact N) (fun h=>absurd h (aiG _)) (fun _ _ _ h=>h) r0 fun a' w' r'=>⟨s2,g,R,r'⟩
 rw[e];refine rJ F ?_;have u:=(YQ D).trans U;unfold cxTs at u;cases A:c[m]? with
 |none=>rw[A]at u;cases u
 |some o=>
  rw[A]at u;simp only at u;split at u
  ·rename_i T;have t:o.dst=some d:=by unfold cwD at e;rw[A]at e;exact e
   refine⟨o,A,by simpa using T,?_⟩;rw[<- t];have E:z.H l=j.H l:=D.2 l (by simp);have J:z.H d=j.H d:=D.2 d (by simp);exact R5 t8 fun w0 O X=>R6 u t (by rw[J];exact V) B (by rw[E];exact W) (by rw[E];exact q4)
  cases u
end
end
section
theorem qI {m:Nat} {c:Int} {y D:List Int} {M acc:List (List Int)} {ex:Bool} (b:s.H 0=Ie 0 n m (c::y) D M acc ex):bN s ⟨s.tmps,aK s.H 0 (Ie 0 n (m+1) y D M acc ex)⟩:=by
 have h:=pi (s:=s) 0 3 (o:=⟨2,1,jo m++lc fI (c::y)⟩) (o':=⟨2,1,jo (m+1)++lc fI y⟩) (by rw[b];rfl) rfl rfl (by simp only[lT,ae6];omega) fun i e f=>by
  rw[<- q9 m c y];grind [jo]
 grind
structure SrG (lo hi:Int) (h:Int->List (List Int)) (T:List (List Int)) where
 x:Int
 acc:List (List Int)
 h1:lo<=x
 e:acc++(rng x hi).flatMap h=T
section
variable {n:Nat} {f:FF} {B:Int} {ex:Bool}
theorem JB (I:qH n f B) (k:Nat) (y:List Int) (z:Bool) (acc:List (List Int)) (hk:y.length+(k+1)=n) (hT:tn y) (hP:fq f n B (k+1) (aL n y)) (hz:z=true->cu f n B k (aL n y)<=0) (R:(acc++CP f n B ex k y z).length<=1000000)
  (av: ∀j,k=j+1-> ∀c P,cu f n B k (aL n y)<=c->c<=dy f n B k (aL n y)->(z=true->0<=c)->(P++CP f n B ex j (c::y) (z&&decide (c=0))).length<=1000000->SrC n f B ex j (c::y) (z&&decide (c=0)) P):SrC n f B ex k y z acc:=by
 have cx:=I.n8;have cr:=I.d (k:=k) (by omega);have ab:=I.d (k:=k+1) (by omega);have a8:=aw (dk f) (show k<n+1 by omega);have a9:=aw (dk f) (show k+1<n+1 by omega);have cn:=az (n+1) (dk f);have hM:=Ba n f (show k<n by omega);have cp:=oK n f n;have bh:(rc n f k).length=n-k-1:=az _ _;have hR: ∀i,i<y.length->(rc n f k)[i]?=some (bk f k k (k+(i+1))):=fun i E=>aw _ (by omega)
 have Z:=fun m (hm:m<=y.length)=>I.shP_c hk hT hm
 have U:=sN f hk;have cA:=I.rs0 (k:=k+1) (by omega) hP;have N:=I.sq (k:=k) (by omega) hP;have b1:=I.lohi hk hT hP;have b4:=aal (m:=y.length+1) (by omega);have cD:=qY N.1 N.2;have cR:=BW (.inr (.inl rfl)) _ N.1 N.2;have a5:=fun c=>I.step hk (c:=c) hP
 have a4:dk f k*uk f n B (k+1) (aL n y)=gE f n B k (aL n y):=rfl;have ap:cu f n B k (aL n y)=0-(isqF (gE f n B k (aL n y))+yG f k y y.length)/dk f (k+1):=by grind [cu]
 have ai:dy f n B k (aL n y)=(isqF (gE f n B k (aL n y))-yG f k y y.length)/dk f (k+1):=by rw[U];rfl
 have cl:=Z y.length (aeJ _);have a6:=r7 (.inr (.inl rfl)) (isqF (gE f n B k (aL n y))+yG f k y y.length) (dk f (k+1)) ab.1 (by omega) (by omega) (by omega);have a7:=r7 (.inr (.inl rfl)) (isqF (gE f n B k (aL n y))-yG f k y y.length) (dk f (k+1)) ab.1 (by omega) (by omega) (by omega);have e1:IntKind.i64.wrap ((k:Int)+1)=((k+1:Nat):Int):=aH (by omega) (by omega);have hS: ∃h:Int->List (List Int),CP f n B ex k y z=(rng (if z=true then 0 else cu f n B k (aL n y)) (dy f n B k (aL n y))).flatMap h/\(k=0-> ∀c,h c=if(z&&decide (c=0))=true\/(ex&&!decide (uk f n B k (aL n (c::y))=0))=true then[]else[c::y])/\ ∀j,k=j+1-> ∀c,h c=CP f n B ex j (c::y) (z&&decide (c=0)):=by
  cases k with
  |zero=>exact⟨_,rfl,fun _ _=>rfl,fun j e=>absurd e (by omega)⟩
  |succ j=>
   refine⟨_,rfl,fun e=>absurd e (by omega),fun j' e c=>?_⟩;grind
 obtain⟨h,hS,ae,ah⟩:=hS;have a2:yG f k y 0=0:=rfl;have a3: ∀i,yG f k y i+bk f k k (k+(i+1))*y.getD i 0=yG f k y (i+1):=fun _=>rfl
 rw[<- U]at a5;have a0: ∀c,fq f n B k (aL n (c::y))->0<=uk f n B k (aL n (c::y))/\uk f n B k (aL n (c::y))<=70368744177664:=fun c h=>I.rs0 (by omega) h
 clear I hP hT;unfold SrC at*
 rw[hS]at R⊢;clear hS;generalize cu f n B k (aL n y)=lo at*
 generalize dy f n B k (aL n y)=E at*
 generalize gE f n B k (aL n y)=sq at*
 generalize uk f n B (k+1) (aL n y)=X at*
 generalize isqF sq=rt at*
 generalize aA (n+1) (dk f)=D at*
 generalize gX n f n=M at*
 generalize rc n f k=r at*
 generalize dk f (k+1)=d1 at*
 generalize dk f k=d0 at*
 generalize yG f k y=F at*
 have cv: -46911780290560<=lo/\lo<=46911780290560:=by omega
 have cs: -46911780290560<=E/\E<=46911780290560:=by omega
 clear b1 b4;have cj:(d1=0)=False:=eq_false (by omega);refine qQ func139 rfl (by kernel_rfl) srP (by simp) (by simp[selfTV,bJ]) (by simp[selfTV]) (If 0 _ _ _ _ _ _ _) (If 0 _ _ _ _ _ _ _) (ab9 0 _ _ _ _ _ _ _ _ _ _) ?_;rw[ntmps139];refine eF.weak (ak (tm:=(.raw (.int .i64 (k:Int))::.raw (.int .i64 X)::.raw (.bool z)::.one (.ptr 0 1 0 0)::.one (.ptr 0 2 0 0)::.one (.ptr 0 0 0 0)::.one (.ptr 0 6 0 0)::.one (.ptr 0 4 0 0)::j16 (j16 (j16 (j16 (j16 (j16 (j16 (jk::jk::jk::[]))))))))) (l:=[(0,Ie 0 n (k+1) y D M acc ex)]) ⟨rfl,trivial⟩ (by simp[wk,af])) ?_;refine dh (aG e1 a9) (k:=aR (dh (aG hM bh) (k:=?_)));refine dT (G:=fp y.length) (fun q=>⟨(.raw (.int .i64 (k:Int))::.raw (.int .i64 X)::.raw (.bool z)::.one (.ptr 0 1 0 0)::.one (.ptr 0 2 0 0)::.one (.ptr 0 0 0 0)::.one (.ptr 0 6 0 0)::.one (.ptr 0 4 0 0)::jk::jk::jk::.raw (.int .i64 d1)::.raw (.int .i64 (F q.i))::j16 (jk::jk::jk::.one (.p (.sl (ls fI r)))::rN y.length::rN q.i::j16 (j16 (j16 (j16 (j16 (j4 (j4 ([]))))))))),Hm [(0,Ie 0 n (k+1) y D M acc ex)]⟩) (fun _=>()) (fun q=>y.length-q.i) ⟨0,by omega⟩ ?_ rfl ?_
 ·refine ak ⟨rfl,trivial⟩ ?_;simp[wk,a2];omega
 rintro⟨i,ct⟩;simp only;by_cases hm:i<y.length
 ·have bc:=hR i hm;have s0:=Z i (by omega);have s1:=Z (i+1) (by omega);have s2:=a3 i;have e3:IntKind.i64.wrap (((k+1:Nat):Int)+(i:Int))=((k+1+i:Nat):Int):=by rw[aH (by omega) (by omega)];omega
  have bp:=U1 (k+1) i y;have bq:=lT (k+1) y;have ch:y[i]?=some (y.getD i 0):=by rw[aeM,aeR hm];rfl
  generalize bk f k k (k+(i+1))=q at*
  generalize y.getD i 0=yi at*
  refine bU (k:=nT rfl (aR (cQ (dh bc (k:=jW (aG e1 (aG e3 (aG bp (aG ch s2)))) (k:=tD (k:=?_)))))));refine⟨⟨i+1,by omega⟩,by grind,ak ⟨rfl,trivial⟩ ?_,trivial⟩;simp[wk]
 have bt:i=y.length:=by omega
 subst bt;refine bU (k:=po rfl (dh (aG a8 a4) (k:=Ak [⟨1,_,_,_,cR⟩] (k:=?_))));refine ox [⟨4,_,_,_,a6⟩,⟨10,_,_,_,a7⟩] [] (by kernel_rfl) fun _ K=>?_;simp(disch:=omega) only[kd,<- ai,aa,aH,<- ap,ag];apply K
 refine aR (Hj (S:=⟨(.raw (.int .i64 (k:Int))::jk::.raw (.bool z)::.one (.ptr 0 1 0 0)::.one (.ptr 0 2 0 0)::.one (.ptr 0 0 0 0)::.one (.ptr 0 6 0 0)::.one (.ptr 0 4 0 0)::jk::jk::jk::.raw (.int .i64 d1)::.raw (.int .i64 (F y.length))::jk::jk::.raw (.int .i64 sq)::jk::.raw (.int .i64 (if z=true then 0 else lo))::.raw (.int .i64 E)::j16 (j16 (j16 (j16 (j16 (j16 (j4 (j4 ([]))))))))),Hm [(0,Ie 0 n (k+1) y D M acc ex)]⟩) ?_ ?_)
 ·cases z with
  |true=>
   refine bU (k:=d8 rfl (tD (k:=?_)));refine⟨ak ⟨rfl,trivial⟩ ?_,rfl⟩;simp[wk]
  |false=>
   refine bU (k:=dO rfl (cb ?_));refine⟨ak ⟨rfl,trivial⟩ ?_,rfl⟩;simp[wk]
 refine bU (k:=?_);have bl:((acc++(rng (if z=true then 0 else lo) E).flatMap h)).length<=1000000:=R;generalize bm:acc++(rng (if z=true then 0 else lo) E).flatMap h=T at*
 refine dT (G:=SrG (if z=true then 0 else lo) E h T) (fun v=>⟨(.raw (.int .i64 (k:Int))::jk::.raw (.bool z)::.one (.ptr 0 1 0 0)::.one (.ptr 0 2 0 0)::.one (.ptr 0 0 0 0)::.one (.ptr 0 6 0 0)::.one (.ptr 0 4 0 0)::jk::jk::jk::.raw (.int .i64 d1)::.raw (.int .i64 (F y.length))::jk::jk::.raw (.int .i64 sq)::jk::jk::.raw (.int .i64 E)::.raw (.int .i64 v.x)::j16 (j16 (j16 (j16 (j16 (j16 (j4 (jk::jk::jk::[])))))))),Hm [(0,Ie 0 n (k+1) y D M v.acc ex)]⟩) (fun _=>()) (fun v=>(E+1-v.x).toNat) ⟨_,acc,afY _,bm⟩ ?_ rfl ?_
 ·refine ak ⟨rfl,trivial⟩ ?_;simp[wk]
 rintro⟨x,C,cG,w⟩;simp only;by_cases hx:x<=E
 ·have cg:z=true->0<=x:=fun e=>by grind
  have V:lo<=x:=by
   cases z with
   |true=>grind
   |false=>grind
  obtain⟨ba,hq⟩:=a5 x V hx;have b3:=a0 x ba;rw[jM hx,agQ,<- ae8]at w;have J:(C++h x).length<=1000000:=by
   rw[<- w,afg]at bl;omega
  have cH:(d1*x).natAbs<=65535*46911780290560:=by
   rw[afr];exact afd (by omega) (by omega)
  have Q:=fun e=>ae e x
  generalize a1:uk f n B k (aL n (x::y))=O at*
  have b2:0<=d1*O:=aeQ (by omega) b3.1;have ad:Int.tdiv (sq-(d1*x+F y.length)*(d1*x+F y.length)) d1=O:=by rw[hq];exact ahn _ (by omega)
  have cE:0<=(d1*x+F y.length)*(d1*x+F y.length):=by
   rcases afF 0 (d1*x+F y.length)with h|h
   ·exact aeQ h h
   exact ae9 h h
  have bq:=lT (k+1) y;have br:=q9 k x y;have bn:(jo (k+1)++lc fI y)[k]?=some [.junk]:=by
   rw[aff (by simp[jo])];simp[jo]
  refine aR (bU (k:=d8 rfl (cb (aR (cQ (dh (aG bn br) (k:=bU (k:=?_))))))));generalize hU:(d1*x+F y.length)*(d1*x+F y.length)=uu at*
  refine dh (aG hU ad) (k:=cQ ?_);cases k with
  |zero=>
   have L:=Q rfl;obtain⟨bb,u⟩: ∃bb:Bool,bb=((z&&decide (x=0))||(ex&&!decide (O=0))):=⟨_,rfl⟩;have an:h x=if bb=true then[]else[x::y]:=by rw[L,u];simp
   clear L Q ae ah;have bx:(0<((0:Nat):Int))=False:=eq_false (by omega);have bw:jo 0++lc fI (x::y)=lc fI (x::y):=rfl;refine dh bx (k:=dO rfl ?_);simp only[bw];refine aR (Hj (S:=⟨(.raw (.int .i64 ((0:Nat):Int))::jk::.raw (.bool z)::.one (.ptr 0 1 0 0)::.one (.ptr 0 2 0 0)::.one (.ptr 0 0 0 0)::.one (.ptr 0 6 0 0)::.one (.ptr 0 4 0 0)::jk::jk::jk::.raw (.int .i64 d1)::.raw (.int .i64 (F y.length))::jk::jk::.raw (.int .i64 sq)::jk::jk::.raw (.int .i64 E)::.raw (.int .i64 x)::j16 (j16 (j16 (j16 (j16 (j4 (j4 (j4 (.raw (.bool bb)::j4 (j4 (jk::jk::[]))))))))))),Hm [(0,Ie 0 n 0 (x::y) D M C ex)]⟩) ?_ ?_)
   ·cases z with
    |false=>
     refine bU (k:=dO rfl ?_);cases ex with
     |false=>
      refine tD (k:=?_);refine⟨ak ⟨rfl,trivial⟩ ?_,rfl⟩;simp[wk,u]
     |true=>
      by_cases t:O=0
      ·have A:(O=0)=True:=eq_true t;refine jW A (k:=?_);refine⟨ak ⟨rfl,trivial⟩ ?_,rfl⟩;simp[wk,u,t]
      have A:(O=0)=False:=eq_false t;refine jW A (k:=?_);refine⟨ak ⟨rfl,trivial⟩ ?_,rfl⟩;simp[wk,u,t]
    |true=>
     by_cases b:x=0
     ·have s:(x=0)=True:=eq_true b;refine dh s (k:=d8 rfl (cb ?_));refine⟨ak ⟨rfl,trivial⟩ ?_,rfl⟩;simp[wk,u,b]
     have s:(x=0)=False:=eq_false b;refine dh s (k:=dO rfl ?_);cases ex with
     |false=>
      refine tD (k:=?_);refine⟨ak ⟨rfl,trivial⟩ ?_,rfl⟩;simp[wk,u,b]
     |true=>
      by_cases t:O=0
      ·have A:(O=0)=True:=eq_true t;refine jW A (k:=?_);refine⟨ak ⟨rfl,trivial⟩ ?_,rfl⟩;simp[wk,u,t,b]
      have A:(O=0)=False:=eq_false t;refine jW A (k:=?_);refine⟨ak ⟨rfl,trivial⟩ ?_,rfl⟩;simp[wk,u,t,b]
   rw[an]at w J;cases bb with
   |true=>
    rw[if_pos rfl,afz]at w;refine d8 rfl (cb (tD (k:=?_)));refine⟨⟨x+1,C,by omega,w⟩,by simp only;omega,(qI (m:=0) rfl).trans (ak ⟨rfl,trivial⟩ ?_),trivial⟩;simp[wk]
   |false=>
    rw[if_neg (by decide)]at w J;have cC:=Ia (x::y) (by simp) (by grind);have cm:(x::y).length=n:=by omega
    have ci:C.length+1<=1000000:=by grind
    generalize cc:x::y=xy at*
    refine dO rfl ?_;refine Df bZ 2 0 96 3 0 2 (lc fI xy) (.sl (ls fI xy)) (f:=142) (ts:=[.one (.sl 0 3 0 n)]) [] [] (by kernel_rfl) (by kernel_rfl) rfl (by decide) fun K g=>?_
    simp only[kd];refine g _ ⟨rfl,rfl,rfl,?_,?_⟩
    ·intro vs b5;obtain rfl:vs=[]:=agy b5;refine⟨_,_,cC,⟨rfl,fun o ho e w x hx=>?_⟩,⟨.inr (.inl ⟨3,0,n,_,rfl,rfl,bF 2 1 xy,?_⟩),trivial⟩,fun H hH=>?_⟩
     ·simp only[aeK]at ho;subst ho;obtain⟨z,_,rfl⟩:=aeL.1 w;simp only[fI,aeX,afh,aeK]at hx;subst hx;rfl
     ·grind [fO,nG]
     simp only[aeX,afh,renO,jh]at hH;refine⟨bj hH,?_⟩;simp only[renTV,dA,f5,gn,if_true,hH,ah9];grind [fO,jp]
    clear g K;intro K g;simp(disch:=omega) only[kd,aa,Nat.reduceMul,Nat.reduceLeDiff,List.any_cons,ag,List.any_nil];apply g;clear g K;show eF _ _ _ _ _ _ _;refine tD (k:=?_);subst cc;refine⟨⟨x+1,C++[x::y],by omega,w⟩,by simp only;omega,(qI (m:=0) (c:=x) (y:=y) (acc:=C++[x::y]) ?_).trans (ak ⟨rfl,trivial⟩ ?_),trivial⟩
    ·have bH:List.map (List.map (aY fun x y=>x==0&&y==5)) (jo 0++lc fI (x::y))=jo 0++lc fI (x::y):=zp _ _;simp only[be,bH,Ie,afg,ae6,afP,afm,<- LA];rfl
    simp[wk]
  |succ j=>
   have L:=ah j rfl x;have e4:IntKind.i64.wrap (((j+1:Nat):Int)-1)=(j:Int):=by rw[aH (by omega) (by omega)];omega
   have b0:(0<((j+1:Nat):Int))=True:=eq_true (by omega);rw[L]at J w;have Y:=av j rfl x C V hx cg J;rw[a1]at Y;generalize CP f n B ex j (x::y) (z&&decide (x=0))=W at*
   refine dh b0 (k:=d8 rfl ?_);cases z with
   |false=>
    simp only[Bool.false_and]at Y;refine iF 9 Y 0 [] [] (by kernel_rfl) (by omega) (by decide) fun K g=>?_
    simp(disch:=omega) only[kd,aa,e4];refine g _ ⟨⟨rfl,(zj 0 0 _ _ _ _ _ _ _).symm⟩,?_⟩;clear g K;intro K g;simp(disch:=omega) only[kd,aa,CO,cwD,srP,qy,oJ,ag,afv,j5];apply g;clear g K;show eF _ _ _ _ _ _ _;refine tD (k:=?_);refine⟨⟨x+1,C++W,by omega,w⟩,by simp only;omega,(qI rfl).trans (ak ⟨rfl,trivial⟩ ?_),trivial⟩;simp[wk]
   |true=>
    by_cases b:x=0
    ·subst b;simp only[ah4,decide_true]at Y;refine iF 9 Y 0 [] [] (by kernel_rfl) (by omega) (by decide) fun K g=>?_
     simp(disch:=omega) only[kd,aa,e4];refine g _ ⟨⟨rfl,(zj 0 0 _ _ _ _ _ _ _).symm⟩,?_⟩;clear g K;intro K g;simp(disch:=omega) only[kd,aa,CO,cwD,srP,qy,oJ,ag,afv,j5];apply g;clear g K;show eF _ _ _ _ _ _ _;refine tD (k:=?_);refine⟨⟨0+1,C++W,by omega,w⟩,by simp only;omega,(qI rfl).trans (ak ⟨rfl,trivial⟩ ?_),trivial⟩;simp[wk]
    have s:(x=0)=False:=eq_false b;simp only[ah4,s,decide_false]at Y;refine iF 9 Y 0 [] [] (by kernel_rfl) (by omega) (by decide) fun K g=>?_
    simp(disch:=omega) only[kd,aa,e4,s];refine g _ ⟨⟨rfl,(zj 0 0 _ _ _ _ _ _ _).symm⟩,?_⟩;clear g K;intro K g;simp(disch:=omega) only[kd,aa,CO,cwD,srP,qy,oJ,ag,afv,j5];apply g;clear g K;show eF _ _ _ _ _ _ _;refine tD (k:=?_);refine⟨⟨x+1,C++W,by omega,w⟩,by simp only;omega,(qI rfl).trans (ak ⟨rfl,trivial⟩ ?_),trivial⟩;simp[wk]
 rw[lP hx,agJ,afz]at w;subst w;refine aR (bU (k:=dO rfl (gV ?_)));show _/\_;refine⟨.inl rfl,trivial,_,ak (tm:=(jk::jk::jk::.one (.ptr 0 1 0 0)::.one (.ptr 0 2 0 0)::.one (.ptr 0 0 0 0)::.one (.ptr 0 6 0 0)::.one (.ptr 0 4 0 0)::j16 (j16 (j16 (j16 (j16 (j16 (j16 (jk::jk::jk::[]))))))))) (l:=[(0,Ie 0 n (k+1) y D M C ex)]) ⟨rfl,trivial⟩ (by simp[wk]),⟨eZ _,rfl⟩,by simp⟩
end
end
end Go.Proofs.YtalmoejhjceflaaGreat
