/-
  Part 45 of a proof (walks and plain facts).
-/
import Derived.Test.YtalmoejhjceflaaGreatQ41
set_option linter.all false
set_option maxRecDepth 100000
set_option maxHeartbeats 64000000
open List renaming replicate → ae
namespace Go.Proofs.YtalmoejhjceflaaGreat
open Go.RowKit
variable {n:Nat} {s:AS} {b:Oper} {c:Array Oper} {e:List TV} {f:FuncId} {g:OH} {h:TV}
section
/-! Operation m as a call without arguments. -/
def uo (o:Oper):Oper:={o with op:= .call {callee:= .value (.func 0),args:= #[],argTypes:= #[]}}
def BL:Nat->List Oper->List Oper
 |_,[]=>[]
 |0,o::l=>uo o::l
 |m+1,o::l=>o::BL m l
def pE (b:Array Oper) (m:Nat):Array Oper:=⟨BL m b.toList⟩
theorem GZ: ∀(m:Nat) (l:List Oper) (i:Nat),(BL m l)[i]?=if i=m then(l[i]?).map uo else l[i]?
 |m,[],i=>by simp[BL]
 |0,o::l,0=>rfl
 |0,o::l,i+1=>by simp[BL]
 |m+1,o::l,0=>by simp[BL]
 |m+1,o::l,i+1=>by simp[BL,GZ m l i]
theorem G0: ∀(m:Nat) (l:List Oper),(BL m l).length=l.length
 |m,[]=>by simp[BL]
 |0,o::l=>rfl
 |m+1,o::l=>by simp[BL,G0 m l]
section
variable {P:Program} {ops:Array Oper} {m:Nat} {s:AS}
theorem mz (i:Nat):(pE ops m)[i]?=if i=m then(ops[i]?).map uo else ops[i]?:=by
 have:=GZ m ops.toList i;simpa[pE] using this
theorem Su:(pE ops m).size=ops.size:=by simp[pE,G0]
theorem Wf (g:Nat):((pE ops m)[g]?).bind (·.dst)=(ops[g]?).bind (·.dst):=by
 rw[mz];split
 ·cases ops[g]?<;>rfl
 rfl
theorem FR {c:List (cG P)} {e:List Nat} {i:Nat}:be P c e (pE ops m) i b s=be P c e ops i b s:=by
 unfold be;simp only[Wf]
theorem C1 {b:Array Bool} {i:Nat}:i∈Region.ready .any (pE ops m) b↔i∈Region.ready .any ops b:=by
 constructor
 ·intro h;obtain⟨f,o,c,g⟩:=mem_ready.1 h;rw[mz]at c;split at c
  ·obtain⟨l,j,rfl⟩:=acf.1 c;exact mem_ready.2 ⟨f,l,j,g⟩
  exact mem_ready.2 ⟨f,o,c,g⟩
 intro h;obtain⟨f,o,c,g⟩:=mem_ready.1 h;by_cases e:i=m
 ·exact mem_ready.2 ⟨f,uo o,by rw[mz,if_pos e,c];rfl,g⟩
 exact mem_ready.2 ⟨f,o,by rw[mz,if_neg e];exact c,g⟩
theorem QL {Qn:Act->World->Prop} {Wp:Nat->(Act->World->Prop)->Act->World->Prop}: ∀f,tI (pE ops m) Qn Wp f=tI ops Qn Wp f:=by
 have c: ∀b,Region.ready .any (pE ops m) b=[]↔Region.ready .any ops b=[]:=fun b=>by
  simp only[afq,C1]
 intro f
 induction f with
 |zero=>funext l a w;simp only[tI,c]
 |succ f e=>funext l a w;simp only[tI,c,C1,e]
/-! What some slots and families hold. -/
def vF (rd b:List Nat) (s c:AS):Prop:=(∀k∈rd,c.tmps[k]?=s.tmps[k]?)/\ ∀x∈b,c.H x=s.H x
def Mg (rd b:List Nat) (o:Oper):Bool:=noD o.op&&(rd.all fun k=>o.dst !=some k)&&b.all fun k=>o.dst !=some k
variable {items:List (cG P)} {ow:List Nat} {rd fas:List Nat} {sep:List (Nat×Nat×Nat)}
theorem Oc {i:Nat} {v:AS} (h:Mg rd fas b=true) (u:be P items ow ops i b s=some v):vF rd fas s v:=by
 unfold Mg at h;simp only[acN,acr,bne_iff_ne,ne_eq]at h;obtain⟨⟨w,p⟩,y⟩:=h;rw[bT]at u;obtain⟨out,c,f⟩:=acG.1 u;cases out with
 |val t=>
  simp only[ck]at f;injection f with f
  subst f;exact⟨fun k n=>nG s _ t k fun e j g=>p k n (by rw[j,g]),fun x _=>by rw[gP]⟩
 |new t A l=>
  simp only[ck]at f;split at f
  ·rename_i d r;split at f
   ·injection f with f
    subst f;exact⟨fun k n=>nG ⟨s.tmps,_⟩ _ t k fun e j g=>p k n (by rw[r,j,g]),fun x z=>by
     rw[gP];exact aM fun e=>y x z (by rw[r,e])⟩
   cases f
  cases f
 |wr q=>
  exfalso;unfold dv at c;split at c
  ·unfold mB at c;split at c
   ·obtain⟨_,_,h⟩:=acf.1 c;cases h
   split at c
   ·obtain⟨_,_,h⟩:=acf.1 c;cases h
   rw[Al w]at c;simp only at c;split at c
   ·cases c
   unfold OU at c;split at c<;>cases c
  ·cases c
  cases c
theorem ri (D:Nq P sep ops) (A:bZ sep ops=true) {L:AS} (G:Lu sep L) {p:Nat->Bool} (E:Dr ops p) (h:cY P items ow ops (mU ops.size p) L=some s): ∀(N b:Nat) (c:Nat->Bool),b+N=ops.size->(∀j,j<b->p j=true->c j=true)->Dr ops c->(∀j,c j=true->p j=true)->
  (∀(i:Nat) o,ops[i]?=some o->p i=true->c i=false->Mg rd fas o=true)-> ∃V,cY P items ow ops (mU ops.size c) L=some V/\vF rd fas V s
 |0,b,c,X,q,_,z,_=>by
  refine⟨s,?_,fun _ _=>rfl,fun _ _=>rfl⟩;have e:mU ops.size c=mU ops.size p:=aeW fun j n=>by
   have n:=acV.1 n;cases H:p j with
   |true=>exact q j (by omega) H
   |false=>
    cases l:c j with
    |false=>rfl
    |true=>rw[z j l]at H;cases H
  rw[e];exact h
 |N+1,b,c,X,q,B,z,C=>by
  have t:b<ops.size:=by omega
  have R:ops[b]?=some ops[b]:=by simp[t]
  by_cases w:p b=true/\c b=false
  ·obtain⟨K,U⟩:=w;have F:Dr ops (dH c b):=DN B fun o v e O r=>q _ ((nn A).1 b o v e O r) (E b o v K e O r)
   obtain⟨s2,W,M⟩:=ri D A G E h N (b+1) (dH c b) (by omega) (fun j n g=>by
    by_cases f:j=b
    ·simp[dH,f]
    ·simp[dH,q j (by omega) g]) F (fun j n=>by
    by_cases f:j=b
    ·rw[f];exact K
    ·have u:(j==b)=false:=by simpa using f
     exact z j (by simpa[dH,u] using n)) (fun i o Y I y=>by
    have:c i=false:=by
     cases h:c i with
     |false=>rfl
     |true=>simp[dH,h]at y
    exact C i o Y I this)
   obtain⟨sm,Z,J⟩:=A3 D A B t U G W;unfold dB at J;rw[R]at J;have T:=Oc (C b _ R K U) J;exact⟨sm,Z,fun k Q=>(M.1 k Q).trans (T.1 k Q),fun x S=>(M.2 x S).trans (T.2 x S)⟩
  refine ri D A G E h N (b+1) c (by omega) (fun j n g=>?_) B z C;by_cases f:j=b
  ·subst f;cases l:c j with
   |true=>rfl
   |false=>exact absurd ⟨g,l⟩ w
  exact q j (by omega) g
theorem Rt {e:List (cG P)} {i d:Nat} {ev:Operand->Option TV} {op:Op} (h:items.find? (·.i==i)=e.find? (·.i==i)):cB P items ow i d ev g op=cB P e ow i d ev g op:=by
 cases op with
 |call c=>
  obtain⟨callee,args,j⟩:=c;cases callee with
  |value f=>cases f<;>simp only[cB,h]
  |invoke r m=>simp only[cB]
  |builtin b=>cases b<;>simp only[cB]
 |_=>simp only[cB]
theorem FQ {c:List (cG P)} {i:Nat} (h:items.find? (·.i==i)=c.find? (·.i==i)):be P items ow ops i b s=be P c ow ops i b s:=by
 unfold be dY;simp only[Rt h]
def EF (ops:Array Oper) (m:Nat):List Nat:=match ops[m]? with
 |some o=>o.op.operands.toList.filterMap fun| .tmp k=>some k|_=>none
 |none=>[]
def Sw (ops:Array Oper) (m z:Nat) (fas:List Nat):Bool:=decide (m<z)&&(bZ [] (lG (pE ops m) z)&&((match ops[m]? with|some o=>o.guard.isNone&&o.dst.isSome|none=>false)&&
 ((z==ops.size||(z+1==ops.size&&(List.range z).all fun i=>((pz (lG (pE ops m) z).toList []).getD z 0).testBit i))&&
 (List.range z).all fun i=>i==m||(if i<m then((pz (lG (pE ops m) z).toList []).getD m 0).testBit i else((pz (lG (pE ops m) z).toList []).getD i 0).testBit m)||(match ops[i]? with|some o=>Mg (EF ops m) fas o|none=>true))))
end
section
variable {P:Program} {a:Act} {w0 w:World} {O X Y:Nat->Prop} {ks:List Nat}
theorem Gm {R1 R2:AS->Act->World->Prop} (M1:BY ks R1) (b5:P.follows .mixedOrders=true) (b:List (aq P)) (t:List Nat) (m z:Nat) (D:List Nat) (x:PV) {id:Nat} (hk:dK ks c=true) (hE:Sw c m z D=true) {s1 N s3:AS} (h1:gB P (b.map aq.a) t c ((c.toList.take m).zipIdx 0) s=some s1) (bt: ∀s',vF (EF c m) D s1 s'->mZ s'->yG P c m (R1 s') (R1 (s'.put (cwD c m) (.one (.p x))))) (h2:gB P (b.map aq.a) t c (((c.toList.take z).drop (m+1)).zipIdx (m+1)) (s1.put (cwD c m) (.one (.p x)))=some N) (S:z<c.size->yG P c z (R1 N) (R2 s3)) (bh:z=c.size-> ∀a w,R1 N a w->R2 s3 a w) {Q:Exit->Act->World->Prop} (E:R1 s a w) (hQ: ∀a' L,R2 s3 a' L->Q .normal a' L):(Code.region id c true).wp P Q a w:=by
 simp only[Sw,acN,decide_eq_true_eq,acr,acV]at hE;obtain⟨cA,hd,al,A,bw⟩:=hE;rw[aeg,beq_iff_eq,acN,beq_iff_eq,acr]at A;have cC:z<=c.size/\c.size<=z+1:=by rcases A with h|h<;>omega
 have ad:m<c.size:=by omega
 obtain⟨o,M⟩: ∃o,c[m]?=some o:=⟨c[m],by simp[ad]⟩;rw[M]at al;simp only[acN]at al;obtain⟨hg,V⟩:=al;obtain⟨d,V⟩:=af1.1 V;have hg:o.guard=none:=by simpa using hg
 have b0:cwD c m=some d:=by unfold cwD;rw[M];exact V
 rw[b0]at bt h2;have b4:(c.toList.take m).length=m:=by rw[acY];simp;omega
 let y:cG P:=⟨m,0,[],⟨[],.one (.p x)⟩⟩
 have ah: ∀i,i≠m->(y::b.map aq.a).find? (·.i==i)=(b.map aq.a).find? (·.i==i):=fun i R=>by
  have:(y.i==i)=false:=by simpa[y] using aed R
  rw[agi,this]
 have u: ∀i,i≠m->i≠z->(lG (pE c m) z)[i]?=c[i]?:=fun i h1 h2=>by rw[lf,if_neg h2,mz,if_neg h1]
 have G: ∀(i:Nat) (o:Oper) (s:AS),i≠m->be P (y::b.map aq.a) t (lG (pE c m) z) i o s=be P (b.map aq.a) t c i o s:=fun i o s R=>by
  rw[pR,FR,FQ (ah i R)]
 have key: ∀(l:List Nat) (s:AS),(∀i∈l,i≠m/\i≠z)->cY P (y::b.map aq.a) t (lG (pE c m) z) l s=cY P (b.map aq.a) t c l s:=fun l=>by
  induction l with
  |nil=>intros;rfl
  |cons i l ih=>
   intro s hl;have R:=hl i (by simp);have e:dB P (y::b.map aq.a) t (lG (pE c m) z) i s=dB P (b.map aq.a) t c i s:=by
    unfold dB;rw[u i R.1 R.2];simp only[G i _ _ R.1]
   simp only[cY,e];cases dB P (b.map aq.a) t c i s with
   |none=>rfl
   |some N=>exact ih N fun j f=>hl j (by simp[f])
 have ae:cY P (y::b.map aq.a) t (lG (pE c m) z) (List.range m) s=some s1:=by
  have:=gJ (P:=P) (items:=b.map aq.a) (ow:=t) (c.toList.take m) 0 s (fun j o f=>by
   rw[adm]at f;split at f
   ·simpa using f
   cases f)
  rw[h1,b4,<- acK]at this;rw[this];exact key _ _ fun i R=>by have:=acV.1 R;omega
 have bx:cY P (y::b.map aq.a) t (lG (pE c m) z) (List.range' (m+1) (z-m-1)) (s1.put (some d) (.one (.p x)))=some N:=by
  have:=gJ (P:=P) (items:=b.map aq.a) (ow:=t) (ops:=c) ((c.toList.take z).drop (m+1)) (m+1) (s1.put (some d) (.one (.p x))) (fun j o f=>by
   rw[adq,adm]at f;split at f
   ·simpa using f
   cases f)
  rw[h2,aea,acY,afE,show min z c.size-(m+1)=z-m-1 by omega]at this;rw[this];exact key _ _ fun i R=>by have:=List.mem_range'_1.1 R;omega
 have bc:(lG (pE c m) z)[m]?=some (uo o):=by rw[lf,if_neg (by omega),mz,if_pos rfl,M];rfl
 have ac: ∀s:AS,be P (y::b.map aq.a) t (lG (pE c m) z) m (uo o) s=some (s.put (some d) (.one (.p x))):=fun s=>by
  unfold be;rw[show(uo o).guard=none from hg];show dY P _ t m (uo o) s=_;have b1:(y::b.map aq.a).find? (·.i==m)=some y:=by
   rw[agi,show(y.i==m)=true by simp[y]]
  have hA:cB P (y::b.map aq.a) t m d s.ev s.H (uo o).op=some (.one (.p x),[]):=by
   simp only[uo,cB,b1,fz];simp[y,CallRes.plain,renTV,b6,noRefTV,gO]
  unfold dY;rw[show(uo o).dst=some d from V];simp only[show pF (uo o).op=false from rfl,show Bw (uo o).op=false from rfl,show iv P s.ev s.H (uo o).op=none from rfl,hA,ada,if_false]
 have g:(lG (pE c m) z).size=c.size:=by rw[kq,Su]
 have a4:cY P (y::b.map aq.a) t (lG (pE c m) z) (List.range z) s=some N:=by
  have cm:List.range z=List.range m++m::List.range' (m+1) (z-m-1):=by
   have h1:=ac7 (s:=0) (m:=m) (n:=z-m-1+1);rw[show m+(z-m-1+1)=z by omega,acQ,acW]at h1;rw[acK,acK];exact h1.symm
  rw[cm,i6,ae];simp only[aeb,cY];unfold dB;rw[bc];simp only;rw[ac];exact bx
 have U: ∃sF,cY P (y::b.map aq.a) t (lG (pE c m) z) (List.range (lG (pE c m) z).size) s=some sF/\(z=c.size->sF=N):=by
  rw[g];rcases A with e|⟨e,_⟩
  ·exact⟨N,by rw[<- e];exact a4,fun _=>rfl⟩
  obtain⟨ol,aa,an,_⟩:=S (by omega);have af:(lG (pE c m) z)[z]?=some (zC ol):=by rw[lf,if_pos rfl,mz,if_neg (by omega),aa];rfl
  have hl:be P (y::b.map aq.a) t (lG (pE c m) z) z (zC ol) N=some (N.put ol.dst (.raw (.bool false))):=by
   unfold be;rw[show(zC ol).guard=none from an];rfl
  refine⟨N.put ol.dst (.raw (.bool false)),?_,fun h=>by omega⟩;rw[<- e,ade,i6,a4];simp only[aeb,cY];unfold dB;rw[af];simp only;rw[hl];rfl
 obtain⟨sF,U,cp⟩:=U;refine(wpIn_wide (n:=0)).1 (wpIn_region_any (F:=FW none) b5 ?_);have cl:R1 s a {w with drawn:=w.drawn+1}:=by
  obtain⟨wa,Oa,Xa,⟨q1,q2,ρ,bl,a3⟩,ka⟩:=M1 s a w E;have e:Ext w {w with drawn:=w.drawn+1}:=⟨rfl,rfl,rfl,acs _,fun _ _=>rfl⟩;have a3:bo Xa ρ s a w:=a3;exact ka _ _ _ (fun _ _=>rfl) ⟨q1,q2,ρ,bl.grow e,a3.grow e⟩
 have a0:mZ s:=by obtain⟨wa,Oa,Xa,r,_⟩:=M1 s a w E;exact fd r
 have hS:Nq P [] (lG (pE c m) z):=lZ hd (by simp);have a1:Lu [] s:=⟨a0,fun x hx=>by simp at hx⟩;rw[<- xS,<- QL (m:=m),<- FX (m:=z)];refine og (sep:=[]) hS hd (fun p s a w=>if(decide (z<c.size)&&p z)=true then R2 s3 a w else R1 s a w) a1 U (fun p a w a8 E=>?_) (fun p i o' s' cv a w K q T bR hs E hK=>?_) c.size (Array.replicate c.size false) s a _ (by simp[g]) ?_ ?_ ?_ ?_
 ·by_cases J:z<c.size
  ·rw[if_pos (by rw[a8 z (by rw[g];exact J)];simpa using J)]at E;exact hQ a w E
  rw[if_neg (by simp[J]),cp (by omega)]at E;exact hQ a w (bh (by omega) a w E)
 ·obtain⟨hc,a9,C⟩:=bR;have av:i<c.size:=by have:=(acB.1 q).1;rwa[g]at this
  by_cases bm:i=z
  ·subst bm;have ab:dH p i i=true:=by simp[dH]
   obtain⟨ol,aa,an,br⟩:=S av;have af:(lG (pE c m) i)[i]?=some (zC ol):=by rw[lf,if_pos rfl,mz,if_neg (by omega),aa];rfl
   rw[af]at q;injection q with q
   subst q;have cr:mU (lG (pE c m) i).size p=List.range i:=uR (by rw[g];omega) (fun j f=>by
    have:=jh a9 (i+1) i (by omega) (by rw[g];exact av) ab ((A.resolve_left (by omega)).2 j (acV.2 f));have B:(j==i)=false:=by simp;omega
    simpa[dH,B] using this) (fun j b2 cy=>by
    rw[g]at b2;rw[show j=i by omega];exact T)
   rw[cr,a4]at C;injection C with C
   subst C;rw[T,Bool.and_false,if_neg (by decide)]at E;unfold wpOpIn;rw[aa];simp only;rw[if_pos (by simp[Region.wanted,an])];exact br a w K Q E fun v L h2=>hK v L (by rw[if_pos (by rw[ab];simpa using av)];exact h2)
  have I:(decide (z<c.size)&&p z)=false:=by
   by_cases J:z<c.size
   ·cases I:p z with
    |false=>simp
    |true=>
     have:=jh hc (z+1) z (by omega) (by rw[g];exact J) I ((A.resolve_left (by omega)).2 i (acV.2 (by omega)));rw[T]at this;cases this
   simp[J]
  have ct:(z==i)=false:=by simp;omega
  have cg:(decide (z<c.size)&&dH p i z)=false:=by simpa only[dH,ct,agD,Bool.false_or] using I
  rw[I,if_neg (by decide)]at E;have a7: ∀v L,R1 cv (a.put o'.dst v) L->K (a.put o'.dst v) L:=fun v L h=>hK v L (by rw[cg,if_neg (by decide)];exact h)
  by_cases ap:i=m
  ·subst ap;rw[bc]at q;injection q with q
   subst q;rw[ac]at hs;injection hs with hs
   subst hs;have ag:=(nn hd).1;have ba:Dr (lG (pE c i) z) (fun j=>decide (j<i)):=fun j o M f e he hb=>by
    have:=ag j o M e he hb;simp only[decide_eq_true_eq]at f⊢;omega
   have bb:Dr (lG (pE c i) z) (fun j=>p j&&decide (j<i)):=fun j o M f e he hb=>by
    simp only[acN]at f⊢;exact⟨hc j o M f.1 e he hb,ba j o M f.2 e he hb⟩
   have cc:cY P (y::b.map aq.a) t (lG (pE c i) z) (mU (lG (pE c i) z).size fun j=>decide (j<i)) s=some s1:=by
    rw[uR (m:=i) (by rw[g];omega) (fun j f=>by simpa using f) (fun j _ f=>by simpa using f)];exact ae
   obtain⟨sc,g1,g2⟩:=ri (rd:=EF c i) (fas:=D) hS hd a1 hc C (lG (pE c i) z).size 0 (fun j=>p j&&decide (j<i)) (by omega) (fun j f=>by omega) bb (fun j f=>by simp only[acN]at f;exact f.1) (fun j o' f hp hn=>by
    have B:j≠i:=fun e=>by rw[e,T]at hp;cases hp
    have bp:=(acB.1 f).1;rw[g]at bp;have b3:j≠z:=fun e=>by rw[<- e]at I;simp[bp,hp]at I
    rw[u j B b3]at f;have k2:=(acB.1 f).1;have W: ¬j<i:=fun h=>by simp[hp,h]at hn
    have:=bw j (by omega);rw[if_neg W,f]at this;simp only[aeg,beq_iff_eq,B,false_or]at this;rcases this with this|this
    ·have:=jh hc (j+1) j (by omega) (by rw[g];exact k2) hp this;rw[T]at this;cases this
    exact this)
   obtain⟨cD,a5,a6⟩:=ri (rd:=EF c i) (fas:=D) hS hd a1 ba cc (lG (pE c i) z).size 0 (fun j=>p j&&decide (j<i)) (by omega) (fun j f=>by omega) bb (fun j f=>by simp only[acN]at f;exact f.2) (fun j o' f hp hn=>by
    have W:j<i:=by simpa using hp
    have B:j≠i:=by omega
    rw[u j B (by omega)]at f;have ci:p j=false:=by simpa[W] using hn
    have:=bw j (by omega);rw[if_pos W,f]at this;simp only[aeg,beq_iff_eq,B,false_or]at this;rcases this with this|this
    ·have:=jh a9 (i+1) i (by omega) (by rw[g];exact ad) (by simp[dH]) this;have bn:(j==i)=false:=by simpa using B
     simp[dH,ci,bn]at this
    exact this)
   rw[g1]at a5;injection a5 with e
   subst e;have a2:vF (EF c i) D s1 s':=⟨fun k hk=>(g2.1 k hk).trans (a6.1 k hk).symm,fun x hx=>(g2.2 x hx).trans (a6.2 x hx).symm⟩;have bq:mZ s':=by obtain⟨wa,Oa,Xa,r,_⟩:=M1 s' a w E;exact fd r
   obtain⟨o2,Z,cx,cs⟩:=bt s' a2 bq;rw[M]at Z;injection Z with Z
   subst Z;unfold wpOpIn;rw[M];simp only;rw[if_pos (by simp[Region.wanted,hg])];exact cs a w K Q E fun v L h2=>a7 v L h2
  rw[u i ap bm]at q;rw[G i _ _ ap]at hs;obtain⟨wa,Oa,Xa,ra,ka⟩:=M1 _ _ _ E;exact yl q hs ra fun v L r'=>a7 v L (ka _ _ _ (nr hk q v) r')
 ·intro j o M hp;have f:j<c.size:=by have:=(acB.1 M).1;rwa[g]at this
  simp[f]at hp
 ·exact acl (aey _ _) (by simp[g])
 ·have:mU (lG (pE c m) z).size (fun j=>(Array.replicate c.size false).getD j true)=[]:=by
   unfold mU;rw[aeo];intro j f;have:=acV.1 f;rw[g]at this;simp[this]
  rw[this];rfl
 rw[if_neg (by by_cases h:z<c.size<;>simp[h])];exact cl
def P5 (c:Nat) (F:List OObj) (t u:TV):Prop:=(AA t=true/\u=t)\/(∃r b len o,t= .one (.sl c r b len)/\F[r]?=some o/\eB o/\u= .one (.p (.sl (((o.elems.take (b+len)).drop b).map (List.map yu)))))\/
 ∃r i j o e,t= .one (.ptr c r i j)/\F[r]?=some o/\o.elems[i]?=some e/\(∀x∈e,isPure x=true)/\u= .one (.p (.ptr ((e.drop j).map yu)))
def Dm (b:Nat) (F:List OObj):List TV->List TV->Prop
 |[],[]=>True
 |t::c,u::e=>P5 b F t u/\Dm b F c e
 |_,_=>False
theorem Cl {f:Nat} {F:List OObj}: ∀{c e:List TV},Dm f F c e->e.length=c.length/\ ∀(j:Nat) u,e[j]?=some u-> ∃t,c[j]?=some t/\P5 f F t u
 |[],[],_=>⟨rfl,fun j u h=>by simp at h⟩
 |t::c,u::e,⟨m,n⟩=>by
  obtain⟨g,l⟩:=Cl n;refine⟨by simp[g],fun j v b=>?_⟩
  match j,b with
  |0,b=>exact⟨t,rfl,by simp at b;subst b;exact m⟩
  |j+1,b=>exact l j v (by simpa using b)
 |[],_::_,h=>h.elim
 |_::_,[],h=>h.elim
variable {ρ:Rho} {s:AS}
theorem Ja {Y:Nat->Prop} (z: ∀(x r:Nat) (o:OObj),(g x)[r]?=some o->objRel ρ g Y w x r o) {u:TV} (f:P5 n (g n) h u) {v:Value} (F:h.rel ρ g Y w v):u.rel (fun _ _=>none) (fun _=>[]) (fun _=>False) w v:=by
 have l: ∀x u,isPure x=true->AV.rel ρ g Y w x u->bS (fun _=>False) w (yu x) u:=fun x u E f=>by
  cases x<;>first|exact bS.weaken (fun _ _ f=>f.elim) f|cases E
 rcases f with⟨E,rfl⟩|⟨r,N,len,o,rfl,y,p,rfl⟩|⟨r,i,j,o,e,rfl,y,D,p,rfl⟩
 ·exact xm E F
 ·exact qU (z n r o y) y (fun e D x m u M=>l x u (p e D x m) M) (fun _ _ _ f=>f) F
 obtain⟨T,b,c,C,L,S,rfl⟩:=F;rw[y]at C;injection C with C
 subst C;obtain⟨Z,q2,J⟩:=z n r o y;rw[L]at J;obtain⟨cells,I,U,V,W,Q⟩:=J;have q: ∀(k:Nat) x,((e.drop j).map yu)[k]?=some x-> ∃u:Value,cells[i*o.es+(j+k)]?=some u/\bS (fun _=>False) w x u:=fun k x m=>by
  rw[ach,adq]at m;obtain⟨G,A,rfl⟩:=acf.1 m;obtain⟨u,B,K,R⟩:=Q i e (j+k) G D A;exact⟨u,B,l G u (p G (acd A)) R⟩
 refine bS.ptr b (i*o.es+j) _ (fun k=>(cells[i*o.es+(j+k)]?).getD undef) (fun f=>f) (acB.1 I).1 (fun k x m=>?_) (fun k x m=>?_)
 ·obtain⟨u,B,_⟩:=q k x m;rw[cell_of_row _ b _ cells o.ty (0,0) I,show i*o.es+j+k=i*o.es+(j+k) by omega,B];rfl
 obtain⟨u,B,K⟩:=q k x m;simp only[B,ads];exact K
theorem Tc (ae:dq w0 O X s a w) (p:r9 b s=some (f,e)) {args:List TV} {res:CallRes} (D:CallC P f args res) (E:rh res) {fa d:Nat} (V:Dm fa (s.H fa) e args) (hd:s.H d=[]) (W:b.dst=some d) {K:Act->World->Prop} {Q:Exit->Act->World->Prop} (hK: ∀v w',dq w0 O X (jJ s d (renTV d res.r) (res.fam.map (renO d))) (a.put b.dst v) w'->K (a.put b.dst v) w'):b.wp P a w K Q:=by
 obtain⟨h1,ag,ρ,q,A⟩:=ae;have A:bo X ρ s a w:=A;obtain⟨q1,q2⟩:=Cl V;have J: ∀j,Xo X ρ s.H j->j<w.heap.size:=fun g R=>by
  rcases R with R|⟨x,y,o',n,g1,g2⟩
  ·exact q.bar g R
  exact bz (q.objs x y o' g1) g2
 have post: ∀v B m,Inv w (fun _=>False) (fun _=>False) (famH 0 res.fam) m B->res.r.rel m (famH 0 res.fam) (Xo (fun _=>False) m (famH 0 res.fam)) B v->dq w0 O X (jJ s d (renTV d res.r) (res.fam.map (renO d))) (a.put (some d) v) B:=fun v B m F hr=>by
  have Z: ∀(x r:Nat) b,(famH 0 res.fam x)[r]?=some b->b∈res.fam:=fun x r b G=>by
   unfold famH at G;split at G
   ·exact acd G
   simp at G
  have ab: ∀{Y Y':Nat->Prop} (x r:Nat) b,b∈res.fam->objRel m (famH 0 res.fam) Y B x r b->objRel m (famH 0 res.fam) Y' B x r b:=fun{Y Y'} x r b hmem hob=>by
   obtain⟨z1,z2,z3⟩:=hob;refine⟨z1,z2,?_⟩;cases ad:m x r with
   |none=>rw[ad]at z3;exact z3
   |some bc=>
    obtain⟨g,n⟩:=bc;rw[ad]at z3;obtain⟨cells,p1,p2,p3,p4,p5⟩:=z3;refine⟨cells,p1,p2,p3,p4,fun i l j z he hz=>?_⟩;obtain⟨u,u1,u2,u3⟩:=p5 i l j z he hz;exact⟨u,u1,u2,nM (E.2 b hmem l (acd he) z (acd hz)) u3⟩
  by_cases I:res.plain=true
  ·exact kn (P:=P) (it:=(⟨0,f,args,res⟩:cG P)) (d:=d) (v:=v) (w1:=B) (ρc:=m) h1 ag q A rfl rfl (fun _=>hd) (by rw[if_pos I];exact F) (by rw[if_pos I];exact hr)
  have av:Inv w (fun _=>False) (Xo X ρ s.H) (famH 0 res.fam) m B:=
   ⟨F.keep,fun x r b G=>ab x r b (Z x r b G) (F.objs x r b G),F.inj,fun x r b g c G R=>by
    have:=F.old x r b g c G R;refine⟨this.1,fun hX=>?_⟩;rcases this.1 with h|h
    ·have:=J g hX;omega
    exact h,fun g R=>acp (J g R) F.keep.size,F.self⟩
  exact kn (P:=P) (it:=(⟨0,f,args,res⟩:cG P)) (d:=d) (v:=v) (w1:=B) (ρc:=m) h1 ag q A rfl rfl (fun _=>hd) (by rw[if_neg I];exact av) (by rw[if_neg I];exact sY E.1 hr)
 have key: ∀vs:Array Value,(execOp a.eval b).run P w= .ok (.enter f vs) w->vs.size=args.length->(∀(j:Nat) t,e[j]?=some t-> ∃v:Value,vs[j]?=some v/\t.rel ρ s.H (Xo X ρ s.H) w v)->b.wp P a w K Q:=fun vs af a1 N=>by
  unfold Oper.wp;rw[af];simp only[Oper.upon];refine(D.2 (fun _=>False) w vs (fun j hj=>hj.elim) a1 fun j u hu=>?_).mono ?_
  ·obtain⟨t,L,an⟩:=q2 j u hu;obtain⟨v,v1,v2⟩:=N j t L;exact⟨v,v1,Ja q.objs an v2⟩
  rintro l B ⟨v,rfl,m,F,hr⟩;have:=post v B m F hr;rw[W]at hK⊢;exact hK v B this
 unfold r9 at p;split at p
 ·rename_i c ac;split at p
  ·rename_i f' C;obtain⟨ah,S,l⟩:=acf.1 p;injection l with l e'
   subst l e';obtain⟨M,e2⟩:=bP S;have T:c.args.size=args.length:=by rw[q1];simpa using M.symm
   refine key _ (fW ac C rfl D.1) (by simp[T]) fun j t L=>?_
   obtain⟨y,hy,U⟩:=e2 j t L;refine⟨a.eval y,?_,bv A y _ U⟩;rw[adp];have:c.args[j]?=some y:=by simpa using hy
   rw[this];rfl
  ·rename_i k C;split at p
   ·rename_i f' al ah ap S;injection p with p
    injection p with l e'
    subst l e';obtain⟨M,e2⟩:=bP S;obtain⟨us,k1,k2,k3⟩:=lD (v:=a.eval (.tmp k)) (fun t0 a0=>bv A (.tmp k) t0 a0) ap;have aa:args.length=c.args.size+us.size:=by rw[q1,acJ,M,k2,afE]
    refine key _ (lL ac C k1 D.1) (by simp[aa]) fun j t L=>?_
    by_cases hj:j<ah.length
    ·rw[acx hj]at L;obtain⟨y,hy,U⟩:=e2 j _ L;refine⟨a.eval y,?_,bv A y _ U⟩;rw[ac8 (by simp at M⊢;omega),adp];have:c.args[j]?=some y:=by simpa using hy
     rw[this];rfl
    rw[acD (by omega)]at L;obtain⟨v,v1,v2⟩:=k3 _ _ L;refine⟨v,?_,v2⟩;rw[ady (by simp at M⊢;omega)];simp at M⊢;rw[<- M];exact v1
   cases p
  cases p
 cases p
theorem R4 {r e:Nat} {F:TypeId} {f:List (List AV)} (C:dq w0 O X s a w) (B:(s.H n)[r]?=some ⟨F,1,ae e [AV.junk]++f⟩): ∃vs:List Value,vs.length=e/\dq w0 O X ⟨s.tmps,aF s.H n ((s.H n).set r ⟨F,1,vs.map (fun v=>[AV.p (.raw v)])++f⟩)⟩ a w:=by
 obtain⟨K,D,ρ,l,z⟩:=C;have z:bo X ρ s a w:=z;obtain⟨U,q2,E⟩:=id (l.objs n r _ B);cases I:ρ n r with
 |none=>
  rw[I]at E;simp only[List.append_eq_nil_iff,List.replicate_eq_nil_iff]at E;obtain⟨rfl,rfl⟩:=E;refine⟨[],rfl,?_⟩;have:(s.H n).set r ⟨F,1,[].map (fun v=>[AV.p (.raw v)])++[]⟩=s.H n:=by
   apply acz;intro i;rw[adj];split
   ·rename_i m;subst m;rw[if_pos (aci.1 B).1,B];rfl
   rfl
  rw[this,show aF s.H n (s.H n)=s.H from funext fun x=>by unfold aF;split<;>simp_all];exact⟨K,D,ρ,l,z⟩
 |some N=>
  obtain⟨p,c⟩:=N;rw[I]at E;obtain⟨cells,T,Z,p3,p4,L⟩:=E;have G:(ae e [AV.junk]).length=e:=by simp
  refine⟨(List.range e).map fun i=>(cells[i]?).getD undef,by simp,?_⟩;have o: ∀(i:Nat) g,((((List.range e).map fun i=>(cells[i]?).getD undef).map (fun v=>[AV.p (.raw v)])++f:List (List AV)))[i]?=some g->(i<e/\g=[.p (.raw ((cells[i]?).getD undef))])\/(e<=i/\f[i-e]?=some g/\(ae e [AV.junk]++f)[i]?=some g):=fun i g y=>by
   by_cases m:i<e
   ·rw[acx (by simpa using m)]at y;simp[m]at y;exact .inl ⟨m,y.symm⟩
   rw[acD (by simpa using af4 m)]at y;simp only[ac0,aeG]at y;exact .inr ⟨by omega,y,by rw[acD (by omega),G];exact y⟩
  obtain⟨R,S⟩:=zU l (o':=⟨F,1,((List.range e).map fun i=>(cells[i]?).getD undef).map (fun v=>[AV.p (.raw v)])++f⟩) B I T rfl rfl (by simp) (fun g A=>by
   obtain⟨i,m⟩:=adr.1 A;rcases o i g m with⟨_,rfl⟩|⟨_,_,h⟩
   ·rfl
   ·exact U g (acd h)) (fun g A x q=>by
   obtain⟨i,m⟩:=adr.1 A;rcases o i g m with⟨_,rfl⟩|⟨_,_,h⟩
   ·simp only[aco]at q;subst q;trivial
   ·exact l.self n r _ B g (acd h) x q) (fun i g j x y q=>by
   rcases o i g y with⟨m,rfl⟩|⟨_,_,h⟩
   ·have Q:j=0:=by
     cases j with
     |zero=>rfl
     |succ j=>simp at q
    subst Q;simp at q;subst q;obtain⟨u,J,M,_⟩:=L i [.junk] 0 .junk (by rw[acx (by omega)];simp[m]) rfl;simp only[afh,ac9]at J⊢;refine⟨u,J,M,?_⟩;rw[J];exact bS.raw u M
   exact L i g j x h q)
  exact⟨K,D,ρ,R,fun t x q=>by
   obtain⟨v,V,W⟩:=z t x q;exact⟨v,V,TV.rel_map W S⟩⟩
theorem VP {o:OH} {d:Nat} (q:g d=[]) (c:iA g h):fk o d h=h:=by
 have u: ∀x,gN g x->dP o d x=x:=fun x n=>by
  cases x with
  |p x=>rfl
  |junk=>rfl
  |sl b r y len=>
   have:b≠d:=fun e=>n (by rw[e];exact q)
   simp only[dP,if_neg this]
  |ptr b r i j=>
   have:b≠d:=fun e=>n (by rw[e];exact q)
   simp only[dP,if_neg this]
  |fn f b A=>
   have:b≠d:=fun e=>n.1 (by rw[e];exact q)
   simp only[dP,if_neg this]
 have m: ∀l:List AV,(∀x∈l,gN g x)->l.map (dP o d)=l:=fun l v=>by
  conv=>rhs;rw[<- adL l]
  exact acH fun x n=>u x (v x n)
 cases h with
 |one x=>simp only[fk,u x c]
 |agg l=>simp only[fk,m l c]
 |fn f l=>simp only[fk,m l c]
 |tup z=>
  simp only[fk]
  congr 1
  conv=>rhs;rw[<- adL z]
  exact acH fun x n=>by
   rw[m x.2 (c x n)];rfl
theorem Ql {d:Nat} {F:List OObj} {x:PV} (u:mZ s) (f:s.H d=[]) (g: ∀H:OH,H d=F->xG H d/\fk H d h= .one (.p x)):bJ (jJ s d h F) (s.put (some d) (.one (.p x))):=by
 have e:aF s.H d []=s.H:=funext fun y=>by
  unfold aF;split
  ·rename_i b;rw[b];exact f.symm
  rfl
 obtain⟨c,j,m,n⟩: ∃c:OH,jJ s d h F=⟨s.tmps.set d h,c⟩/\c d=F/\aF c d []=s.H:=by
  cases F with
  |nil=>exact⟨s.H,rfl,f,e⟩
  |cons o l=>
   refine⟨aF s.H d (o::l),rfl,aS,?_⟩;rw[<- e];funext y;unfold aF;split<;>rfl
 rw[j];obtain⟨f1,f2⟩:=g c m;have b:=bF (s:=⟨s.tmps.set d h,c⟩) d f1;simp only[n,agT,f2]at b;have q:s.tmps.map (fk c d)=s.tmps:=by
  conv=>rhs;rw[<- adL s.tmps]
  exact acH fun t v=>by
   obtain⟨k,r⟩:=adr.1 v;exact VP f (u.1 k t r)
 rw[q]at b;exact b
def Ya (P:Program) (f:FuncId) (e:List TV) (c d r n:Nat) (g:TypeId) (b:List (List AV)) (x:PV) (F:List OObj):Prop:= ∀vs:List Value,vs.length=n-> ∃args res,CallC P f args res/\rh res/\Dm c (F.set r ⟨g,1,vs.map (fun v=>[AV.p (.raw v)])++b⟩) e args/\
 ∀H:OH,H d=res.fam.map (renO d)->xG H d/\fk H d (renTV d res.r)= .one (.p x)
theorem Pm {d r g:Nat} {m:TypeId} {l:List (List AV)} {x:PV} (S:r9 b s=some (f,e)) (q:b.dst=some d) (hd:s.H d=[]) (L:n≠d) (t:(s.H n)[r]?=some ⟨m,1,ae g [AV.junk]++l⟩) (A:Ya P f e n d r g m l x (s.H n)):
  Du P b (dq w0 O X s) (dq w0 O X (s.put b.dst (.one (.p x)))):=fun a w K Q hr W=>by
 obtain⟨vs,I,D⟩:=R4 hr t;obtain⟨args,res,Z,u,z,M⟩:=A vs I;have J:AS.ev ⟨s.tmps,aF s.H n ((s.H n).set r ⟨m,1,vs.map (fun v=>[AV.p (.raw v)])++l⟩)⟩=s.ev:=funext fun y=>by cases y<;>rfl
 have E:r9 b ⟨s.tmps,aF s.H n ((s.H n).set r ⟨m,1,vs.map (fun v=>[AV.p (.raw v)])++l⟩)⟩=some (f,e):=by
  rw[<- S];unfold r9;simp only[J]
 have B:aF s.H n ((s.H n).set r ⟨m,1,vs.map (fun v=>[AV.p (.raw v)])++l⟩) d=[]:=by rw[aM (aed L)];exact hd
 refine lB (.inl rfl) (Tc D E Z u (fa:=n) (by simp only[aS];exact z) B q fun v w' r'=>W v w' ?_);have r3:=Ql (fd D) B M _ _ _ _ _ r';have R:=(aci.1 t).1;have hw:=n4 (s:=AS.put ⟨s.tmps,aF s.H n ((s.H n).set r ⟨m,1,vs.map (fun v=>[AV.p (.raw v)])++l⟩)⟩ (some d) (.one (.p x))) n r (o:=⟨m,1,vs.map (fun v=>[AV.p (.raw v)])++l⟩) (o':=⟨m,1,ae g [AV.junk]++l⟩) (by rw[gP];simp only[aS];exact acS R) rfl rfl (by simp[I]) (fun i U C=>by
  have N:(ae g [AV.junk]).length=g:=by simp
  by_cases G:i<g
  ·rw[acx (by omega)]at C;simp[G]at C;subst C;refine⟨[.p (.raw (vs[i]'(by omega)))],by rw[acx (by simp;omega)];simp[I,G],rfl,fun j x F=>?_⟩;cases j with
   |zero=>simp at F;exact .inl F.symm
   |succ j=>simp at F
  rw[acD (by omega),N]at C;exact⟨U,by rw[acD (by simp;omega)];simpa[I] using C,rfl,fun j x F=> .inr F⟩)
 have T:=hw _ _ _ _ _ r3;have c:(AS.mk (AS.put ⟨s.tmps,aF s.H n ((s.H n).set r ⟨m,1,vs.map (fun v=>[AV.p (.raw v)])++l⟩)⟩ (some d) (.one (.p x))).tmps (aF (AS.put ⟨s.tmps,aF s.H n ((s.H n).set r ⟨m,1,vs.map (fun v=>[AV.p (.raw v)])++l⟩)⟩ (some d) (.one (.p x))).H n (((AS.put ⟨s.tmps,aF s.H n ((s.H n).set r ⟨m,1,vs.map (fun v=>[AV.p (.raw v)])++l⟩)⟩ (some d) (.one (.p x))).H n).set r ⟨m,1,ae g [AV.junk]++l⟩)))=s.put (some d) (.one (.p x)):=by
  simp only[AS.put,aS,agV];have V:(s.H n).set r ⟨m,1,ae g [AV.junk]++l⟩=s.H n:=by
   apply acz;intro i;rw[adj];split
   ·rename_i G;subst G;exact t.symm
   rfl
  rw[V]
  congr 1
  funext y;unfold aF;split
  ·rename_i h;rw[h]
  rfl
 rw[c]at T;rw[q];rw[q]at T;exact T
theorem Pl {R:AS->Act->World->Prop} (e:Qc R) {c:AS} (h: ∀w0 O X,Du P b (dq w0 O X s) (dq w0 O X c)):Du P b (R s) (R c):=fun a w K Q l j=>by
 obtain⟨r,f,g,p,m⟩:=e s a w l;exact h r f g a w K Q p fun v q n=>j v q (m _ _ _ n)
theorem VE {q:List Nat} {p:AS} (h:vF (EF c n) q s p):cxTs c n p=cxTs c n s:=by
 unfold cxTs;have l:=h.1;unfold EF at l;cases t:c[n]? with
 |none=>rfl
 |some o=>
  rw[t]at l;simp only at l⊢;have e: ∀y∈o.op.operands,p.ev y=s.ev y:=fun y j=>by
   cases y with
   |tmp k=>exact l k (afO.2 ⟨.tmp k,by simpa using j,rfl⟩)
   |_=>rfl
  have:r9 o p=r9 o s:=by
   unfold r9;split
   ·rename_i b r;rw[r]at e;simp only[Op.operands,Call.operands]at e;split
    ·rename_i f g;rw[g]at e;rw[ku b.args.toList fun y j=>e y (by simp at j⊢;exact .inr j)]
    ·rename_i k g;rw[g]at e;rw[ku b.args.toList fun y j=>e y (by simp at j⊢;exact .inr j),e (.tmp k) (by simp)]
    rfl
   rfl
  rw[this]
variable {γ:Type} {L:jd γ} {g:γ} {Q:Exit->AS->γ->Prop}
theorem B9 (C:P.follows .mixedOrders=true) (m l d r n:Nat) (G:TypeId) (v:List (List AV)) (x:PV) {f:FuncId} {ts:List TV} (b:List (aq P)) (y:List Nat) {id:Nat} (F:dK ks c=true) (S:Sw c m c.size [l,d]=true) (e:cwD c m=some d) (B:l≠d) (h: ∀K:AS->Prop,(∀j,(cxTs c m j=some (f,ts)/\j.H d=[]/\(j.H l)[r]?=some ⟨G,1,ae n [AV.junk]++v⟩/\Ya P f ts l d r n G v x (j.H l)/\ ∀K:AS->Prop,(∀z,Q .normal z g->K z)->aY P (b.map aq.a) y (aK c (c.toList.drop (m+1)) (m+1)) (some (j.put (some d) (.one (.p x)))) K)->K j)->aY P (b.map aq.a) y (aK c (c.toList.take m) 0) (some s) K):fw P L ks (.region id c true) Q s g:=fun I Y w0 O X a w r0=>by
 obtain⟨j,M,U,V,W,Z,q5⟩:=aP P (b.map aq.a) y c _ 0 s _ (h _ fun j q=>q);obtain⟨s2,N,R⟩:=aP P (b.map aq.a) y c _ (m+1) _ _ (q5 (fun s=>Q .normal s g) fun _ h=>h);refine Gm (R1:=k9 L ks I Y w0 O X g) (R2:=k9 L ks I Y w0 O X g) ii C b y m c.size [l,d] x F S M (fun z D hl=>?_) (by rw[e,ack (by simp)];exact N) (fun h=>absurd h (agF _)) (fun _ _ _ h=>h) r0 fun a' w' r'=>⟨s2,g,R,r'⟩
 rw[e];refine s9 F ?_;have u:=(VE D).trans U;unfold cxTs at u;cases A:c[m]? with
 |none=>rw[A]at u;cases u
 |some o=>
  rw[A]at u;simp only at u;split at u
  ·rename_i T;have t:o.dst=some d:=by unfold cwD at e;rw[A]at e;exact e
   refine⟨o,A,by simpa using T,?_⟩;rw[<- t];have E:z.H l=j.H l:=D.2 l (by simp);have J:z.H d=j.H d:=D.2 d (by simp);exact Pl wn fun w0 O X=>Pm u t (by rw[J];exact V) B (by rw[E];exact W) (by rw[E];exact Z)
  cases u
end
end
end Go.Proofs.YtalmoejhjceflaaGreat
