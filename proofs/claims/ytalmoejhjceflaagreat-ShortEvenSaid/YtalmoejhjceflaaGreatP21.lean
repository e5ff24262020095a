/-
  Part 22 of a proof (walks and plain facts).
-/
import Derived.Test.YtalmoejhjceflaaGreatP20
set_option linter.all false
set_option maxRecDepth 100000
set_option maxHeartbeats 64000000
open Nat renaming reduceAdd → aa
open List renaming replicate → ae
open Nat renaming reduceBEq → af
namespace Go.Proofs.YtalmoejhjceflaaGreat
open Go.RowKit Go.Proofs.Tryz
variable {n m:Nat} {s:AS} {b:Array Oper} {c:Oper} {e:List Nat} {x:Int} {f:List TV} {g:FuncId} {h:OH} {j:TV}
section
/-! Operation m as a call without arguments. -/
def pV (o:Oper):Oper:={o with op:= .call {callee:= .value (.func 0),args:= #[],argTypes:= #[]}}
def xk:Nat->List Oper->List Oper
 |_,[]=>[]
 |0,o::l=>pV o::l
 |m+1,o::l=>o::xk m l
def mA (b:Array Oper) (m:Nat):Array Oper:=⟨xk m b.toList⟩
theorem CB: ∀(m:Nat) (l:List Oper) (i:Nat),(xk m l)[i]?=if i=m then(l[i]?).map pV else l[i]?
 |m,[],i=>by simp[xk]
 |0,o::l,0=>rfl
 |0,o::l,i+1=>by simp[xk]
 |m+1,o::l,0=>by simp[xk]
 |m+1,o::l,i+1=>by simp[xk,CB m l i]
theorem CC: ∀(m:Nat) (l:List Oper),(xk m l).length=l.length
 |m,[]=>by simp[xk]
 |0,o::l=>rfl
 |m+1,o::l=>by simp[xk,CC m l]
section
variable {P:Program} {ops:Array Oper} {m:Nat} {s:AS}
theorem km (i:Nat):(mA ops m)[i]?=if i=m then(ops[i]?).map pV else ops[i]?:=by
 have:=CB m ops.toList i;simpa[mA] using this
theorem MF:(mA ops m).size=ops.size:=by simp[mA,CC]
theorem Qf (g:Nat):((mA ops m)[g]?).bind (·.dst)=(ops[g]?).bind (·.dst):=by
 rw[km];split
 ·cases ops[g]?<;>rfl
 rfl
theorem BA {b:List (dc P)} {i:Nat}:aQ P b e (mA ops m) i c s=aQ P b e ops i c s:=by
 unfold aQ;simp only[Qf]
theorem yB {b:Array Bool} {i:Nat}:i∈Region.ready .any (mA ops m) b↔i∈Region.ready .any ops b:=by
 constructor
 ·intro h;obtain⟨f,o,c,g⟩:=mem_ready.1 h;rw[km]at c;split at c
  ·obtain⟨l,j,rfl⟩:=XI.1 c;exact mem_ready.2 ⟨f,l,j,g⟩
  exact mem_ready.2 ⟨f,o,c,g⟩
 intro h;obtain⟨f,o,c,g⟩:=mem_ready.1 h;by_cases e:i=m
 ·exact mem_ready.2 ⟨f,pV o,by rw[km,if_pos e,c];rfl,g⟩
 exact mem_ready.2 ⟨f,o,by rw[km,if_neg e];exact c,g⟩
theorem Li {Qn:Act->World->Prop} {Wp:Nat->(Act->World->Prop)->Act->World->Prop}: ∀f,oC (mA ops m) Qn Wp f=oC ops Qn Wp f:=by
 have c: ∀b,Region.ready .any (mA ops m) b=[]↔Region.ready .any ops b=[]:=fun b=>by
  simp only[aaE,yB]
 intro f
 induction f with
 |zero=>funext l a w;simp only[oC,c]
 |succ f e=>funext l a w;simp only[oC,c,yB,e]
/-! What some slots and families hold. -/
def qU (rd b:List Nat) (s c:AS):Prop:=(∀k∈rd,c.tmps[k]?=s.tmps[k]?)/\ ∀x∈b,c.H x=s.H x
def GO (rd b:List Nat) (o:Oper):Bool:=Wj o.op&&(rd.all fun k=>o.dst !=some k)&&b.all fun k=>o.dst !=some k
variable {items:List (dc P)} {ow:List Nat} {rd fas:List Nat} {sep:List (Nat×Nat×Nat)}
theorem IZ {i:Nat} {v:AS} (h:GO rd fas c=true) (u:aQ P items ow ops i c s=some v):qU rd fas s v:=by
 unfold GO at h;simp only[Yh,XO,bne_iff_ne,ne_eq]at h;obtain⟨⟨w,p⟩,y⟩:=h;rw[bD]at u;obtain⟨out,b,f⟩:=X4.1 u;cases out with
 |val t=>
  simp only[bW]at f;injection f with f
  subst f;exact⟨fun k n=>lg s _ t k fun e j g=>p k n (by rw[j,g]),fun x _=>by rw[fj]⟩
 |new t A l=>
  simp only[bW]at f;split at f
  ·rename_i d r;split at f
   ·injection f with f
    subst f;exact⟨fun k n=>lg ⟨s.tmps,_⟩ _ t k fun e j g=>p k n (by rw[r,j,g]),fun x z=>by
     rw[fj];exact ay fun e=>y x z (by rw[r,e])⟩
   cases f
  cases f
 |wr q=>
  exfalso;unfold cu at b;split at b
  ·unfold kn at b;split at b
   ·obtain⟨_,_,h⟩:=XI.1 b;cases h
   split at b
   ·obtain⟨_,_,h⟩:=XI.1 b;cases h
   rw[vK w]at b;simp only at b;split at b
   ·cases b
   unfold Fa at b;split at b<;>cases b
  ·cases b
  cases b
theorem n4 (D:Ih P sep ops) (A:bX sep ops=true) {L:AS} (G:F9 sep L) {p:Nat->Bool} (E:y9 ops p) (h:db P items ow ops (lk ops.size p) L=some s): ∀(N b:Nat) (c:Nat->Bool),b+N=ops.size->(∀j,j<b->p j=true->c j=true)->y9 ops c->(∀j,c j=true->p j=true)->
  (∀(i:Nat) o,ops[i]?=some o->p i=true->c i=false->GO rd fas o=true)-> ∃V,db P items ow ops (lk ops.size c) L=some V/\qU rd fas V s
 |0,b,c,X,q,_,z,_=>by
  refine⟨s,?_,fun _ _=>rfl,fun _ _=>rfl⟩;have e:lk ops.size c=lk ops.size p:=ZZ fun j n=>by
   have n:=Yv.1 n;cases H:p j with
   |true=>exact q j (by omega) H
   |false=>
    cases l:c j with
    |false=>rfl
    |true=>rw[z j l]at H;cases H
  rw[e];exact h
 |N+1,b,c,X,q,B,z,C=>by
  have t:b<ops.size:=by omega
  have R:ops[b]?=some ops[b]:=by simp[t]
  by_cases w:p b=true/\c b=false
  ·obtain⟨K,U⟩:=w;have F:y9 ops (cG c b):=zz B fun o v e O r=>q _ ((kU A).1 b o v e O r) (E b o v K e O r)
   obtain⟨s2,W,M⟩:=n4 D A G E h N (b+1) (cG c b) (by omega) (fun j n g=>by
    by_cases f:j=b
    ·simp[cG,f]
    ·simp[cG,q j (by omega) g]) F (fun j n=>by
    by_cases f:j=b
    ·rw[f];exact K
    ·have u:(j==b)=false:=by simpa using f
     exact z j (by simpa[cG,u] using n)) (fun i o Y I y=>by
    have:c i=false:=by
     cases h:c i with
     |false=>rfl
     |true=>simp[cG,h]at y
    exact C i o Y I this)
   obtain⟨sm,Z,J⟩:=wD D A B t U G W;unfold dF at J;rw[R]at J;have T:=IZ (C b _ R K U) J;exact⟨sm,Z,fun k Q=>(M.1 k Q).trans (T.1 k Q),fun x S=>(M.2 x S).trans (T.2 x S)⟩
  refine n4 D A G E h N (b+1) c (by omega) (fun j n g=>?_) B z C;by_cases f:j=b
  ·subst f;cases l:c j with
   |true=>rfl
   |false=>exact absurd ⟨g,l⟩ w
  exact q j (by omega) g
theorem LM {g:List (dc P)} {i d:Nat} {ev:Operand->Option TV} {op:Op} (e:items.find? (·.i==i)=g.find? (·.i==i)):b8 P items ow i d ev h op=b8 P g ow i d ev h op:=by
 cases op with
 |call c=>
  obtain⟨callee,args,j⟩:=c;cases callee with
  |value f=>cases f<;>simp only[b8,e]
  |invoke r m=>simp only[b8]
  |builtin b=>cases b<;>simp only[b8]
 |_=>simp only[b8]
theorem Bz {b:List (dc P)} {i:Nat} (h:items.find? (·.i==i)=b.find? (·.i==i)):aQ P items ow ops i c s=aQ P b ow ops i c s:=by
 unfold aQ dL;simp only[LM h]
def Ap (ops:Array Oper) (m:Nat):List Nat:=match ops[m]? with
 |some o=>o.op.operands.toList.filterMap fun| .tmp k=>some k|_=>none
 |none=>[]
def MH (ops:Array Oper) (m z:Nat) (fas:List Nat):Bool:=decide (m<z)&&(bX [] (jx (mA ops m) z)&&((match ops[m]? with|some o=>o.guard.isNone&&o.dst.isSome|none=>false)&&
 ((z==ops.size||(z+1==ops.size&&(List.range z).all fun i=>((oB (jx (mA ops m) z).toList []).getD z 0).testBit i))&&
 (List.range z).all fun i=>i==m||(if i<m then((oB (jx (mA ops m) z).toList []).getD m 0).testBit i else((oB (jx (mA ops m) z).toList []).getD i 0).testBit m)||(match ops[i]? with|some o=>GO (Ap ops m) fas o|none=>true))))
end
section
variable {P:Program} {a:Act} {w0 w:World} {O X Y:Nat->Prop} {ks:List Nat}
theorem BZ {R1 R2:AS->Act->World->Prop} (M1:xw ks R1) (b5:P.follows .mixedOrders=true) (c:List (an P)) (t:List Nat) (m z:Nat) (D:List Nat) (x:PV) {id:Nat} (hk:da ks b=true) (hE:MH b m z D=true) {s1 N s3:AS} (h1:gZ P (c.map an.a) t b ((b.toList.take m).zipIdx 0) s=some s1) (bt: ∀s',qU (Ap b m) D s1 s'->kM s'->uh P b m (R1 s') (R1 (s'.put (mw b m) (.one (.p x))))) (h2:gZ P (c.map an.a) t b (((b.toList.take z).drop (m+1)).zipIdx (m+1)) (s1.put (mw b m) (.one (.p x)))=some N) (S:z<b.size->uh P b z (R1 N) (R2 s3)) (bh:z=b.size-> ∀a w,R1 N a w->R2 s3 a w) {Q:Exit->Act->World->Prop} (E:R1 s a w) (hQ: ∀a' L,R2 s3 a' L->Q .normal a' L):(Code.region id b true).wp P Q a w:=by
 simp only[MH,Yh,decide_eq_true_eq,XO,Yv]at hE;obtain⟨cA,hd,al,A,bw⟩:=hE;rw[ZJ,beq_iff_eq,Yh,beq_iff_eq,XO]at A;have cC:z<=b.size/\b.size<=z+1:=by rcases A with h|h<;>omega
 have ad:m<b.size:=by omega
 obtain⟨o,M⟩: ∃o,b[m]?=some o:=⟨b[m],by simp[ad]⟩;rw[M]at al;simp only[Yh]at al;obtain⟨hg,V⟩:=al;obtain⟨d,V⟩:=Option.isSome_iff_exists.1 V;have hg:o.guard=none:=by simpa using hg
 have b0:mw b m=some d:=by unfold mw;rw[M];exact V
 rw[b0]at bt h2;have b4:(b.toList.take m).length=m:=by rw[Y9];simp;omega
 let y:dc P:=⟨m,0,[],⟨[],.one (.p x)⟩⟩
 have ah: ∀i,i≠m->(y::c.map an.a).find? (·.i==i)=(c.map an.a).find? (·.i==i):=fun i R=>by
  have:(y.i==i)=false:=by simpa[y] using Zl R
  rw[List.find?_cons,this]
 have u: ∀i,i≠m->i≠z->(jx (mA b m) z)[i]?=b[i]?:=fun i h1 h2=>by rw[gS,if_neg h2,km,if_neg h1]
 have G: ∀(i:Nat) (o:Oper) (s:AS),i≠m->aQ P (y::c.map an.a) t (jx (mA b m) z) i o s=aQ P (c.map an.a) t b i o s:=fun i o s R=>by
  rw[mM,BA,Bz (ah i R)]
 have key: ∀(l:List Nat) (s:AS),(∀i∈l,i≠m/\i≠z)->db P (y::c.map an.a) t (jx (mA b m) z) l s=db P (c.map an.a) t b l s:=fun l=>by
  induction l with
  |nil=>intros;rfl
  |cons i l ih=>
   intro s hl;have R:=hl i (by simp);have e:dF P (y::c.map an.a) t (jx (mA b m) z) i s=dF P (c.map an.a) t b i s:=by
    unfold dF;rw[u i R.1 R.2];simp only[G i _ _ R.1]
   simp only[db,e];cases dF P (c.map an.a) t b i s with
   |none=>rfl
   |some N=>exact ih N fun j f=>hl j (by simp[f])
 have ae:db P (y::c.map an.a) t (jx (mA b m) z) (List.range m) s=some s1:=by
  have:=gD (P:=P) (items:=c.map an.a) (ow:=t) (b.toList.take m) 0 s (fun j o f=>by
   rw[Yl]at f;split at f
   ·simpa using f
   cases f)
  rw[h1,b4,<- Ya]at this;rw[this];exact key _ _ fun i R=>by have:=Yv.1 R;omega
 have bx:db P (y::c.map an.a) t (jx (mA b m) z) (List.range' (m+1) (z-m-1)) (s1.put (some d) (.one (.p x)))=some N:=by
  have:=gD (P:=P) (items:=c.map an.a) (ow:=t) (ops:=b) ((b.toList.take z).drop (m+1)) (m+1) (s1.put (some d) (.one (.p x))) (fun j o f=>by
   rw[Yr,Yl]at f;split at f
   ·simpa using f
   cases f)
  rw[h2,List.length_drop,Y9,aaq,show min z b.size-(m+1)=z-m-1 by omega]at this;rw[this];exact key _ _ fun i R=>by have:=aaB.1 R;omega
 have bd:(jx (mA b m) z)[m]?=some (pV o):=by rw[gS,if_neg (by omega),km,if_pos rfl,M];rfl
 have ac: ∀s:AS,aQ P (y::c.map an.a) t (jx (mA b m) z) m (pV o) s=some (s.put (some d) (.one (.p x))):=fun s=>by
  unfold aQ;rw[show(pV o).guard=none from hg];show dL P _ t m (pV o) s=_;have b1:(y::c.map an.a).find? (·.i==m)=some y:=by
   rw[List.find?_cons,show(y.i==m)=true by simp[y]]
  have hA:b8 P (y::c.map an.a) t m d s.ev s.H (pV o).op=some (.one (.p x),[]):=by
   simp only[pV,b8,b1,fd];simp[y,CallRes.plain,renTV,b6,noRefTV,eR]
  unfold dL;rw[show(pV o).dst=some d from V];simp only[show oN (pV o).op=false from rfl,show xg (pV o).op=false from rfl,show fD P s.ev s.H (pV o).op=none from rfl,hA,YD,if_false]
 have g:(jx (mA b m) z).size=b.size:=by rw[eE,MF]
 have a5:db P (y::c.map an.a) t (jx (mA b m) z) (List.range z) s=some N:=by
  have cm:List.range z=List.range m++m::List.range' (m+1) (z-m-1):=by
   have h1:=Zg (s:=0) (m:=m) (n:=z-m-1+1);rw[show m+(z-m-1+1)=z by omega,Yw,YM]at h1;rw[Ya,Ya];exact h1.symm
  rw[cm,iY,ae];simp only[YH,db];unfold dF;rw[bd];simp only;rw[ac];exact bx
 have U: ∃sF,db P (y::c.map an.a) t (jx (mA b m) z) (List.range (jx (mA b m) z).size) s=some sF/\(z=b.size->sF=N):=by
  rw[g];rcases A with e|⟨e,_⟩
  ·exact⟨N,by rw[<- e];exact a5,fun _=>rfl⟩
  obtain⟨ol,aa,ap,_⟩:=S (by omega);have af:(jx (mA b m) z)[z]?=some (uU ol):=by rw[gS,if_pos rfl,km,if_neg (by omega),aa];rfl
  have hl:aQ P (y::c.map an.a) t (jx (mA b m) z) z (uU ol) N=some (N.put ol.dst (.raw (.bool false))):=by
   unfold aQ;rw[show(uU ol).guard=none from ap];rfl
  refine⟨N.put ol.dst (.raw (.bool false)),?_,fun h=>by omega⟩;rw[<- e,YU,iY,a5];simp only[YH,db];unfold dF;rw[af];simp only;rw[hl];rfl
 obtain⟨sF,U,cp⟩:=U;refine(wpIn_wide (n:=0)).1 (wpIn_region_any (F:=FW none) b5 ?_);have cl:R1 s a {w with drawn:=w.drawn+1}:=by
  obtain⟨wa,Oa,Xa,⟨q1,q2,ρ,bl,a4⟩,ka⟩:=M1 s a w E;have e:Ext w {w with drawn:=w.drawn+1}:=⟨rfl,rfl,rfl,XY _,fun _ _=>rfl⟩;have a4:aT Xa ρ s a w:=a4;exact ka _ _ _ (fun _ _=>rfl) ⟨q1,q2,ρ,bl.grow e,a4.grow e⟩
 have a1:kM s:=by obtain⟨wa,Oa,Xa,r,_⟩:=M1 s a w E;exact ef r
 have hS:Ih P [] (jx (mA b m) z):=kT hd (by simp);have a2:F9 [] s:=⟨a1,fun x hx=>by simp at hx⟩;rw[<- tp,<- Li (m:=m),<- BG (m:=z)];refine lJ (sep:=[]) hS hd (fun p s a w=>if(decide (z<b.size)&&p z)=true then R2 s3 a w else R1 s a w) a2 U (fun p a w a9 E=>?_) (fun p i o' s' cv a w K q T bR hs E hK=>?_) b.size (Array.replicate b.size false) s a _ (by simp[g]) ?_ ?_ ?_ ?_
 ·by_cases J:z<b.size
  ·rw[if_pos (by rw[a9 z (by rw[g];exact J)];simpa using J)]at E;exact hQ a w E
  rw[if_neg (by simp[J]),cp (by omega)]at E;exact hQ a w (bh (by omega) a w E)
 ·obtain⟨hc,ba,C⟩:=bR;have a0:i<b.size:=by have:=(XV.1 q).1;rwa[g]at this
  by_cases bm:i=z
  ·subst bm;have ab:cG p i i=true:=by simp[cG]
   obtain⟨ol,aa,ap,br⟩:=S a0;have af:(jx (mA b m) i)[i]?=some (uU ol):=by rw[gS,if_pos rfl,km,if_neg (by omega),aa];rfl
   rw[af]at q;injection q with q
   subst q;have cr:lk (jx (mA b m) i).size p=List.range i:=wC (by rw[g];omega) (fun j f=>by
    have:=lR ba (i+1) i (by omega) (by rw[g];exact a0) ab ((A.resolve_left (by omega)).2 j (Yv.2 f));have B:(j==i)=false:=by simp;omega
    simpa[cG,B] using this) (fun j b2 cy=>by
    rw[g]at b2;rw[show j=i by omega];exact T)
   rw[cr,a5]at C;injection C with C
   subst C;rw[T,Bool.and_false,if_neg (by decide)]at E;unfold wpOpIn;rw[aa];simp only;rw[if_pos (by simp[Region.wanted,ap])];exact br a w K Q E fun v L h2=>hK v L (by rw[if_pos (by rw[ab];simpa using a0)];exact h2)
  have I:(decide (z<b.size)&&p z)=false:=by
   by_cases J:z<b.size
   ·cases I:p z with
    |false=>simp
    |true=>
     have:=lR hc (z+1) z (by omega) (by rw[g];exact J) I ((A.resolve_left (by omega)).2 i (Yv.2 (by omega)));rw[T]at this;cases this
   simp[J]
  have ct:(z==i)=false:=by simp;omega
  have cg:(decide (z<b.size)&&cG p i z)=false:=by simpa only[cG,ct,abA,aa8] using I
  rw[I,if_neg (by decide)]at E;have a8: ∀v L,R1 cv (a.put o'.dst v) L->K (a.put o'.dst v) L:=fun v L h=>hK v L (by rw[cg,if_neg (by decide)];exact h)
  by_cases av:i=m
  ·subst av;rw[bd]at q;injection q with q
   subst q;rw[ac]at hs;injection hs with hs
   subst hs;have ag:=(kU hd).1;have bb:y9 (jx (mA b i) z) (fun j=>decide (j<i)):=fun j o M f e he hb=>by
    have:=ag j o M e he hb;simp only[decide_eq_true_eq]at f⊢;omega
   have bc:y9 (jx (mA b i) z) (fun j=>p j&&decide (j<i)):=fun j o M f e he hb=>by
    simp only[Yh]at f⊢;exact⟨hc j o M f.1 e he hb,bb j o M f.2 e he hb⟩
   have cc:db P (y::c.map an.a) t (jx (mA b i) z) (lk (jx (mA b i) z).size fun j=>decide (j<i)) s=some s1:=by
    rw[wC (m:=i) (by rw[g];omega) (fun j f=>by simpa using f) (fun j _ f=>by simpa using f)];exact ae
   obtain⟨sc,g1,g2⟩:=n4 (rd:=Ap b i) (fas:=D) hS hd a2 hc C (jx (mA b i) z).size 0 (fun j=>p j&&decide (j<i)) (by omega) (fun j f=>by omega) bc (fun j f=>by simp only[Yh]at f;exact f.1) (fun j o' f hp hn=>by
    have B:j≠i:=fun e=>by rw[e,T]at hp;cases hp
    have bp:=(XV.1 f).1;rw[g]at bp;have b3:j≠z:=fun e=>by rw[<- e]at I;simp[bp,hp]at I
    rw[u j B b3]at f;have k2:=(XV.1 f).1;have W: ¬j<i:=fun h=>by simp[hp,h]at hn
    have:=bw j (by omega);rw[if_neg W,f]at this;simp only[ZJ,beq_iff_eq,B,false_or]at this;rcases this with this|this
    ·have:=lR hc (j+1) j (by omega) (by rw[g];exact k2) hp this;rw[T]at this;cases this
    exact this)
   obtain⟨cD,a6,a7⟩:=n4 (rd:=Ap b i) (fas:=D) hS hd a2 bb cc (jx (mA b i) z).size 0 (fun j=>p j&&decide (j<i)) (by omega) (fun j f=>by omega) bc (fun j f=>by simp only[Yh]at f;exact f.2) (fun j o' f hp hn=>by
    have W:j<i:=by simpa using hp
    have B:j≠i:=by omega
    rw[u j B (by omega)]at f;have ci:p j=false:=by simpa[W] using hn
    have:=bw j (by omega);rw[if_pos W,f]at this;simp only[ZJ,beq_iff_eq,B,false_or]at this;rcases this with this|this
    ·have:=lR ba (i+1) i (by omega) (by rw[g];exact ad) (by simp[cG]) this;have bn:(j==i)=false:=by simpa using B
     simp[cG,ci,bn]at this
    exact this)
   rw[g1]at a6;injection a6 with e
   subst e;have a3:qU (Ap b i) D s1 s':=⟨fun k hk=>(g2.1 k hk).trans (a7.1 k hk).symm,fun x hx=>(g2.2 x hx).trans (a7.2 x hx).symm⟩;have bq:kM s':=by obtain⟨wa,Oa,Xa,r,_⟩:=M1 s' a w E;exact ef r
   obtain⟨o2,Z,cx,cs⟩:=bt s' a3 bq;rw[M]at Z;injection Z with Z
   subst Z;unfold wpOpIn;rw[M];simp only;rw[if_pos (by simp[Region.wanted,hg])];exact cs a w K Q E fun v L h2=>a8 v L h2
  rw[u i av bm]at q;rw[G i _ _ av]at hs;obtain⟨wa,Oa,Xa,ra,ka⟩:=M1 _ _ _ E;exact tQ q hs ra fun v L r'=>a8 v L (ka _ _ _ (kW hk q v) r')
 ·intro j o M hp;have f:j<b.size:=by have:=(XV.1 M).1;rwa[g]at this
  simp[f]at hp
 ·exact XQ (ZT _ _) (by simp[g])
 ·have:lk (jx (mA b m) z).size (fun j=>(Array.replicate b.size false).getD j true)=[]:=by
   unfold lk;rw[Zh];intro j f;have:=Yv.1 f;rw[g]at this;simp[this]
  rw[this];rfl
 rw[if_neg (by by_cases h:z<b.size<;>simp[h])];exact cl
def KE (c:Nat) (F:List OObj) (t u:TV):Prop:=(vY t=true/\u=t)\/(∃r b len o,t= .one (.sl c r b len)/\F[r]?=some o/\dB o/\u= .one (.p (.sl (((o.elems.take (b+len)).drop b).map (List.map tX)))))\/
 ∃r i j o e,t= .one (.ptr c r i j)/\F[r]?=some o/\o.elems[i]?=some e/\(∀x∈e,isPure x=true)/\u= .one (.p (.ptr ((e.drop j).map tX)))
def y5 (b:Nat) (F:List OObj):List TV->List TV->Prop
 |[],[]=>True
 |t::c,u::e=>KE b F t u/\y5 b F c e
 |_,_=>False
theorem xO {f:Nat} {F:List OObj}: ∀{c e:List TV},y5 f F c e->e.length=c.length/\ ∀(j:Nat) u,e[j]?=some u-> ∃t,c[j]?=some t/\KE f F t u
 |[],[],_=>⟨rfl,fun j u h=>by simp at h⟩
 |t::c,u::e,⟨m,n⟩=>by
  obtain⟨g,l⟩:=xO n;refine⟨by simp[g],fun j v b=>?_⟩
  match j,b with
  |0,b=>exact⟨t,rfl,by simp at b;subst b;exact m⟩
  |j+1,b=>exact l j v (by simpa using b)
 |[],_::_,h=>h.elim
 |_::_,[],h=>h.elim
variable {ρ:Rho} {s:AS}
theorem D9 {Y:Nat->Prop} (z: ∀(x r:Nat) (o:OObj),(h x)[r]?=some o->objRel ρ h Y w x r o) {u:TV} (f:KE n (h n) j u) {v:Value} (F:j.rel ρ h Y w v):u.rel (fun _ _=>none) (fun _=>[]) (fun _=>False) w v:=by
 have l: ∀x u,isPure x=true->AV.rel ρ h Y w x u->bO (fun _=>False) w (tX x) u:=fun x u E f=>by
  cases x<;>first|exact bO.weaken (fun _ _ f=>f.elim) f|cases E
 rcases f with⟨E,rfl⟩|⟨r,N,len,o,rfl,y,p,rfl⟩|⟨r,i,g,o,e,rfl,y,D,p,rfl⟩
 ·exact sM E F
 ·exact nS (z n r o y) y (fun e D x m u M=>l x u (p e D x m) M) (fun _ _ _ f=>f) F
 obtain⟨T,b,c,C,L,S,rfl⟩:=F;rw[y]at C;injection C with C
 subst C;obtain⟨Z,q2,J⟩:=z n r o y;rw[L]at J;obtain⟨cells,I,U,V,W,Q⟩:=J;have q: ∀(k:Nat) x,((e.drop g).map tX)[k]?=some x-> ∃u:Value,cells[i*o.es+(g+k)]?=some u/\bO (fun _=>False) w x u:=fun k x m=>by
  rw[XK,Yr]at m;obtain⟨G,A,rfl⟩:=XI.1 m;obtain⟨u,B,K,R⟩:=Q i e (g+k) G D A;exact⟨u,B,l G u (p G (XH A)) R⟩
 refine bO.ptr b (i*o.es+g) _ (fun k=>(cells[i*o.es+(g+k)]?).getD undef) (fun f=>f) (XV.1 I).1 (fun k x m=>?_) (fun k x m=>?_)
 ·obtain⟨u,B,_⟩:=q k x m;rw[cell_of_row _ b _ cells o.ty (0,0) I,show i*o.es+g+k=i*o.es+(g+k) by omega,B];rfl
 obtain⟨u,B,K⟩:=q k x m;simp only[B,Y4];exact K
theorem Nn (ae:de w0 O X s a w) (p:oI c s=some (g,f)) {args:List TV} {res:CallRes} (D:CallC P g args res) (E:Hn res) {fa d:Nat} (V:y5 fa (s.H fa) f args) (hd:s.H d=[]) (W:c.dst=some d) {K:Act->World->Prop} {Q:Exit->Act->World->Prop} (hK: ∀v w',de w0 O X (ji s d (renTV d res.r) (res.fam.map (renO d))) (a.put c.dst v) w'->K (a.put c.dst v) w'):c.wp P a w K Q:=by
 obtain⟨h1,ag,ρ,q,A⟩:=ae;have A:aT X ρ s a w:=A;obtain⟨q1,q2⟩:=xO V;have J: ∀j,Xo X ρ s.H j->j<w.heap.size:=fun b R=>by
  rcases R with R|⟨x,y,o',n,g1,g2⟩
  ·exact q.bar b R
  exact bI (q.objs x y o' g1) g2
 have post: ∀v B m,Inv w (fun _=>False) (fun _=>False) (famH 0 res.fam) m B->res.r.rel m (famH 0 res.fam) (Xo (fun _=>False) m (famH 0 res.fam)) B v->de w0 O X (ji s d (renTV d res.r) (res.fam.map (renO d))) (a.put (some d) v) B:=fun v B m F hr=>by
  have Z: ∀(x r:Nat) c,(famH 0 res.fam x)[r]?=some c->c∈res.fam:=fun x r c G=>by
   unfold famH at G;split at G
   ·exact XH G
   simp at G
  have ab: ∀{Y Y':Nat->Prop} (x r:Nat) c,c∈res.fam->objRel m (famH 0 res.fam) Y B x r c->objRel m (famH 0 res.fam) Y' B x r c:=fun{Y Y'} x r c hmem hob=>by
   obtain⟨z1,z2,z3⟩:=hob;refine⟨z1,z2,?_⟩;cases ad:m x r with
   |none=>rw[ad]at z3;exact z3
   |some bc=>
    obtain⟨b,n⟩:=bc;rw[ad]at z3;obtain⟨cells,p1,p2,p3,p4,p5⟩:=z3;refine⟨cells,p1,p2,p3,p4,fun i e j z he hz=>?_⟩;obtain⟨u,u1,u2,u3⟩:=p5 i e j z he hz;exact⟨u,u1,u2,qo (E.2 c hmem e (XH he) z (XH hz)) u3⟩
  by_cases I:res.plain=true
  ·exact pE (P:=P) (it:=(⟨0,g,args,res⟩:dc P)) (d:=d) (v:=v) (w1:=B) (ρc:=m) h1 ag q A rfl rfl (fun _=>hd) (by rw[if_pos I];exact F) (by rw[if_pos I];exact hr)
  have a0:Inv w (fun _=>False) (Xo X ρ s.H) (famH 0 res.fam) m B:=
   ⟨F.keep,fun x r c G=>ab x r c (Z x r c G) (F.objs x r c G),F.inj,fun x r c b l G R=>by
    have:=F.old x r c b l G R;refine⟨this.1,fun hX=>?_⟩;rcases this.1 with h|h
    ·have:=J b hX;omega
    exact h,fun b R=>XZ (J b R) F.keep.size,F.self⟩
  exact pE (P:=P) (it:=(⟨0,g,args,res⟩:dc P)) (d:=d) (v:=v) (w1:=B) (ρc:=m) h1 ag q A rfl rfl (fun _=>hd) (by rw[if_neg I];exact a0) (by rw[if_neg I];exact Fo E.1 hr)
 have key: ∀vs:Array Value,(execOp a.eval c).run P w= .ok (.enter g vs) w->vs.size=args.length->(∀(j:Nat) t,f[j]?=some t-> ∃v:Value,vs[j]?=some v/\t.rel ρ s.H (Xo X ρ s.H) w v)->c.wp P a w K Q:=fun vs af a2 N=>by
  unfold Oper.wp;rw[af];simp only[Oper.upon];refine(D.2 (fun _=>False) w vs (fun j hj=>hj.elim) a2 fun j u hu=>?_).mono ?_
  ·obtain⟨t,L,ap⟩:=q2 j u hu;obtain⟨v,v1,v2⟩:=N j t L;exact⟨v,v1,D9 q.objs ap v2⟩
  rintro e B ⟨v,rfl,m,F,hr⟩;have:=post v B m F hr;rw[W]at hK⊢;exact hK v B this
 unfold oI at p;split at p
 ·rename_i l ac;split at p
  ·rename_i f' C;obtain⟨ah,S,e⟩:=XI.1 p;injection e with e e'
   subst e e';obtain⟨M,e2⟩:=bU S;have T:l.args.size=args.length:=by rw[q1];simpa using M.symm
   refine key _ (jS ac C rfl D.1) (by simp[T]) fun j t L=>?_
   obtain⟨y,hy,U⟩:=e2 j t L;refine⟨a.eval y,?_,bf A y _ U⟩;rw[YC];have:l.args[j]?=some y:=by simpa using hy
   rw[this];rfl
  ·rename_i k C;split at p
   ·rename_i f' al ah av S;injection p with p
    injection p with e e'
    subst e e';obtain⟨M,e2⟩:=bU S;obtain⟨us,k1,k2,k3⟩:=jt (v:=a.eval (.tmp k)) (fun t0 a1=>bf A (.tmp k) t0 a1) av;have aa:args.length=l.args.size+us.size:=by rw[q1,YJ,M,k2,aaq]
    refine key _ (jB ac C k1 D.1) (by simp[aa]) fun j t L=>?_
    by_cases hj:j<ah.length
    ·rw[XS hj]at L;obtain⟨y,hy,U⟩:=e2 j _ L;refine⟨a.eval y,?_,bf A y _ U⟩;rw[X8 (by simp at M⊢;omega),YC];have:l.args[j]?=some y:=by simpa using hy
     rw[this];rfl
    rw[XW (by omega)]at L;obtain⟨v,v1,v2⟩:=k3 _ _ L;refine⟨v,?_,v2⟩;rw[Yi (by simp at M⊢;omega)];simp at M⊢;rw[<- M];exact v1
   cases p
  cases p
 cases p
theorem Mi {e:Nat} {G:TypeId} {f:List (List AV)} (D:de w0 O X s a w) (C:(s.H n)[m]?=some ⟨G,1,ae e [AV.junk]++f⟩): ∃vs:List Value,vs.length=e/\de w0 O X ⟨s.tmps,aw s.H n ((s.H n).set m ⟨G,1,vs.map (fun v=>[AV.p (.raw v)])++f⟩)⟩ a w:=by
 obtain⟨L,E,ρ,l,A⟩:=D;have A:aT X ρ s a w:=A;obtain⟨V,q2,F⟩:=id (l.objs n m _ C);cases J:ρ n m with
 |none=>
  rw[J]at F;simp only[List.append_eq_nil_iff,List.replicate_eq_nil_iff]at F;obtain⟨rfl,rfl⟩:=F;refine⟨[],rfl,?_⟩;have:(s.H n).set m ⟨G,1,[].map (fun v=>[AV.p (.raw v)])++[]⟩=s.H n:=by
   apply X7;intro i;rw[Yz];split
   ·rename_i o;subst o;rw[if_pos (XN.1 C).1,C];rfl
   rfl
  rw[this,show aw s.H n (s.H n)=s.H from funext fun x=>by unfold aw;split<;>simp_all];exact⟨L,E,ρ,l,A⟩
 |some Q=>
  obtain⟨p,c⟩:=Q;rw[J]at F;obtain⟨cells,U,p2,p3,p4,M⟩:=F;have I:(ae e [AV.junk]).length=e:=by simp
  refine⟨(List.range e).map fun i=>(cells[i]?).getD undef,by simp[wk],?_⟩;have q: ∀(i:Nat) g,((((List.range e).map fun i=>(cells[i]?).getD undef).map (fun v=>[AV.p (.raw v)])++f:List (List AV)))[i]?=some g->(i<e/\g=[.p (.raw ((cells[i]?).getD undef))])\/(e<=i/\f[i-e]?=some g/\(ae e [AV.junk]++f)[i]?=some g):=fun i g z=>by
   by_cases o:i<e
   ·rw[XS (by simpa using o)]at z;simp[o]at z;exact .inl ⟨o,z.symm⟩
   rw[XW (by simpa using aaG o)]at z;simp only[YB,Z0]at z;exact .inr ⟨by omega,z,by rw[XW (by omega),I];exact z⟩
  obtain⟨S,T⟩:=vo l (o':=⟨G,1,((List.range e).map fun i=>(cells[i]?).getD undef).map (fun v=>[AV.p (.raw v)])++f⟩) C J U rfl rfl (by simp) (fun g B=>by
   obtain⟨i,o⟩:=YY.1 B;rcases q i g o with⟨_,rfl⟩|⟨_,_,h⟩
   ·rfl
   ·exact V g (XH h)) (fun g B x y=>by
   obtain⟨i,o⟩:=YY.1 B;rcases q i g o with⟨_,rfl⟩|⟨_,_,h⟩
   ·simp only[XT]at y;subst y;trivial
   ·exact l.self n m _ C g (XH h) x y) (fun i g j x z y=>by
   rcases q i g z with⟨o,rfl⟩|⟨_,_,h⟩
   ·have R:j=0:=by
     cases j with
     |zero=>rfl
     |succ j=>simp at y
    subst R;simp at y;subst y;obtain⟨u,K,N,_⟩:=M i [.junk] 0 .junk (by rw[XS (by omega)];simp[o]) rfl;simp only[aa5,YA]at K⊢;refine⟨u,K,N,?_⟩;rw[K];exact bO.raw u N
   exact M i g j x h y)
  exact⟨L,E,ρ,S,fun t x y=>by
   obtain⟨v,W,Z⟩:=A t x y;exact⟨v,W,TV.rel_map Z T⟩⟩
theorem PT {o:OH} {d:Nat} (q:h d=[]) (c:fF h j):fb o d j=j:=by
 have u: ∀x,eP h x->dD o d x=x:=fun x n=>by
  cases x with
  |p x=>rfl
  |junk=>rfl
  |sl b r y len=>
   have:b≠d:=fun e=>n (by rw[e];exact q)
   simp only[dD,if_neg this]
  |ptr b r i g=>
   have:b≠d:=fun e=>n (by rw[e];exact q)
   simp only[dD,if_neg this]
  |fn f b A=>
   have:b≠d:=fun e=>n.1 (by rw[e];exact q)
   simp only[dD,if_neg this]
 have m: ∀l:List AV,(∀x∈l,eP h x)->l.map (dD o d)=l:=fun l v=>by
  conv=>rhs;rw[<- Z1 l]
  exact Yc fun x n=>u x (v x n)
 cases j with
 |one x=>simp only[fb,u x c]
 |agg l=>simp only[fb,m l c]
 |fn f l=>simp only[fb,m l c]
 |tup z=>
  simp only[fb]
  congr 1
  conv=>rhs;rw[<- Z1 z]
  exact Yc fun x n=>by
   rw[m x.2 (c x n)];rfl
theorem KT {d:Nat} {F:List OObj} {x:PV} (u:kM s) (e:s.H d=[]) (f: ∀H:OH,H d=F->s9 H d/\fb H d j= .one (.p x)):bv (ji s d j F) (s.put (some d) (.one (.p x))):=by
 have c:aw s.H d []=s.H:=funext fun y=>by
  unfold aw;split
  ·rename_i h;rw[h];exact e.symm
  rfl
 obtain⟨b,g,m,n⟩: ∃b:OH,ji s d j F=⟨s.tmps.set d j,b⟩/\b d=F/\aw b d []=s.H:=by
  cases F with
  |nil=>exact⟨s.H,rfl,e,c⟩
  |cons o l=>
   refine⟨aw s.H d (o::l),rfl,aI,?_⟩;rw[<- c];funext y;unfold aw;split<;>rfl
 rw[g];obtain⟨f1,f2⟩:=f b m;have h:=bF (s:=⟨s.tmps.set d j,b⟩) d f1;simp only[n,aaR,f2]at h;have q:s.tmps.map (fb b d)=s.tmps:=by
  conv=>rhs;rw[<- Z1 s.tmps]
  exact Yc fun t v=>by
   obtain⟨k,r⟩:=YY.1 v;exact PT e (u.1 k t r)
 rw[q]at h;exact h
def RX (P:Program) (f:FuncId) (e:List TV) (c d r n:Nat) (g:TypeId) (b:List (List AV)) (x:PV) (F:List OObj):Prop:= ∀vs:List Value,vs.length=n-> ∃args res,CallC P f args res/\Hn res/\y5 c (F.set r ⟨g,1,vs.map (fun v=>[AV.p (.raw v)])++b⟩) e args/\
 ∀H:OH,H d=res.fam.map (renO d)->s9 H d/\fb H d (renTV d res.r)= .one (.p x)
theorem JY {d b:Nat} {q:TypeId} {l:List (List AV)} {x:PV} (T:oI c s=some (g,f)) (t:c.dst=some d) (hd:s.H d=[]) (M:n≠d) (u:(s.H n)[m]?=some ⟨q,1,ae b [AV.junk]++l⟩) (B:RX P g f n d m b q l x (s.H n)):
  zg P c (de w0 O X s) (de w0 O X (s.put c.dst (.one (.p x)))):=fun a w K Q hr Z=>by
 obtain⟨vs,J,E⟩:=Mi hr u;obtain⟨args,res,hc,z,A,N⟩:=B vs J;have L:AS.ev ⟨s.tmps,aw s.H n ((s.H n).set m ⟨q,1,vs.map (fun v=>[AV.p (.raw v)])++l⟩)⟩=s.ev:=funext fun y=>by cases y<;>rfl
 have F:oI c ⟨s.tmps,aw s.H n ((s.H n).set m ⟨q,1,vs.map (fun v=>[AV.p (.raw v)])++l⟩)⟩=some (g,f):=by
  rw[<- T];unfold oI;simp only[L]
 have C:aw s.H n ((s.H n).set m ⟨q,1,vs.map (fun v=>[AV.p (.raw v)])++l⟩) d=[]:=by rw[ay (Zl M)];exact hd
 refine js (.inl rfl) (Nn E F hc z (fa:=n) (by simp only[aI];exact A) C t fun v w' r'=>Z v w' ?_);have r3:=KT (ef E) C N _ _ _ _ _ r';have S:=(XN.1 u).1;have hw:=lE (s:=AS.put ⟨s.tmps,aw s.H n ((s.H n).set m ⟨q,1,vs.map (fun v=>[AV.p (.raw v)])++l⟩)⟩ (some d) (.one (.p x))) n m (o:=⟨q,1,vs.map (fun v=>[AV.p (.raw v)])++l⟩) (o':=⟨q,1,ae b [AV.junk]++l⟩) (by rw[fj];simp only[aI];exact Zi S) rfl rfl (by simp[J]) (fun i V D=>by
  have R:(ae b [AV.junk]).length=b:=by simp
  by_cases I:i<b
  ·rw[XS (by omega)]at D;simp[I]at D;subst D;refine⟨[.p (.raw (vs[i]'(by omega)))],by rw[XS (by simp;omega)];simp[J,I],rfl,fun j x G=>?_⟩;cases j with
   |zero=>simp at G;exact .inl G.symm
   |succ j=>simp at G
  rw[XW (by omega),R]at D;exact⟨V,by rw[XW (by simp;omega)];simpa[J] using D,rfl,fun j x G=> .inr G⟩)
 have U:=hw _ _ _ _ _ r3;have e:(AS.mk (AS.put ⟨s.tmps,aw s.H n ((s.H n).set m ⟨q,1,vs.map (fun v=>[AV.p (.raw v)])++l⟩)⟩ (some d) (.one (.p x))).tmps (aw (AS.put ⟨s.tmps,aw s.H n ((s.H n).set m ⟨q,1,vs.map (fun v=>[AV.p (.raw v)])++l⟩)⟩ (some d) (.one (.p x))).H n (((AS.put ⟨s.tmps,aw s.H n ((s.H n).set m ⟨q,1,vs.map (fun v=>[AV.p (.raw v)])++l⟩)⟩ (some d) (.one (.p x))).H n).set m ⟨q,1,ae b [AV.junk]++l⟩)))=s.put (some d) (.one (.p x)):=by
  simp only[AS.put,aI,List.set_set];have W:(s.H n).set m ⟨q,1,ae b [AV.junk]++l⟩=s.H n:=by
   apply X7;intro i;rw[Yz];split
   ·rename_i I;subst I;exact u.symm
   rfl
  rw[W]
  congr 1
  funext y;unfold aw;split
  ·rename_i h;rw[h]
  rfl
 rw[e]at U;rw[t];rw[t]at U;exact U
theorem JX {R:AS->Act->World->Prop} (e:KK R) {b:AS} (h: ∀w0 O X,zg P c (de w0 O X s) (de w0 O X b)):zg P c (R s) (R b):=fun a w K Q l j=>by
 obtain⟨r,f,g,p,m⟩:=e s a w l;exact h r f g a w K Q p fun v q n=>j v q (m _ _ _ n)
theorem PK {q:AS} (h:qU (Ap b n) e s q):cxTs b n q=cxTs b n s:=by
 unfold cxTs;have p:=h.1;unfold Ap at p;cases t:b[n]? with
 |none=>rfl
 |some o=>
  rw[t]at p;simp only at p⊢;have g: ∀y∈o.op.operands,q.ev y=s.ev y:=fun y l=>by
   cases y with
   |tmp k=>exact p k (aaV.2 ⟨.tmp k,by simpa using l,rfl⟩)
   |_=>rfl
  have:oI o q=oI o s:=by
   unfold oI;split
   ·rename_i c r;rw[r]at g;simp only[Op.operands,Call.operands]at g;split
    ·rename_i f j;rw[j]at g;rw[iM c.args.toList fun y l=>g y (by simp at l⊢;exact .inr l)]
    ·rename_i k j;rw[j]at g;rw[iM c.args.toList fun y l=>g y (by simp at l⊢;exact .inr l),g (.tmp k) (by simp)]
    rfl
   rfl
  rw[this]
variable {γ:Type} {L:gM γ} {g:γ} {Q:Exit->AS->γ->Prop}
theorem xC (C:P.follows .mixedOrders=true) (m l d r n:Nat) (G:TypeId) (v:List (List AV)) (x:PV) {f:FuncId} {ts:List TV} (c:List (an P)) (y:List Nat) {id:Nat} (F:da ks b=true) (S:MH b m b.size [l,d]=true) (e:mw b m=some d) (B:l≠d) (h: ∀K:AS->Prop,(∀j,(cxTs b m j=some (f,ts)/\j.H d=[]/\(j.H l)[r]?=some ⟨G,1,ae n [AV.junk]++v⟩/\RX P f ts l d r n G v x (j.H l)/\ ∀K:AS->Prop,(∀z,Q .normal z g->K z)->aV P (c.map an.a) y (aJ b (b.toList.drop (m+1)) (m+1)) (some (j.put (some d) (.one (.p x)))) K)->K j)->aV P (c.map an.a) y (aJ b (b.toList.take m) 0) (some s) K):dT P L ks (.region id b true) Q s g:=fun I Y w0 O X a w r0=>by
 obtain⟨j,M,U,V,W,Z,q5⟩:=aO P (c.map an.a) y b _ 0 s _ (h _ fun j q=>q);obtain⟨s2,N,R⟩:=aO P (c.map an.a) y b _ (m+1) _ _ (q5 (fun s=>Q .normal s g) fun _ h=>h);refine BZ (R1:=jm L ks I Y w0 O X g) (R2:=jm L ks I Y w0 O X g) fp C c y m b.size [l,d] x F S M (fun z D hl=>?_) (by rw[e,X3 (by simp)];exact N) (fun h=>absurd h (abC _)) (fun _ _ _ h=>h) r0 fun a' w' r'=>⟨s2,g,R,r'⟩
 rw[e];refine pc F ?_;have u:=(PK D).trans U;unfold cxTs at u;cases A:b[m]? with
 |none=>rw[A]at u;cases u
 |some o=>
  rw[A]at u;simp only at u;split at u
  ·rename_i T;have t:o.dst=some d:=by unfold mw at e;rw[A]at e;exact e
   refine⟨o,A,by simpa using T,?_⟩;rw[<- t];have E:z.H l=j.H l:=D.2 l (by simp);have J:z.H d=j.H d:=D.2 d (by simp);exact JX rE fun w0 O X=>JY u t (by rw[J];exact V) B (by rw[E];exact W) (by rw[E];exact Z)
  cases u
end
end
section
theorem In {P:Program} {D:Type} {L:gM D} {g:D} {Q:Exit->AS->D->Prop} (y:P.follows .mixedOrders=true) (f:List (an P)) (C:List Nat) {id:Nat} (E:bX [] b=true) (T:da e b=true) (h: ∀K:AS->Prop,(∀t,Q .normal t g->K t)->aV P (f.map an.a) C (aJ b b.toList 0) (some s) K):dT P L e (.region id b true) Q s g:=fun H Y I O X a w r=>by
 obtain⟨G,h1,N⟩:=aO P (f.map an.a) C b b.toList 0 s _ (h (fun t=>Q .normal t g) fun _ h=>h);have R:db P (f.map an.a) C b (List.range b.size) s=some G:=by
  grind [List.range_eq_range',gD]
 refine(wpIn_wide (n:=0)).1 (wpIn_region_any (F:=FW none) y ?_);have A:jm L e H Y I O X g s a {w with drawn:=w.drawn+1}:=by
  obtain⟨J,Oa,Xa,⟨Z,q2,M,q,m⟩,B⟩:=fp s a w r;have c:Ext w {w with drawn:=w.drawn+1}:=⟨rfl,rfl,rfl,XY _,fun _ _=>rfl⟩;have m:aT Xa M s a w:=m;exact B _ _ _ (fun _ _=>rfl) ⟨Z,q2,M,q.grow c,m.grow c⟩
 have l:kM s:=by obtain⟨J,Oa,Xa,r,_⟩:=fp s a w r;exact ef r
 rw[<- tp];refine lJ (sep:=[]) (kT E (by simp)) E (fun _ s a w=>jm L e H Y I O X g s a w) ⟨l,fun x W=>by simp at W⟩ R (fun p a w _ z=>⟨G,g,N,z⟩) (fun p i o t aa a w K u U _ V z S=>?_) b.size (Array.replicate b.size false) s a _ (by simp) ?_ ?_ ?_ A
 ·obtain⟨J,Oa,Xa,ra,B⟩:=fp _ _ _ z;exact tQ u V ra fun v w' r'=>S v w' (B _ _ _ (kW T u v) r')
 ·intro j o u hp;have hj:j<b.size:=(XV.1 u).1;simp_all
 ·grind
 have:lk b.size (fun j=>(Array.replicate b.size false).getD j true)=[]:=by
  simp_all[lk]
 rw[this];rfl
theorem mE {m:Nat} {c:Int} {y D:List Int} {M acc:List (List Int)} {ex:Bool} (b:s.H 0=BP 0 n m (c::y) D M acc ex):bv s ⟨s.tmps,aw s.H 0 (BP 0 n (m+1) y D M acc ex)⟩:=by
 have h:=lE (s:=s) 0 3 (o:=⟨2,1,fK m++lc fI (c::y)⟩) (o':=⟨2,1,fK (m+1)++lc fI y⟩) (by rw[b];rfl) rfl rfl (by simp only[i9,Ym];omega) fun i e f=>by
  rw[<- mV m c y];grind [fK]
 grind
structure Xq (lo hi:Int) (h:Int->List (List Int)) (T:List (List Int)) where
 x:Int
 acc:List (List Int)
 h1:lo<=x
 e:acc++(rng x hi).flatMap h=T
section
variable {n:Nat} {f:FF} {B:Int} {ex:Bool}
theorem C3 (I:mD n f B) (k:Nat) (y:List Int) (z:Bool) (acc:List (List Int)) (hk:y.length+(k+1)=n) (hT:oy y) (hP:fO f n B (k+1) (aR n y)) (hz:z=true->dR f n B k (aR n y)<=0) (R:(acc++wX f n B ex k y z).length<=1000000)
  (a0: ∀j,k=j+1-> ∀c P,dR f n B k (aR n y)<=c->c<=eQ f n B k (aR n y)->(z=true->0<=c)->(P++wX f n B ex j (c::y) (z&&decide (c=0))).length<=1000000->Vt n f B ex j (c::y) (z&&decide (c=0)) P):Vt n f B ex k y z acc:=by
 have cD:=I.n8;have cv:=I.d (k:=k) (by omega);have ab:=I.d (k:=k+1) (by omega);have a9:=az (dk f) (show k<n+1 by omega);have ba:=az (dk f) (show k+1<n+1 by omega);have cs:=aH (n+1) (dk f);have hM:=vr n f (show k<n by omega);have ct:=kX n f n;have bh:(mz n f k).length=n-k-1:=aH _ _;have hR: ∀i,i<y.length->(mz n f k)[i]?=some (bk f k k (k+(i+1))):=fun i E=>az _ (by omega)
 have Z:=fun m (hm:m<=y.length)=>I.shP_c hk hT hm
 have U:=n5 f hk;have cE:=I.rs0 (k:=k+1) (by omega) hP;have N:=I.sq (k:=k) (by omega) hP;have b1:=I.lohi hk hT hP;have b4:=Rq (m:=y.length+1) (by omega);have cI:=mT N.1 N.2;have cR:=wl (.inr (.inl rfl)) _ N.1 N.2;have a6:=fun c=>I.step hk (c:=c) hP
 have a5:dk f k*o8 f n B (k+1) (aR n y)=kJ f n B k (aR n y):=rfl;have av:dR f n B k (aR n y)=0-(isqF (kJ f n B k (aR n y))+sQ f k y y.length)/dk f (k+1):=by grind [dR]
 have al:eQ f n B k (aR n y)=(isqF (kJ f n B k (aR n y))-sQ f k y y.length)/dk f (k+1):=by rw[U];rfl
 have cp:=Z y.length (XY _);have a7:=nI (.inr (.inl rfl)) (isqF (kJ f n B k (aR n y))+sQ f k y y.length) (dk f (k+1)) ab.1 (by omega) (by omega) (by omega);have a8:=nI (.inr (.inl rfl)) (isqF (kJ f n B k (aR n y))-sQ f k y y.length) (dk f (k+1)) ab.1 (by omega) (by omega) (by omega);have e1:IntKind.i64.wrap ((k:Int)+1)=((k+1:Nat):Int):=aP (by omega) (by omega);have hS: ∃h:Int->List (List Int),wX f n B ex k y z=(rng (if z=true then 0 else dR f n B k (aR n y)) (eQ f n B k (aR n y))).flatMap h/\(k=0-> ∀c,h c=if(z&&decide (c=0))=true\/(ex&&!decide (o8 f n B k (aR n (c::y))=0))=true then[]else[c::y])/\ ∀j,k=j+1-> ∀c,h c=wX f n B ex j (c::y) (z&&decide (c=0)):=by
  cases k with
  |zero=>exact⟨_,rfl,fun _ _=>rfl,fun j e=>absurd e (by omega)⟩
  |succ j=>
   refine⟨_,rfl,fun e=>absurd e (by omega),fun j' e c=>?_⟩;grind
 obtain⟨h,hS,ag,ah⟩:=hS;have a3:sQ f k y 0=0:=rfl;have a4: ∀i,sQ f k y i+bk f k k (k+(i+1))*y.getD i 0=sQ f k y (i+1):=fun _=>rfl
 rw[<- U]at a6;have a1: ∀c,fO f n B k (aR n (c::y))->0<=o8 f n B k (aR n (c::y))/\o8 f n B k (aR n (c::y))<=70368744177664:=fun c h=>I.rs0 (by omega) h
 clear I hP hT;unfold Vt at*
 rw[hS]at R⊢;clear hS;generalize dR f n B k (aR n y)=lo at*
 generalize eQ f n B k (aR n y)=E at*
 generalize kJ f n B k (aR n y)=sq at*
 generalize o8 f n B (k+1) (aR n y)=X at*
 generalize isqF sq=rt at*
 generalize aN (n+1) (dk f)=D at*
 generalize eF n f n=M at*
 generalize mz n f k=r at*
 generalize dk f (k+1)=d1 at*
 generalize dk f k=d0 at*
 generalize sQ f k y=F at*
 have cA: -46911780290560<=lo/\lo<=46911780290560:=by omega
 have cx: -46911780290560<=E/\E<=46911780290560:=by omega
 clear b1 b4;have cm:(d1=0)=False:=eq_false (by omega);refine pD func139 rfl (by kernel_rfl) SD (by simp) (by simp[selfTV,bz]) (by simp[selfTV]) (BQ 0 _ _ _ _ _ _ _) (BQ 0 _ _ _ _ _ _ _) (Tz 0 _ _ _ _ _ _ _ _ _ _) ?_;rw[ntmps139];refine dT.weak (aj (tm:=(.raw (.int .i64 (k:Int))::.raw (.int .i64 X)::.raw (.bool z)::.one (.ptr 0 1 0 0)::.one (.ptr 0 2 0 0)::.one (.ptr 0 0 0 0)::.one (.ptr 0 6 0 0)::.one (.ptr 0 4 0 0)::j16 (j16 (j16 (j16 (j16 (j16 (j16 (jk::jk::jk::[]))))))))) (l:=[(0,BP 0 n (k+1) y D M acc ex)]) ⟨rfl,trivial⟩ (by simp[wk,ae])) ?_;refine dK (aE e1 ba) (k:=bP (dK (aE hM bh) (k:=?_)));refine jD (G:=jW y.length) (fun q=>⟨(.raw (.int .i64 (k:Int))::.raw (.int .i64 X)::.raw (.bool z)::.one (.ptr 0 1 0 0)::.one (.ptr 0 2 0 0)::.one (.ptr 0 0 0 0)::.one (.ptr 0 6 0 0)::.one (.ptr 0 4 0 0)::jk::jk::jk::.raw (.int .i64 d1)::.raw (.int .i64 (F q.i))::j16 (jk::jk::jk::.one (.p (.sl (ls fI r)))::rN y.length::rN q.i::j16 (j16 (j16 (j16 (j16 (j4 (j4 ([]))))))))),Hm [(0,BP 0 n (k+1) y D M acc ex)]⟩) (fun _=>()) (fun q=>y.length-q.i) ⟨0,by omega⟩ ?_ rfl ?_
 ·refine aj ⟨rfl,trivial⟩ ?_;simp[wk,a3];omega
 rintro⟨i,cy⟩;simp only;by_cases hm:i<y.length
 ·have bd:=hR i hm;have s0:=Z i (by omega);have s1:=Z (i+1) (by omega);have s2:=a4 i;have e3:IntKind.i64.wrap (((k+1:Nat):Int)+(i:Int))=((k+1+i:Nat):Int):=by rw[aP (by omega) (by omega)];omega
  have bp:=Mg (k+1) i y;have bq:=i9 (k+1) y;have ci:y[i]?=some (y.getD i 0):=by rw[Yf,X0 hm];rfl
  generalize bk f k k (k+(i+1))=q at*
  generalize y.getD i 0=yi at*
  refine fC (k:=DY rfl (bP (fo (dK bd (k:=pu (aE e1 (aE e3 (aE bp (aE ci s2)))) (k:=sX (k:=?_)))))));refine⟨⟨i+1,by omega⟩,by grind,aj ⟨rfl,trivial⟩ ?_,trivial⟩;simp[wk]
 have bt:i=y.length:=by omega
 subst bt;refine fC (k:=DW rfl (dK (aE a9 a5) (k:=Ld [⟨1,_,_,_,cR⟩] (k:=?_))));refine mL [⟨4,_,_,_,a7⟩,⟨10,_,_,_,a8⟩] [] (by kernel_rfl) fun _ K=>?_;simp(disch:=omega) only[kd,<- al,aa,aP,<- av,af];apply K
 refine bP (Bs (S:=⟨(.raw (.int .i64 (k:Int))::jk::.raw (.bool z)::.one (.ptr 0 1 0 0)::.one (.ptr 0 2 0 0)::.one (.ptr 0 0 0 0)::.one (.ptr 0 6 0 0)::.one (.ptr 0 4 0 0)::jk::jk::jk::.raw (.int .i64 d1)::.raw (.int .i64 (F y.length))::jk::jk::.raw (.int .i64 sq)::jk::.raw (.int .i64 (if z=true then 0 else lo))::.raw (.int .i64 E)::j16 (j16 (j16 (j16 (j16 (j16 (j4 (j4 ([]))))))))),Hm [(0,BP 0 n (k+1) y D M acc ex)]⟩) ?_ ?_)
 ·cases z with
  |true=>
   refine fC (k:=f4 rfl (sX (k:=?_)));refine⟨aj ⟨rfl,trivial⟩ ?_,rfl⟩;simp[wk]
  |false=>
   refine fC (k:=fB rfl (dJ ?_));refine⟨aj ⟨rfl,trivial⟩ ?_,rfl⟩;simp[wk]
 refine fC (k:=?_);have bl:((acc++(rng (if z=true then 0 else lo) E).flatMap h)).length<=1000000:=R;generalize bm:acc++(rng (if z=true then 0 else lo) E).flatMap h=T at*
 refine jD (G:=Xq (if z=true then 0 else lo) E h T) (fun v=>⟨(.raw (.int .i64 (k:Int))::jk::.raw (.bool z)::.one (.ptr 0 1 0 0)::.one (.ptr 0 2 0 0)::.one (.ptr 0 0 0 0)::.one (.ptr 0 6 0 0)::.one (.ptr 0 4 0 0)::jk::jk::jk::.raw (.int .i64 d1)::.raw (.int .i64 (F y.length))::jk::jk::.raw (.int .i64 sq)::jk::jk::.raw (.int .i64 E)::.raw (.int .i64 v.x)::j16 (j16 (j16 (j16 (j16 (j16 (j4 (jk::jk::jk::[])))))))),Hm [(0,BP 0 n (k+1) y D M v.acc ex)]⟩) (fun _=>()) (fun v=>(E+1-v.x).toNat) ⟨_,acc,aaa _,bm⟩ ?_ rfl ?_
 ·refine aj ⟨rfl,trivial⟩ ?_;simp[wk]
 rintro⟨x,C,cP,w⟩;simp only;by_cases hx:x<=E
 ·have cg:z=true->0<=x:=fun e=>by grind
  have V:lo<=x:=by
   cases z with
   |true=>grind
   |false=>grind
  obtain⟨bc,hq⟩:=a6 x V hx;have b3:=a1 x bc;rw[gC hx,aaA,<- Ye]at w;have J:(C++h x).length<=1000000:=by
   rw[<- w,YJ]at bl;omega
  have cS:(d1*x).natAbs<=65535*46911780290560:=by
   rw[Y1];exact Yn (by omega) (by omega)
  have Q:=fun e=>ag e x
  generalize a2:o8 f n B k (aR n (x::y))=O at*
  have b2:0<=d1*O:=Yj (by omega) b3.1;have ad:Int.tdiv (sq-(d1*x+F y.length)*(d1*x+F y.length)) d1=O:=by rw[hq];exact aas _ (by omega)
  have cM:0<=(d1*x+F y.length)*(d1*x+F y.length):=by
   rcases ZM 0 (d1*x+F y.length)with h|h
   ·exact Yj h h
   exact Yx h h
  have bq:=i9 (k+1) y;have br:=mV k x y;have bn:(fK (k+1)++lc fI y)[k]?=some [.junk]:=by
   rw[XS (by simp[fK])];simp[fK]
  refine bP (fC (k:=f4 rfl (dJ (bP (fo (dK (aE bn br) (k:=fC (k:=?_))))))));generalize hU:(d1*x+F y.length)*(d1*x+F y.length)=uu at*
  refine dK (aE hU ad) (k:=fo ?_);cases k with
  |zero=>
   have L:=Q rfl;obtain⟨bb,u⟩: ∃bb:Bool,bb=((z&&decide (x=0))||(ex&&!decide (O=0))):=⟨_,rfl⟩;have ap:h x=if bb=true then[]else[x::y]:=by rw[L,u];simp
   clear L Q ag ah;have bx:(0<((0:Nat):Int))=False:=eq_false (by omega);have bw:fK 0++lc fI (x::y)=lc fI (x::y):=rfl;refine dK bx (k:=fB rfl ?_);simp only[bw];refine bP (Bs (S:=⟨(.raw (.int .i64 ((0:Nat):Int))::jk::.raw (.bool z)::.one (.ptr 0 1 0 0)::.one (.ptr 0 2 0 0)::.one (.ptr 0 0 0 0)::.one (.ptr 0 6 0 0)::.one (.ptr 0 4 0 0)::jk::jk::jk::.raw (.int .i64 d1)::.raw (.int .i64 (F y.length))::jk::jk::.raw (.int .i64 sq)::jk::jk::.raw (.int .i64 E)::.raw (.int .i64 x)::j16 (j16 (j16 (j16 (j16 (j4 (j4 (j4 (.raw (.bool bb)::j4 (j4 (jk::jk::[]))))))))))),Hm [(0,BP 0 n 0 (x::y) D M C ex)]⟩) ?_ ?_)
   ·cases z with
    |false=>
     refine fC (k:=fB rfl ?_);cases ex with
     |false=>
      refine sX (k:=?_);refine⟨aj ⟨rfl,trivial⟩ ?_,rfl⟩;simp[wk,u]
     |true=>
      by_cases t:O=0
      ·have A:(O=0)=True:=eq_true t;refine pu A (k:=?_);refine⟨aj ⟨rfl,trivial⟩ ?_,rfl⟩;simp[wk,u,t]
      have A:(O=0)=False:=eq_false t;refine pu A (k:=?_);refine⟨aj ⟨rfl,trivial⟩ ?_,rfl⟩;simp[wk,u,t]
    |true=>
     by_cases b:x=0
     ·have s:(x=0)=True:=eq_true b;refine dK s (k:=f4 rfl (dJ ?_));refine⟨aj ⟨rfl,trivial⟩ ?_,rfl⟩;simp[wk,u,b]
     have s:(x=0)=False:=eq_false b;refine dK s (k:=fB rfl ?_);cases ex with
     |false=>
      refine sX (k:=?_);refine⟨aj ⟨rfl,trivial⟩ ?_,rfl⟩;simp[wk,u,b]
     |true=>
      by_cases t:O=0
      ·have A:(O=0)=True:=eq_true t;refine pu A (k:=?_);refine⟨aj ⟨rfl,trivial⟩ ?_,rfl⟩;simp[wk,u,t,b]
      have A:(O=0)=False:=eq_false t;refine pu A (k:=?_);refine⟨aj ⟨rfl,trivial⟩ ?_,rfl⟩;simp[wk,u,t,b]
   rw[ap]at w J;cases bb with
   |true=>
    rw[if_pos rfl,YI]at w;refine f4 rfl (dJ (sX (k:=?_)));refine⟨⟨x+1,C,by omega,w⟩,by simp only;omega,(mE (m:=0) rfl).trans (aj ⟨rfl,trivial⟩ ?_),trivial⟩;simp[wk]
   |false=>
    rw[if_neg (by decide)]at w J;have cC:=Lx (x::y) (by simp) (by grind);have cr:(x::y).length=n:=by omega
    have cl:C.length+1<=1000000:=by grind
    generalize cc:x::y=xy at*
    refine fB rfl ?_;refine xC ch 2 0 96 3 0 2 (lc fI xy) (.sl (ls fI xy)) (f:=142) (ts:=[.one (.sl 0 3 0 n)]) [] [] (by kernel_rfl) (by kernel_rfl) rfl (by decide) fun K g=>?_
    simp only[kd];refine g _ ⟨rfl,rfl,rfl,?_,?_⟩
    ·intro vs b5;obtain rfl:vs=[]:=ZG b5;refine⟨_,_,cC,⟨rfl,fun o ho e w x hx=>?_⟩,⟨.inr (.inl ⟨3,0,n,_,rfl,rfl,bi 2 1 xy,?_⟩),trivial⟩,fun H hH=>?_⟩
     ·simp only[XT]at ho;subst ho;obtain⟨z,_,rfl⟩:=XR.1 w;simp only[fI,X9,Yu,XT]at hx;subst hx;rfl
     ·grind [lY,nK]
     simp only[X9,Yu,renO,jL]at hH;refine⟨bS hH,?_⟩;simp only[renTV,b6,fb,dD,if_true,hH,aay];grind [lY,fL]
    clear g K;intro K g;simp(disch:=omega) only[kd,aa,Nat.reduceMul,Nat.reduceLeDiff,List.any_cons,af,List.any_nil];apply g;clear g K;show dT _ _ _ _ _ _ _;refine sX (k:=?_);subst cc;refine⟨⟨x+1,C++[x::y],by omega,w⟩,by simp only;omega,(mE (m:=0) (c:=x) (y:=y) (acc:=C++[x::y]) ?_).trans (aj ⟨rfl,trivial⟩ ?_),trivial⟩
    ·have bR:List.map (List.map (aL fun x y=>x==0&&y==5)) (fK 0++lc fI (x::y))=fK 0++lc fI (x::y):=tE _ _;simp only[aI,bR,BP,YJ,Ym,Zu,Yw,<- Mt];rfl
    simp[wk]
  |succ j=>
   have L:=ah j rfl x;have e4:IntKind.i64.wrap (((j+1:Nat):Int)-1)=(j:Int):=by rw[aP (by omega) (by omega)];omega
   have b0:(0<((j+1:Nat):Int))=True:=eq_true (by omega);rw[L]at J w;have Y:=a0 j rfl x C V hx cg J;rw[a2]at Y;generalize wX f n B ex j (x::y) (z&&decide (x=0))=W at*
   refine dK b0 (k:=f4 rfl ?_);cases z with
   |false=>
    simp only[abq]at Y;refine ik 9 Y 0 [] [] (by kernel_rfl) (by omega) (by decide) fun K g=>?_
    simp(disch:=omega) only[kd,aa,e4];refine g _ ⟨⟨rfl,(tz 0 0 _ _ _ _ _ _ _).symm⟩,?_⟩;clear g K;intro K g;simp(disch:=omega) only[kd,aa,En,mw,SD,pR,my,af,YN,gU];apply g;clear g K;show dT _ _ _ _ _ _ _;refine sX (k:=?_);refine⟨⟨x+1,C++W,by omega,w⟩,by simp only;omega,(mE rfl).trans (aj ⟨rfl,trivial⟩ ?_),trivial⟩;simp[wk]
   |true=>
    by_cases b:x=0
    ·subst b;simp only[aa9,decide_true]at Y;refine ik 9 Y 0 [] [] (by kernel_rfl) (by omega) (by decide) fun K g=>?_
     simp(disch:=omega) only[kd,aa,e4];refine g _ ⟨⟨rfl,(tz 0 0 _ _ _ _ _ _ _).symm⟩,?_⟩;clear g K;intro K g;simp(disch:=omega) only[kd,aa,En,mw,SD,pR,my,af,YN,gU];apply g;clear g K;show dT _ _ _ _ _ _ _;refine sX (k:=?_);refine⟨⟨0+1,C++W,by omega,w⟩,by simp only;omega,(mE rfl).trans (aj ⟨rfl,trivial⟩ ?_),trivial⟩;simp[wk]
    have s:(x=0)=False:=eq_false b;simp only[aa9,s,decide_false]at Y;refine ik 9 Y 0 [] [] (by kernel_rfl) (by omega) (by decide) fun K g=>?_
    simp(disch:=omega) only[kd,aa,e4,s];refine g _ ⟨⟨rfl,(tz 0 0 _ _ _ _ _ _ _).symm⟩,?_⟩;clear g K;intro K g;simp(disch:=omega) only[kd,aa,En,mw,SD,pR,my,af,YN,gU];apply g;clear g K;show dT _ _ _ _ _ _ _;refine sX (k:=?_);refine⟨⟨x+1,C++W,by omega,w⟩,by simp only;omega,(mE rfl).trans (aj ⟨rfl,trivial⟩ ?_),trivial⟩;simp[wk]
 rw[iX hx,aan,YI]at w;subst w;refine bP (fC (k:=fB rfl (mJ ?_)));show _/\_;refine⟨.inl rfl,trivial,_,aj (tm:=(jk::jk::jk::.one (.ptr 0 1 0 0)::.one (.ptr 0 2 0 0)::.one (.ptr 0 0 0 0)::.one (.ptr 0 6 0 0)::.one (.ptr 0 4 0 0)::j16 (j16 (j16 (j16 (j16 (j16 (j16 (jk::jk::jk::[]))))))))) (l:=[(0,BP 0 n (k+1) y D M C ex)]) ⟨rfl,trivial⟩ (by simp[wk]),⟨gT _,rfl⟩,by simp⟩
end
end
section
noncomputable def pf (f:FF) (n:Nat) (B:Int):Nat->List Int->List (Int×Int)
 |0,y=>[(dR f n B 0 (aR n y),eQ f n B 0 (aR n y))]
 |k+1,y=>(dR f n B (k+1) (aR n y),eQ f n B (k+1) (aR n y))::(rng (dR f n B (k+1) (aR n y)) (eQ f n B (k+1) (aR n y))).flatMap fun c=>pf f n B k (c::y)
abbrev DE (a n m:Nat) (y D:List Int) (M:List (List Int)) (acc:List (Int×Int)):List OObj:=[⟨190,1,[[.fn 146 a [(1,0,0),(2,0,0),(4,0,0),(0,0,0)]]]⟩,⟨188,2,[[.p (.sl (ls fI D)),.p (.sl (ls (fR fI) M))]]⟩,⟨35,1,[[.sl a 3 0 n]]⟩,⟨2,1,fK m++lc fI y⟩,⟨76,1,[[.sl a 5 0 acc.length]]⟩,⟨133,2,lc fV acc⟩]
theorem GG (a d n m:Nat) (y D:List Int) (M:List (List Int)) (acc:List (Int×Int)):(DE a n m y D M acc).map (renO d)=DE d n m y D M acc:=by
 simp only[DE,X9,Yu,renO,b6,jL,YN,gU,aa3,YD,if_false]
theorem B7 (a n m:Nat) (y D:List Int) (M:List (List Int)) (acc:List (Int×Int)): ∀o∈DE a n m y D M acc,selfO a o:=fun o f e b x c=>by
 simp only[Yo,Y3,or_false]at f;rcases f with rfl|rfl|rfl|rfl|rfl|rfl
 ·simp only[XT]at b;subst b;simp only[XT]at c;subst c;exact⟨rfl,by simp⟩
 ·simp only[XT]at b;subst b;simp only[Yo,Y3,or_false]at c;rcases c with rfl|rfl<;>trivial
 ·simp only[XT]at b;subst b;simp only[XT]at c;subst c;rfl
 ·simp only[YK]at b;rcases b with b|b
  ·obtain⟨_,rfl⟩:=Zz.1 b;simp only[XT]at c;subst c;trivial
  exact ck (bi 2 1 _ e b x c)
 ·simp only[XT]at b;subst b;simp only[XT]at c;subst c;rfl
 exact ck (bi 133 2 _ e b x c)
abbrev U6:List (Nat×Nat):=[(1,2),(2,3),(4,4),(0,5)]
theorem TF (a n m f:Nat) (y g D:List Int) (M:List (List Int)) (acc b:List (Int×Int)): ∀r∈U6.map Prod.fst,∀o,(DE a n m y D M acc)[r]?=some o-> ∃c,(DE a n f g D M b)[r]?=some c/\c.es=o.es/\o.elems.length<=c.elems.length:=fun r e o h=>by
 simp only[U6,X9,Yu,Yo,Y3,or_false]at e;grind
abbrev Xy (k:Nat) (b:Int):List TV:=[.raw (.int .i64 (k:Int)),.raw (.int .i64 b),.one (.ptr 0 1 0 0),.one (.ptr 0 2 0 0),.one (.ptr 0 4 0 0),.one (.ptr 0 0 0 0)]
abbrev Vi (n:Nat) (f:FF) (B:Int) (k:Nat) (y:List Int) (acc:List (Int×Int)):Prop:=
 kL prog Wk (U6.map Prod.fst) 146 (Xy k (o8 f n B (k+1) (aR n y))) (DE 0 n (k+1) y (aN (n+1) (dk f)) (eF n f n) acc) (DE 0 n (k+1) y (aN (n+1) (dk f)) (eF n f n) (acc++pf f n B k y)) () () (.tup [])
theorem KS {y D:List Int} {M:List (List Int)} {acc:List (Int×Int)} (b:s.H 0=DE 0 n m (x::y) D M acc):bv s ⟨s.tmps,aw s.H 0 (DE 0 n (m+1) y D M acc)⟩:=by
 have h:=lE (s:=s) 0 3 (o:=⟨2,1,fK m++lc fI (x::y)⟩) (o':=⟨2,1,fK (m+1)++lc fI y⟩) (by rw[b];rfl) rfl rfl (by simp only[i9,Ym];omega) fun i e f=>by
  rw[<- mV m x y];grind [fK]
 grind
theorem Mh (m:Nat) (y:List Int) (b:Nat->Nat->Bool):List.map (List.map (aL b)) (fK m++lc fI y)=fK m++lc fI y:=by
 simp_all[tE,fK,aL]
structure Xd (lo hi:Int) (h:Int->List (Int×Int)) (T:List (Int×Int)) where
 x:Int
 acc:List (Int×Int)
 h1:lo<=x
 e:acc++(rng x hi).flatMap h=T
section
variable {n:Nat} {f:FF} {B:Int}
theorem LR (q:mD n f B) (k:Nat) (y:List Int) (acc:List (Int×Int)) (Q:y.length+(k+1)=n) (hT:oy y) (I:fO f n B (k+1) (aR n y)) (g:(acc++pf f n B k y).length<=2000000)
  (U: ∀j,k=j+1-> ∀c w,dR f n B k (aR n y)<=c->c<=eQ f n B k (aR n y)->(w++pf f n B j (c::y)).length<=2000000->Vi n f B j (c::y) w):Vi n f B k y acc:=by
 have br:=q.n8;have bn:=q.d (k:=k) (by omega);have N:=q.d (k:=k+1) (by omega);have ah:=az (dk f) (show k<n+1 by omega);have al:=az (dk f) (show k+1<n+1 by omega);have bl:=aH (n+1) (dk f);have X:=q.shP_c Q hT (XY _);have A:=n5 f Q;have bt:=q.rs0 (k:=k+1) (by omega) I;have t:=q.sq (k:=k) (by omega) I;have a7:=q.lohi Q hT I;have bb:=Rq (m:=y.length+1) (by omega);have bw:=mT t.1 t.2;have cR:=wl (.inr (.inr rfl)) _ t.1 t.2;have cS:=fun xs h1 h2=>Ra q k y xs Q hT h1 h2
 have ba:=fun c=>q.step Q (c:=c) I
 have Y:dk f k*o8 f n B (k+1) (aR n y)=kJ f n B k (aR n y):=rfl;rw[A]at X;have S:dR f n B k (aR n y)=0-(isqF (kJ f n B k (aR n y))+tc f n k (aR n y))/dk f (k+1):=by grind [dR]
 have P:eQ f n B k (aR n y)=(isqF (kJ f n B k (aR n y))-tc f n k (aR n y))/dk f (k+1):=rfl;have ad:=nI (.inr (.inr rfl)) (isqF (kJ f n B k (aR n y))+tc f n k (aR n y)) (dk f (k+1)) N.1 (by omega) (by omega) (by omega);have ag:=nI (.inr (.inr rfl)) (isqF (kJ f n B k (aR n y))-tc f n k (aR n y)) (dk f (k+1)) N.1 (by omega) (by omega) (by omega);have e1:IntKind.i64.wrap ((k:Int)+1)=((k+1:Nat):Int):=aP (by omega) (by omega);have hS: ∃h:Int->List (Int×Int),pf f n B k y=(dR f n B k (aR n y),eQ f n B k (aR n y))::(if k=0 then[]else(rng (dR f n B k (aR n y)) (eQ f n B k (aR n y))).flatMap h)/\ ∀j,k=j+1-> ∀c,h c=pf f n B j (c::y):=by
  cases k with
  |zero=>exact⟨fun _=>[],rfl,fun j e=>absurd e (by omega)⟩
  |succ j=>
   refine⟨_,rfl,fun j' e c=>?_⟩;grind
 obtain⟨h,hS,a3⟩:=hS;have V: ∀c,fO f n B k (aR n (c::y))->0<=o8 f n B k (aR n (c::y))/\o8 f n B k (aR n (c::y))<=70368744177664:=fun c h=>q.rs0 (by omega) h
 clear q I hT A;unfold Vi at*
 rw[hS]at g⊢;clear hS;generalize dR f n B k (aR n y)=u at*
 generalize eQ f n B k (aR n y)=b at*
 generalize kJ f n B k (aR n y)=sq at*
 generalize o8 f n B (k+1) (aR n y)=ab at*
 generalize isqF sq=rt at*
 generalize aN (n+1) (dk f)=D at*
 generalize eF n f n=M at*
 generalize dk f (k+1)=d1 at*
 generalize dk f k=d0 at*
 generalize tc f n k (aR n y)=s at*
 have bq: -46911780290560<=u/\u<=46911780290560:=by omega
 have bp: -46911780290560<=b/\b<=46911780290560:=by omega
 clear a7 bb;have bh:(d1=0)=False:=eq_false (by omega);have L:acc.length+1<=2000000:=by
  grind
 refine pD func146 rfl (by kernel_rfl) U6 (by simp) (by simp[selfTV,bz]) (by simp[selfTV]) (B7 0 _ _ _ _ _ _) (B7 0 _ _ _ _ _ _) (TF 0 _ _ _ _ _ _ _ _ _) ?_;rw[ntmps146];refine dT.weak (aj (tm:=(.raw (.int .i64 (k:Int))::.raw (.int .i64 ab)::.one (.ptr 0 1 0 0)::.one (.ptr 0 2 0 0)::.one (.ptr 0 4 0 0)::.one (.ptr 0 0 0 0)::j16 (j16 (j16 (j16 (j4 (j4 (jk::[])))))))) (l:=[(0,DE 0 n (k+1) y D M acc)]) ⟨rfl,trivial⟩ (by simp[wk,ae])) ?_;refine bP (xC ch 8 0 24 3 (k+1) 2 (lc fI y) (.raw (.int .i64 s)) (f:=147) (ts:=[.one (.ptr 0 1 0 0),.raw (.int .i64 (k:Int)),.one (.sl 0 3 0 n)]) [] [] (by kernel_rfl) (by kernel_rfl) rfl (by decide) fun K z=>?_);simp(disch:=omega) only[kd,aa,e1,al];refine z _ ⟨rfl,rfl,rfl,?_,?_⟩
 ·intro vs bc;refine⟨_,_,cS (vs.map (fun v=>[PV.raw v])++ls fI y) (by grind [dE]) (fun i b=>?_),⟨rfl,by simp⟩,⟨.inr (.inr ⟨1,0,0,_,_,rfl,rfl,rfl,by simp[isPure],rfl⟩),.inl ⟨rfl,rfl⟩,.inr (.inl ⟨3,0,n,_,rfl,rfl,?_,?_⟩),trivial⟩,fun H hH=>⟨fun r o ho=>by rw[hH]at ho;simp at ho,rfl⟩⟩
  ·rw[XW (by rw[YB];omega),YB,bc,show k+1+i-(k+1)=i by omega,fh,X0 b,Yf,X0 b];rfl
  ·intro e p x C;simp only[YK,XR]at p;rcases p with⟨v,_,rfl⟩|p
   ·simp only[XT]at C;subst C;rfl
   exact bi 2 1 y e p x C
  rw[Yw,Zs,X3 (by grind [lY]),YN,nK,Y0];rfl
 clear z K;intro K z;simp only[kd,aa];apply z;clear z K cS;show dT _ _ _ _ _ _ _;refine dK (aE ah Y) (k:=Ld [⟨1,_,_,_,cR⟩] (k:=?_));refine mL [⟨4,_,_,_,ad⟩,⟨10,_,_,_,ag⟩] [] (by kernel_rfl) fun _ K=>?_;simp(disch:=omega) only[kd,<- P,aa,aP,<- S,af];apply K
 have R: ∀κ,List.map (List.map (aL κ)) (fK (k+1)++lc fI y)=fK (k+1)++lc fI y:=Mh (k+1) y;refine dK (aE @List.any_cons (aE @List.any_nil R)) (k:=?_);clear R;generalize E:acc++[(u,b)]=F at*
 refine dT.weak (aj (tm:=(.raw (.int .i64 (k:Int))::jk::.one (.ptr 0 1 0 0)::.one (.ptr 0 2 0 0)::.one (.ptr 0 4 0 0)::.one (.ptr 0 0 0 0)::jk::jk::.raw (.int .i64 d1)::.raw (.int .i64 s)::.raw (.int .i64 sq)::jk::.raw (.int .i64 u)::.raw (.int .i64 b)::j16 (j16 (j16 (j16 (jk::[])))))) (l:=[(0,DE 0 n (k+1) y D M F)]) ⟨?_,trivial⟩ (by simp[wk])) ?_
 ·subst E;simp only[aI,DE,YJ,Ym,Zu,Yw,<- Mt];rfl
 have bd:F.length<=2000000:=by rw[<- E,YJ];exact L
 rw[show acc++(u,b)::(if k=0 then[]else(rng u b).flatMap h)=F++(if k=0 then[]else(rng u b).flatMap h) by rw[<- E,Ye];rfl]at g⊢;cases k with
 |zero=>
  have a5:(((0:Nat):Int)=0)=True:=eq_true rfl;refine bP (dK a5 (k:=f4 rfl (lH ?_)));rw[if_pos rfl,YI];refine⟨.inr rfl,rfl,_,aj (tm:=(jk::jk::.one (.ptr 0 1 0 0)::.one (.ptr 0 2 0 0)::.one (.ptr 0 4 0 0)::.one (.ptr 0 0 0 0)::j16 (j16 (j16 (j16 (j4 (j4 (jk::[])))))))) (l:=[(0,DE 0 n (0+1) y D M F)]) ⟨rfl,trivial⟩ (by simp[wk]),⟨gT _,rfl⟩,by simp⟩
 |succ j=>
  rw[if_neg (by omega)]at g⊢;have a6:(((j+1:Nat):Int)=0)=False:=eq_false (by omega);have e4:IntKind.i64.wrap (((j+1:Nat):Int)-1)=(j:Int):=by grind [aP]
  refine bP (dK a6 (k:=fB rfl (dJ (fC (k:=?_)))));generalize av:F++(rng u b).flatMap h=T at*
  refine jD (G:=Xd u b h T) (fun v=>⟨(.raw (.int .i64 ((j+1:Nat):Int))::jk::.one (.ptr 0 1 0 0)::.one (.ptr 0 2 0 0)::.one (.ptr 0 4 0 0)::.one (.ptr 0 0 0 0)::jk::jk::.raw (.int .i64 d1)::.raw (.int .i64 s)::.raw (.int .i64 sq)::jk::jk::.raw (.int .i64 b)::.raw (.int .i64 v.x)::j16 (j16 (j16 (j16 ([]))))),Hm [(0,DE 0 n (j+1+1) y D M v.acc)]⟩) (fun _=>()) (fun v=>(b+1-v.x).toNat) ⟨_,F,aaa _,av⟩ ?_ rfl ?_
  ·refine aj ⟨rfl,trivial⟩ ?_;simp[wk]
  rintro⟨x,ac,Z,p⟩;simp only;by_cases C:x<=b
  ·obtain⟨ap,hq⟩:=ba x Z C;have a9:=V x ap;rw[gC C,aaA,<- Ye]at p;have J:(ac++h x).length<=2000000:=by
    rw[<- p,YJ]at g;omega
   have bR:(d1*x).natAbs<=65535*46911780290560:=by
    rw[Y1];exact Yn (by omega) (by omega)
   have a4:=a3 j rfl x;rw[a4]at J p;have cV:=U j rfl x ac Z C J;generalize o8 f n B (j+1) (aR n (x::y))=rx at*
   generalize pf f n B j (x::y)=W at*
   have a8:0<=d1*rx:=Yj (by omega) a9.1;have O:Int.tdiv (sq-(d1*x+s)*(d1*x+s)) d1=rx:=by rw[hq];exact aas _ (by omega)
   have bx:0<=(d1*x+s)*(d1*x+s):=by
    rcases ZM 0 (d1*x+s)with h|h
    ·exact Yj h h
    exact Yx h h
   have bm:=i9 (j+1+1) y;have a2:=mV (j+1) x y;have a0:(fK (j+1+1)++lc fI y)[j+1]?=some [.junk]:=by
    rw[XS (by simp[fK])];simp[fK]
   refine bP (fC (k:=f4 rfl (dJ (bP (fo (dK (aE a0 a2) (k:=fC (k:=?_))))))));generalize hU:(d1*x+s)*(d1*x+s)=uu at*
   refine mK ch cV 0 [] [] (by kernel_rfl) (by omega) (by kernel_rfl) fun K z=>?_
   simp(disch:=omega) only[kd,YW,aa,Nat.reduceSub,e4,hU,aP,O];refine z _ ⟨⟨rfl,?_⟩,?_⟩
   ·exact(GG 0 0 _ _ _ _ _ _).symm
   clear z K;show dT _ _ _ _ _ _ _;refine pu (aE @En.eq_1 (aE @mw.eq_1 (aE @YW (aE @Nat.reduceSub (aE @U6.eq_1 (aE @pR.eq_1 (aE @my.eq_1 (aE @YN @gU)))))))) (k:=?_);refine⟨⟨x+1,ac++W,by omega,p⟩,by simp only;omega,(KS rfl).trans (aj ⟨rfl,trivial⟩ ?_),trivial⟩;simp[wk]
  rw[iX C,aan,YI]at p;subst p;refine bP (fC (k:=fB rfl (mJ ?_)));show _/\_;refine⟨.inl rfl,trivial,_,aj (tm:=(jk::jk::.one (.ptr 0 1 0 0)::.one (.ptr 0 2 0 0)::.one (.ptr 0 4 0 0)::.one (.ptr 0 0 0 0)::j16 (j16 (j16 (j16 (j4 (j4 (jk::[])))))))) (l:=[(0,DE 0 n (j+1+1) y D M ac)]) ⟨rfl,trivial⟩ (by simp[wk]),⟨gT _,rfl⟩,by simp⟩
end
end
def ML (h B:Int) (ex:Bool) (x:Int):List (List Int):=if(!ex||decide (h*x*x=B))=true then[[x]]else[]
structure Xj (r:Int) (g:Int->List (List Int)) (T:List (List Int)) where
 x:Int
 acc:List (List Int)
 h1:1<=x
 h2:x<=r+1
 e:acc++(rng x r).flatMap g=T
theorem T3 {h B x:Int} (c:0<h) (b:0<=B) (f:1<=x):h*x*x<=B↔x<=isqF (B/h):=by
 have e:0<=B/h:=Zn b (by omega);rw[show h*x*x=x*x*h by grind,<- ZL c,pQ (dH e)];omega
theorem T4 (h B:Int) (ex:Bool) (L:0<h) (z:h<=10000) (y:0<=B) (H:B<=4611686018427387904) (E:((rng 1 (isqF (B/h))).flatMap (ML h B ex)).length<=1000000):
  CallC prog 137 [.raw (.int .i64 h),.raw (.int .i64 B),.raw (.bool ex)] ⟨[],dq ((rng 1 (isqF (B/h))).flatMap (ML h B ex))⟩:=by
 have N:0<=B/h:=Zn y (by omega);have O:B/h<=B:=aal _ y;have V:=mT N (by omega);have f:=fun x (l:1<=x)=>T3 (x:=x) L y l
 have n: ∀x,1<=x->x<=2147483649->h*x<=21474836490000/\0<=h*x:=fun x H I=>by
  have:=YG z I (by omega) (by omega);exact⟨by omega,Yj (by omega) (by omega)⟩
 have o: ∀x,1<=x->x<=isqF (B/h)+1->0<=h*x*x/\h*x*x<=4611800000000000000:=fun x P W=>by
  obtain⟨F,C⟩:=n x P (by omega);refine⟨Yj C (by omega),?_⟩;by_cases l:x<=isqF (B/h)
  ·grind
  by_cases e:x=1
  ·grind
  have S:=(f (x-1) (by omega)).2 (by omega);grind
 generalize J:(rng 1 (isqF (B/h))).flatMap (ML h B ex)=T at*
 generalize isqF (B/h)=r at*
 refine aB func137 rfl ntmps137 (aC (k:=bH (k:=ai (bH (k:=?_)))));refine aG (G:=Xj r (ML h B ex) T) (fun g=>⟨(.raw (.int .i64 h)::.raw (.int .i64 B)::.raw (.bool ex)::j4 (.one (.sl 33 0 0 g.acc.length)::.raw (.int .i64 g.x)::j16 (j4 (j4 (jk::jk::[]))))),Hm [(33,[⟨35,1,lc (fR fI) g.acc⟩])]⟩) (fun g=>(r+1-g.x).toNat) ⟨1,[],by omega,by omega,by rw[ZV];exact J⟩ ?_ ?_
 ·refine(d6 (k:=7) (d:=33) 35 1 (by omega) rfl rfl).trans (aj ⟨rfl,trivial⟩ ?_);simp[wk]
 rintro⟨x,acc,e,A,b⟩;simp only;obtain⟨F,C⟩:=n x e (by omega);obtain⟨Q,R⟩:=o x e A;have D:=f x e;by_cases l:x<=r
 ·have M:=D.2 l;rw[gC l,aaA,<- Ye]at b;have c:(acc++ML h B ex x).length<=1000000:=by
   grind
  rw[show ML h B ex x=if(!ex||decide (h*x*x=B))=true then[[x]]else[]from rfl]at b c;generalize U:ML h B ex=G at*
  generalize s:h*x=u at*
  generalize t:u*x=w at*
  refine ai (aK (aE s t) (k:=aD rfl (ak (ai (am ?_)))));have q:lc (fR fI) acc++[[AV.p (.sl [[.raw (.int .i64 x)]])]]=lc (fR fI) (acc++[[x]]):=rz acc [x];cases ex with
  |false=>
   simp only[Bool.not_false,Bool.true_or,if_true]at b c;have m:acc.length+1<=1000000:=by grind
   refine ar (k:=aD rfl (dU q (k:=bK (k:=?_))));refine⟨⟨x+1,acc++[[x]],by omega,by omega,b⟩,by grind,aj ⟨rfl,trivial⟩ ?_⟩;simp[wk]
  |true=>
   simp only[abz,aa8,decide_eq_true_eq]at b c;by_cases v:w=B
   ·have j:(w=B)=True:=eq_true v;rw[if_pos v]at b c;have m:acc.length+1<=1000000:=by grind
    refine aK (aE s (aE t j)) (k:=aD rfl (dU q (k:=bK (k:=?_))));refine⟨⟨x+1,acc++[[x]],by omega,by omega,b⟩,by grind,aj ⟨rfl,trivial⟩ ?_⟩;simp[wk]
   have j:(w=B)=False:=eq_false v;rw[if_neg v,YI]at b;refine aK (aE s (aE t j)) (k:=ao rfl (ak (bK (k:=?_))));refine⟨⟨x+1,acc,by omega,by omega,b⟩,by grind,aj ⟨rfl,trivial⟩ ?_⟩;simp[wk]
 have K: ¬h*x*x<=B:=fun k=>l (D.1 k)
 rw[iX l,aan,YI]at b;subst b;generalize s:h*x=u at*
 generalize t:u*x=w at*
 refine ai (aK (aE s t) (k:=ao rfl (be (bH (k:=?_)))));refine aZ ⟨.inr rfl,jd 33 (bS rfl) ?_ rfl⟩;simp(disch:=omega) only[kd,results137,dq]
 simp
theorem Gf {P:Program} {c:Code} {Q:Exit->AS->Prop} (h:dT P Wk [] c (fun e s _=>Q e s) s ()):bs P c Q s:=fun l O X a w r=>
 wp_mono (h (fun _=>none) (fun _=>True) l O X a w ⟨QQ.2 r,fun _ g=>by simp at g⟩) fun _ _ _ ⟨j,_,b,f⟩=>⟨j,b,f.1.1⟩
end Go.Proofs.YtalmoejhjceflaaGreat
